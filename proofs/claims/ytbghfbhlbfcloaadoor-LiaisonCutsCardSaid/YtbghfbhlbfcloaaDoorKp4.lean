/- Put together by this session's program pack.py. -/
import Derived.Below
import Derived.Deep.Draws
import Derived.Deep.AppendLies
import Derived.Maps.AppendAt
import Derived.OwnWalk
import Derived.Laws.BytesArg
import Derived.Laws.MakeOwn
import Derived.Laws.OwnMore
import Derived.Deep.OwnRows
import Derived.Tactics
import Derived.Lib.ConvBytes
import Derived.Laws.Slices
import Derived.WalkKit
import Derived.KernelRfl
import Derived.RowKit3
import Derived.Deep.LoopGhost
import Derived.Deep.QuietTactic
import Derived.BigQuiet
import Derived.WideLaws
import Derived.Deep.DeepCutAuto
import Derived.Deep.CutBlock
import Derived.Deep.RegionHeld3
import Derived.Laws.Rows
import Derived.Lib.AppendStr
import Derived.ArgAppend
import Derived.Laws.IdiomCopy
import Derived.OrdersHeld
import Derived.Laws.BitsLemmas
import Derived.RowKit
import Derived.Sort.Grow
import Derived.Shelf.SlSortCmp.InsertionK
import Derived.WalkSpells
import Derived.Shelf.SlSortCmp.NoneTotal
import Derived.Shelf.SlGeneric
import Derived.Ground.SlsfProg
import Derived.RangeFuncNested
import Derived.RangeFuncBound
import Derived.RangeFuncCalls
import Derived.RangeFuncLeaves
import Derived.Shelf.Abstract
import Derived.Shelf.RegionOpen
import Derived.OwnWalkIn
import Derived.TacticsInMore
import Derived.LoopNIn
import Derived.LoopIn
import Derived.OrdersIn
import Derived.RangeFuncKeeps
import Derived.RangeFuncWrites
import Derived.Shelf.SlicesQ.IndexFunc
import Derived.Shelf.GgClosure.StringsIndexFuncTop
import Derived.Ground.SlgfProg
import Derived.Ground.GgwProg
import Derived.Test.YtbghfbhlbfcloaaDoorKw0
import Derived.Test.YtbghfbhlbfcloaaDoorKp0
import Derived.Test.YtbghfbhlbfcloaaDoorKp1
import Derived.Test.YtbghfbhlbfcloaaDoorKp2
import Derived.Test.YtbghfbhlbfcloaaDoorKp3
namespace Go.Proofs.YtbghfbhlbfcloaaDoor.PL
section
open Go.RowKit Go.Proofs.YtbghfbhlbfcloaaDoorW.PrintWords Go.Proofs.YtbghfbhlbfcloaaDoorW.PrintLast Go.Proofs.YtbghfbhlbfcloaaDoorW.PrintMore
attribute [local go_sem] zC2 zC0 zC9 zC8 zBs zBr zC1 zBz   -- for this text's walks alone
set_option linter.unusedVariables false
set_option linter.unusedSimpArgs false
/-! ### zAq: function 26 -/
mutual
def zAq.l0 : Nat → List (S57) → List Int → List (S57) → Int → Int → Option (List Int × Int)
 | 0, _, _, _, _, _ => none
 | k + 1, x0, x7, x19, x20, x21 => if x21 < x20 then (if 0 ≤ x21 then (if x21 < (x19.length : Int) then (zAq.l1 k x0 x7 (-1) x19 x20 x21 x0 (x0.length : Int) 0 ((zAs x19 x21).f0) ((zAs x19 x21).f1)) else (none)) else (none)) else (some (x7, 0))
def zAq.l1 : Nat → List (S57) → List Int → Int → List (S57) → Int → Int → List (S57) → Int → Int → ByteArray → List Int → Option (List Int × Int)
 | 0, _, _, _, _, _, _, _, _, _, _, _ => none
 | k + 1, x0, x7, x10, x19, x20, x21, x25, x26, x27, x486000, x486001 => if x27 < x26 then (if 0 ≤ x27 then (if x27 < (x25.length : Int) then ((zCd.f k x486000 x486001 ((zAs x25 x27).f0) ((zAs x25 x27).f1)).bind fun t488 => (if t488 = true then (if x10 < 0 then (zAq.l1 k x0 x7 x27 x19 x20 x21 x25 x26 (wrap64 (x27 + 1)) x486000 x486001) else (if 0 ≤ x10 then (if x10 < (x0.length : Int) then (if (((zAs x25 x27).f1).length : Int) < (((zAs x0 x10).f1).length : Int) then (zAq.l1 k x0 x7 x27 x19 x20 x21 x25 x26 (wrap64 (x27 + 1)) x486000 x486001) else (zAq.l1 k x0 x7 x10 x19 x20 x21 x25 x26 (wrap64 (x27 + 1)) x486000 x486001)) else (none)) else (none))) else (zAq.l1 k x0 x7 x10 x19 x20 x21 x25 x26 (wrap64 (x27 + 1)) x486000 x486001))) else (none)) else (none)) else (if x7.length < 17592186044416 then (zAq.l0 k x0 (x7 ++ [x10]) x19 x20 (wrap64 (x21 + 1))) else (none))
end
def zAq.f (k : Nat) (l0 : List (S57)) (a1 : Int) : Option (List Int × Int) := (liaison_CheckGroups.f l0 a1).bind fun t483 => (if t483 = 0 then (zAq.l0 k l0 ([] : List Int) l0 (l0.length : Int) 0) else (some (([] : List Int), t483)))
theorem zAq.zBx : ∀ k, (∀ y0 y1 y2 y3 y4, LeO (zAq.l0 k y0 y1 y2 y3 y4) (zAq.l0 (k + 1) y0 y1 y2 y3 y4)) ∧ (∀ y0 y1 y2 y3 y4 y5 y6 y7 y8 y9 y10, LeO (zAq.l1 k y0 y1 y2 y3 y4 y5 y6 y7 y8 y9 y10) (zAq.l1 (k + 1) y0 y1 y2 y3 y4 y5 y6 y7 y8 y9 y10))
 | 0 => ⟨fun _ _ _ _ _ r h => by simp [zAq.l0] at h, fun _ _ _ _ _ _ _ _ _ _ _ r h => by simp [zAq.l1] at h⟩
 | k + 1 => by
  obtain ⟨ih0, ih1⟩ := zAq.zBx k
  refine ⟨?_, ?_⟩
  ·intro y0 y1 y2 y3 y4
   unfold zAq.l0
   repeat' first
   | (with_reducible exact ih0 _ _ _ _ _)
   | (with_reducible exact ih1 _ _ _ _ _ _ _ _ _ _ _)
   | (with_reducible exact zCd.mono _ _ _ _ _)
   | (with_reducible exact LeO.refl _)
   | (with_reducible exact LeO.none _)
   | (with_reducible refine LeO.ite ?_ ?_)
   | (with_reducible refine LeO.bind ?_ (fun _ => ?_))
  ·intro y0 y1 y2 y3 y4 y5 y6 y7 y8 y9 y10
   unfold zAq.l1
   repeat' first
   | (with_reducible exact ih0 _ _ _ _ _)
   | (with_reducible exact ih1 _ _ _ _ _ _ _ _ _ _ _)
   | (with_reducible exact zCd.mono _ _ _ _ _)
   | (with_reducible exact LeO.refl _)
   | (with_reducible exact LeO.none _)
   | (with_reducible refine LeO.ite ?_ ?_)
   | (with_reducible refine LeO.bind ?_ (fun _ => ?_))
theorem zAq.mono : ∀ a0 a1 k, LeO (zAq.f k a0 a1) (zAq.f (k + 1) a0 a1) := by
 intro a0 a1 k
 obtain ⟨ih0, ih1⟩ := zAq.zBx k
 unfold zAq.f
 repeat' first
   | (with_reducible exact ih0 _ _ _ _ _)
   | (with_reducible exact ih1 _ _ _ _ _ _ _ _ _ _ _)
   | (with_reducible exact zCd.mono _ _ _ _ _)
   | (with_reducible exact LeO.refl _)
   | (with_reducible exact LeO.none _)
   | (with_reducible refine LeO.ite ?_ ?_)
   | (with_reducible refine LeO.bind ?_ (fun _ => ?_))
def zAq.T12 : Bool × List (List Nat × List Nat) := (true, [([], []), ([], []), ([0, 1], [0, 1]), ([2, 2], [2]), ([3], [3]), ([4, 3], [3, 4]), ([5, 3, 3], [3, 5]), ([6], [6]), ([7, 6], [6, 7]), ([8, 6], [6, 8]), ([6], [6]), ([6], [6]), ([10, 11, 6], [6, 10, 11]), ([12, 6], [6, 12]), ([13, 6], [6, 13]), ([14, 6], [6, 14]), ([9, 15, 6], [6, 9, 15]), ([6, 16, 3], [3, 6, 16]), ([3, 17], [3, 17])])
def zAq.B12 : List Nat := [0, 0, 3, 7, 15, 31, 63, 127, 255, 511, 127, 127, 3199, 7295, 15487, 31871, 65535, 131071, 262143]
theorem zAq.tab12 : rtab .any (opsOf Tryd.f26 12) = zAq.T12 := by kernel_rfl
theorem zAq.bits12 : waitsOk zAq.T12.2 zAq.B12 = true := by kernel_rfl
set_option maxHeartbeats 8000000 in
set_option maxRecDepth 100000 in
theorem zAq.calls (k : Nat) (A0 : Option Addr) (c0 : Nat) (l0 : List (S57)) (a1 : Int) (r1 : List Int) (r2 : Int) (w : World) (hr0 : Kd.C k57 w A0 l0.length l0) (hc0 : l0.length ≤ c0) (h : zAq.f k l0 a1 = some (r1, r2)) :
  Calls Tryd.prog 26 #[.slice A0 l0.length c0, .int .i64 a1] w fun e w' => ∃ v0_ : Value, e = .returned (.tuple #[v0_, .int .i64 r2]) ∧ Kd.R (Kd.int .i64) 3 w' w.heap.size (fun _ => True) v0_ r1 ∧ Below w.heap.size w w' := by
 have hu57 := Tryd.underlying57
 have HR0 := zA1.mk hr0
 have HC0 := zA1.mk hc0
 clear hr0 hc0
 have HB := zA1.mk (Below.refl w.heap.size w)
 have H : ((liaison_CheckGroups.f l0 a1).bind fun t483 => (if t483 = 0 then (zAq.l0 k l0 ([] : List Int) l0 (l0.length : Int) 0) else (some (([] : List Int), t483)))) = some (r1, r2) := h
 clear h
 replace H := Option.bind_eq_some_iff.mp H
 obtain ⟨t483, A30, H⟩ := H
 replace H : (if t483 = 0 then (zAq.l0 k l0 ([] : List Int) l0 (l0.length : Int) 0) else (some (([] : List Int), t483))) = some (r1, r2) := H
 have A3 := zA1.mk A30
 clear A30
 by_cases c4 : t483 = 0
 ·rw [if_pos c4] at H
  have c4b0 : (t483 == 0) = true := beq_iff_eq.mpr c4
  have c4b1 : (t483 != 0) = false := bne_eq_false_iff_eq.mpr c4
  clear c4
  have H' := zA1.mk H
  clear H
  go_enter Tryd.func26, Tryd.ntmps26
  go_wp2_with (first | ((with_reducible refine zBc (f := 29) rfl ?_); refine zCf (some 15) rfl rfl Tryd.func29 (by kernel_rfl) rfl #[.slice A0 l0.length c0, .int .i64 a1] rfl (by (try simp only [List.map_toArray, List.map_cons, List.map_nil]); first | done | rfl | (simp only [List.length_drop, List.length_take]; rfl)) ?_; (with_reducible refine (liaison_CheckGroups.calls _ _ l0 a1 t483 _ ?side1 ?side2 A3.out).mono ?_); (case side1 => repeat (first | exact HR0.out | (with_reducible refine Kd.zAf ?_ _) | (with_reducible refine Kd.zAk ?_ _) | (with_reducible refine Kd.zAv ?_))); (case side2 => exact HC0.out); rintro e w5 ⟨rfl, hb⟩; refine ⟨_, rfl, ?_⟩; have n0_ := zA1.mk (zAe (by repeat (first | (with_reducible first | exact HB.out | apply zA2 | apply zA0 | apply zA3) | exact HB.out)) hb); clear HB; have HB := n0_; clear n0_; (try clear hb); (try clear hb2); (try clear hk); (try clear hi)))
  go_loopg [7, 21] k (fun kq v7 v21 w' => ∃ (x7_1 : List Int) (x21_1 : Int), v21 = .int .i64 x21_1 ∧ zA1 (zAq.l0 kq l0 x7_1 l0 (l0.length : Int) x21_1 = some (r1, r2)) ∧ zA1 (kq ≤ k) ∧ zA1 (Kd.R (Kd.int .i64) 3 w' w.heap.size (fun _ => True) v7 x7_1) ∧ zA1 (Below w.heap.size w w'))
  case atStart => exact ⟨(([] : List Int)), (0), (by first | rfl | (simp; done) | (simp [*]; done)), H', ⟨Nat.le_refl _⟩, ⟨by first | exact Kd.R_nil _ _ _ _ _ | exact Kd.N_nil _ _ _ _ _ | exact Kd.V_nil _ _ _ _ _ | exact Kd.Q_nil _ _ _ _ _ | exact Kd.S_nil _ _ _ _ _⟩, ⟨by repeat (first | (with_reducible first | exact HB.out | apply zA2 | apply zA0 | apply zA3) | exact HB.out)⟩⟩
  case round =>
   clear H'
   try clear c2
   try clear p2
   try clear c4
   try clear c4b0
   try clear c4b1
   obtain ⟨x7_1, x21_1, rfl, HA, HK1, HO_7, HB⟩ := hrel
   cases gk with
   | zero => exact absurd HA.out (by simp [zAq.l0])
   | succ k1 =>
    have H := HA.out
    clear HA
    simp only [zAq.l0] at H
    by_cases c6 : x21_1 < (l0.length : Int)
    ·rw [if_pos c6] at H
     have c6b0 : decide (x21_1 < (l0.length : Int)) = true := decide_eq_true c6
     clear c6
     by_cases c7 : 0 ≤ x21_1
     ·rw [if_pos c7] at H
      have c7b0 : decide (0 ≤ x21_1) = true := decide_eq_true c7
      clear c7
      by_cases c8 : x21_1 < (l0.length : Int)
      ·rw [if_pos c8] at H
       have c8b0 : decide (x21_1 < (l0.length : Int)) = true := decide_eq_true c8
       clear c8
       have H' := zA1.mk H
       clear H
       have p484 : 0 ≤ (x21_1 : Int) := of_decide_eq_true (by first | (with_reducible assumption) | assumption)
       have q484 : x21_1 < (l0.length : Int) := of_decide_eq_true (by first | (with_reducible assumption) | assumption)
       obtain ⟨ad484, A484_1, c484_1, e484, hx484_0, hx484_1, hl484_1, hi484_1⟩ := at_T57 HR0.out x21_1 p484 q484
       cases e484
       replace hx484_0 := (HB.out.cell (World.block_lt_of_cell? w _ hx484_0)).trans hx484_0
       replace hx484_1 := (HB.out.cell (World.block_lt_of_cell? w _ hx484_1)).trans hx484_1
       have HR484_1 := zA1.mk hi484_1
       have HC484_1 := zA1.mk hl484_1
       clear hi484_1 hl484_1
       replace p484 := eq_true p484
       replace q484 := eq_true q484
       go_wp2_with (first | ((with_reducible refine zBk (N := 9) rfl ?_); (try (refine gate_guard (by rfl) ?_; dsimp only)); refine zBj ?hg (N := 9) ?hd (cs := #[.string (⟨#[]⟩ : ByteArray), .slice none 0 0]) (t := 57) ?hr ?_; (case hd => rfl); (case hg => rfl); (case hr => first | (go_simp; done) | (go_simp; rfl)); intro gb485 hg w9 hbox hb; have n0_ := zA1.mk (Kd.zBi (by (with_reducible repeat (first | apply Kd.zAi | apply Kd.zAh | apply Kd.zAp)); exact HO_7.out) hb); have n1_ := zA1.mk (zAe (by repeat (first | (with_reducible first | exact HB.out | apply zA2 | apply zA0 | apply zA3) | exact HB.out)) hb); have n2_ := zA1.mk (hbox); have n3_ := zA1.mk ((by rw [hg]; exact (zAb (by repeat (first | (with_reducible first | exact HB.out | apply zA2 | apply zA0 | apply zA3) | exact HB.out))) : w.heap.size ≤ gb485)); have n4_ := zA1.mk ((by rw [hg]; exact (zAb (by repeat (first | (with_reducible first | exact HB.out | apply zA2 | apply zA0 | apply zA3) | exact HB.out))) : w.heap.size ≤ gb485)); clear HO_7; clear HB; have HO_7 := n0_; have HB := n1_; have BK485 := n2_; have GW485 := n3_; have GE485 := n4_; clear n0_ n1_ n2_ n3_ n4_; clear hb hbox hg; have hcz10_0 : w9.cell? ⟨gb485, 0, none⟩ = some (.string (⟨#[]⟩ : ByteArray)) := (zA9 BK485.out 0).trans rfl; have hcz10_1 : w9.cell? ⟨gb485, 1, none⟩ = some (.slice none 0 0) := (zA9 BK485.out 1).trans rfl; have hfz10_0 := zAd BK485.out 0; have hfz10_1 := zAd BK485.out 1))
       go_loopg [10, 27] k1 (fun kq v10 v27 w' => ∃ (x10_2 : Int) (x27_2 : Int), v10 = .int .i64 x10_2 ∧ v27 = .int .i64 x27_2 ∧ zA1 (zAq.l1 kq l0 x7_1 x10_2 l0 (l0.length : Int) x21_1 l0 (l0.length : Int) x27_2 ((zAs l0 x21_1).f0) ((zAs l0 x21_1).f1) = some (r1, r2)) ∧ zA1 (kq ≤ k1) ∧ zA1 (Kd.R (Kd.int .i64) 3 w' w.heap.size (fun _ => True) u7 x7_1) ∧ zA1 (w'.heap[gb485]? = some (.cells #[.string ((zAs l0 x21_1).f0), (.slice A484_1 ((zAs l0 x21_1).f1).length c484_1)] 57 (0, 0))) ∧ zA1 (Below w.heap.size w w'))
       case atStart => exact ⟨((-1)), (0), (by first | rfl | (simp; done) | (simp [*]; done)), (by first | rfl | (simp; done) | (simp [*]; done)), H', ⟨Nat.le_refl _⟩, ⟨by (with_reducible repeat (first | apply Kd.zAi | apply Kd.zAh | apply Kd.zAp)); exact Kd.zC3 (Kd.R_far (p := ⟨gb485, 1, none⟩) (Kd.R_far (p := ⟨gb485, 0, none⟩) (Kd.zCa HO_7.out BK485.out (by decide)) (fun _ hk => hk.2) (.string ((zAs l0 x21_1).f0))) (fun _ hk => hk.2) (.slice A484_1 ((zAs l0 x21_1).f1).length c484_1)) (fun _ hk => trivial)⟩, ⟨by (with_reducible repeat (first | refine zA6 ?_ _ | refine zA8 ?_ | refine zA5 ?_ _)); refine zCj (cs := #[.string ((zAs l0 x21_1).f0), .slice none 0 0]) ?_ 1 _ rfl; (with_reducible repeat (first | refine zA6 ?_ _ | refine zA8 ?_ | refine zA5 ?_ _)); refine zCj (cs := #[.string (⟨#[]⟩ : ByteArray), .slice none 0 0]) ?_ 0 _ rfl; (with_reducible repeat (first | refine zA6 ?_ _ | refine zA8 ?_ | refine zA5 ?_ _)); exact BK485.out⟩, ⟨by repeat (first | (with_reducible first | exact HB.out | apply zA2 | apply zA0 | apply zA3 | refine zA4 ?_ GE485.out) | exact HB.out)⟩⟩
       case round =>
        clear H'
        try clear c2
        try clear p2
        try clear c4
        try clear c4b0
        try clear c4b1
        try clear p4
        try clear q4
        try clear hx4
        try clear c6
        try clear c6b0
        try clear c7
        try clear c7b0
        try clear c8
        try clear c8b0
        try clear hcz10_0
        try clear hcz10_1
        try clear hfz10_0
        try clear hfz10_1
        try clear hx484_0
        try clear hx484_1
        try clear p2
        try clear p484
        try clear q484
        obtain ⟨x10_2, x27_2, rfl, rfl, HA, HK2, HO_7, BK485, HB⟩ := hrel
        cases gk with
        | zero => exact absurd HA.out (by simp [zAq.l1])
        | succ k2 =>
         have H := HA.out
         clear HA
         simp only [zAq.l1] at H
         by_cases c11 : x27_2 < (l0.length : Int)
         ·rw [if_pos c11] at H
          have c11b0 : decide (x27_2 < (l0.length : Int)) = true := decide_eq_true c11
          clear c11
          by_cases c12 : 0 ≤ x27_2
          ·rw [if_pos c12] at H
           have c12b0 : decide (0 ≤ x27_2) = true := decide_eq_true c12
           clear c12
           by_cases c13 : x27_2 < (l0.length : Int)
           ·rw [if_pos c13] at H
            have c13b0 : decide (x27_2 < (l0.length : Int)) = true := decide_eq_true c13
            clear c13
            replace H := Option.bind_eq_some_iff.mp H
            obtain ⟨t488, A140, H⟩ := H
            replace H : (if t488 = true then (if x10_2 < 0 then (zAq.l1 k2 l0 x7_1 x27_2 l0 (l0.length : Int) x21_1 l0 (l0.length : Int) (wrap64 (x27_2 + 1)) ((zAs l0 x21_1).f0) ((zAs l0 x21_1).f1)) else (if 0 ≤ x10_2 then (if x10_2 < (l0.length : Int) then (if (((zAs l0 x27_2).f1).length : Int) < (((zAs l0 x10_2).f1).length : Int) then (zAq.l1 k2 l0 x7_1 x27_2 l0 (l0.length : Int) x21_1 l0 (l0.length : Int) (wrap64 (x27_2 + 1)) ((zAs l0 x21_1).f0) ((zAs l0 x21_1).f1)) else (zAq.l1 k2 l0 x7_1 x10_2 l0 (l0.length : Int) x21_1 l0 (l0.length : Int) (wrap64 (x27_2 + 1)) ((zAs l0 x21_1).f0) ((zAs l0 x21_1).f1))) else (none)) else (none))) else (zAq.l1 k2 l0 x7_1 x10_2 l0 (l0.length : Int) x21_1 l0 (l0.length : Int) (wrap64 (x27_2 + 1)) ((zAs l0 x21_1).f0) ((zAs l0 x21_1).f1))) = some (r1, r2) := H
            have A14 := zA1.mk A140
            clear A140
            by_cases c15 : t488 = true
            ·subst c15
             have H1 : (if x10_2 < 0 then (zAq.l1 k2 l0 x7_1 x27_2 l0 (l0.length : Int) x21_1 l0 (l0.length : Int) (wrap64 (x27_2 + 1)) ((zAs l0 x21_1).f0) ((zAs l0 x21_1).f1)) else (if 0 ≤ x10_2 then (if x10_2 < (l0.length : Int) then (if (((zAs l0 x27_2).f1).length : Int) < (((zAs l0 x10_2).f1).length : Int) then (zAq.l1 k2 l0 x7_1 x27_2 l0 (l0.length : Int) x21_1 l0 (l0.length : Int) (wrap64 (x27_2 + 1)) ((zAs l0 x21_1).f0) ((zAs l0 x21_1).f1)) else (zAq.l1 k2 l0 x7_1 x10_2 l0 (l0.length : Int) x21_1 l0 (l0.length : Int) (wrap64 (x27_2 + 1)) ((zAs l0 x21_1).f0) ((zAs l0 x21_1).f1))) else (none)) else (none))) = some (r1, r2) := by rw [if_pos rfl] at H; exact H
             clear H
             have H := H1
             clear H1
             by_cases c16 : x10_2 < 0
             ·rw [if_pos c16] at H
              have c16b0 : decide (x10_2 < 0) = true := decide_eq_true c16
              clear c16
              have H' := zA1.mk H
              clear H
              have p486 : 0 ≤ (x27_2 : Int) := of_decide_eq_true (by first | (with_reducible assumption) | assumption)
              have q486 : x27_2 < (l0.length : Int) := of_decide_eq_true (by first | (with_reducible assumption) | assumption)
              obtain ⟨ad486, A486_1, c486_1, e486, hx486_0, hx486_1, hl486_1, hi486_1⟩ := at_T57 HR0.out x27_2 p486 q486
              obtain rfl : ad484 = ad486 := (by injection e486)
              replace hx486_0 := (HB.out.cell (World.block_lt_of_cell? w _ hx486_0)).trans hx486_0
              replace hx486_1 := (HB.out.cell (World.block_lt_of_cell? w _ hx486_1)).trans hx486_1
              have HR486_1 := zA1.mk hi486_1
              have HC486_1 := zA1.mk hl486_1
              clear hi486_1 hl486_1
              replace p486 := eq_true p486
              replace q486 := eq_true q486
              try go_wp2_with (first | ((with_reducible refine zBk (N := 12) rfl ?_); (try (refine gate_guard (by rfl) ?_; dsimp only)); refine zBj ?hg (N := 12) ?hd (cs := #[.string (⟨#[]⟩ : ByteArray), .slice none 0 0]) (t := 57) ?hr ?_; (case hd => rfl); (case hg => rfl); (case hr => first | (go_simp; done) | (go_simp; rfl)); intro gb487 hg w17 hbox hb; have n0_ := zA1.mk (Kd.zBi (by (with_reducible repeat (first | apply Kd.zAi | apply Kd.zAh | apply Kd.zAp)); exact HO_7.out) hb); have n1_ := zA1.mk (zAt (g := gb485) (o := .cells #[.string ((zAs l0 x21_1).f0), .slice A484_1 ((zAs l0 x21_1).f1).length c484_1] 57 (0, 0)) (by (with_reducible repeat (first | refine zA6 ?_ _ | refine zA8 ?_ | refine zA5 ?_ _)); exact BK485.out) hb); have n2_ := zA1.mk (zAe (by repeat (first | (with_reducible first | exact HB.out | apply zA2 | apply zA0 | apply zA3 | refine zA4 ?_ GE485.out) | exact HB.out)) hb); have n3_ := zA1.mk (hbox); have n4_ := zA1.mk ((by rw [hg]; exact (zAb (by repeat (first | (with_reducible first | exact HB.out | apply zA2 | apply zA0 | apply zA3 | refine zA4 ?_ GE485.out) | exact HB.out))) : w.heap.size ≤ gb487)); have n5_ := zA1.mk ((by rw [hg]; exact (zAb (by repeat (first | (with_reducible first | exact HB.out | apply zA2 | apply zA0 | apply zA3 | refine zA4 ?_ GE485.out) | exact HB.out))) : w.heap.size ≤ gb487)); have n6_ := zA1.mk ((by rw [hg]; exact Nat.ne_of_lt (zCm (g := gb485) (o := .cells #[.string ((zAs l0 x21_1).f0), .slice A484_1 ((zAs l0 x21_1).f1).length c484_1] 57 (0, 0)) (by (with_reducible repeat (first | refine zA6 ?_ _ | refine zA8 ?_ | refine zA5 ?_ _)); exact BK485.out)) : gb485 ≠ gb487)); have n7_ := zA1.mk ((by rw [hg]; exact Nat.ne_of_gt (zCm (g := gb485) (o := .cells #[.string ((zAs l0 x21_1).f0), .slice A484_1 ((zAs l0 x21_1).f1).length c484_1] 57 (0, 0)) (by (with_reducible repeat (first | refine zA6 ?_ _ | refine zA8 ?_ | refine zA5 ?_ _)); exact BK485.out)) : gb487 ≠ gb485)); clear HO_7; clear BK485; clear HB; have HO_7 := n0_; have BK485 := n1_; have HB := n2_; have BK487 := n3_; have GW487 := n4_; have GE487 := n5_; have NB485_487 := n6_; have NB487_485 := n7_; clear n0_ n1_ n2_ n3_ n4_ n5_ n6_ n7_; clear hb hbox hg; have hnb18 := NB487_485.out; have hnc18 := NB485_487.out; have hcz19_0 : w17.cell? ⟨gb487, 0, none⟩ = some (.string (⟨#[]⟩ : ByteArray)) := (zA9 BK487.out 0).trans rfl; have hcz19_1 : w17.cell? ⟨gb487, 1, none⟩ = some (.slice none 0 0) := (zA9 BK487.out 1).trans rfl; have hfz19_0 := zAd BK487.out 0; have hfz19_1 := zAd BK487.out 1))
              have n0_ : zA1 (Kd.R (Kd.int .i64) 3 ((w17.setCell ⟨gb487, 0, none⟩ (.string ((zAs l0 x27_2).f0))).setCell ⟨gb487, 1, none⟩ (.slice A486_1 ((zAs l0 x27_2).f1).length c486_1)) w.heap.size (fun _ => True) u7 x7_1) := ⟨by (with_reducible repeat (first | apply Kd.zAi | apply Kd.zAh | apply Kd.zAp)); exact Kd.zC3 (Kd.R_far (p := ⟨gb487, 1, none⟩) (Kd.R_far (p := ⟨gb487, 0, none⟩) (Kd.zCa HO_7.out BK487.out (by decide)) (fun _ hk => hk.2) (.string ((zAs l0 x27_2).f0))) (fun _ hk => hk.2) (.slice A486_1 ((zAs l0 x27_2).f1).length c486_1)) (fun _ hk => trivial)⟩
              have n1_ : zA1 (((w17.setCell ⟨gb487, 0, none⟩ (.string ((zAs l0 x27_2).f0))).setCell ⟨gb487, 1, none⟩ (.slice A486_1 ((zAs l0 x27_2).f1).length c486_1)).heap[gb485]? = some (.cells #[.string ((zAs l0 x21_1).f0), .slice A484_1 ((zAs l0 x21_1).f1).length c484_1] 57 (0, 0))) := ⟨by (with_reducible repeat (first | refine zA6 ?_ _ | refine zA8 ?_ | refine zA5 ?_ _)); refine blk_far ?_ NB485_487.out _; (with_reducible repeat (first | refine zA6 ?_ _ | refine zA8 ?_ | refine zA5 ?_ _)); refine blk_far ?_ NB485_487.out _; (with_reducible repeat (first | refine zA6 ?_ _ | refine zA8 ?_ | refine zA5 ?_ _)); exact BK485.out⟩
              have n2_ : zA1 (((w17.setCell ⟨gb487, 0, none⟩ (.string ((zAs l0 x27_2).f0))).setCell ⟨gb487, 1, none⟩ (.slice A486_1 ((zAs l0 x27_2).f1).length c486_1)).heap[gb487]? = some (.cells #[.string ((zAs l0 x27_2).f0), .slice A486_1 ((zAs l0 x27_2).f1).length c486_1] 57 (0, 0))) := ⟨by (with_reducible repeat (first | refine zA6 ?_ _ | refine zA8 ?_ | refine zA5 ?_ _)); refine zCj (cs := #[.string ((zAs l0 x27_2).f0), .slice none 0 0]) ?_ 1 _ rfl; (with_reducible repeat (first | refine zA6 ?_ _ | refine zA8 ?_ | refine zA5 ?_ _)); refine zCj (cs := #[.string (⟨#[]⟩ : ByteArray), .slice none 0 0]) ?_ 0 _ rfl; (with_reducible repeat (first | refine zA6 ?_ _ | refine zA8 ?_ | refine zA5 ?_ _)); exact BK487.out⟩
              have n3_ : zA1 (Below w.heap.size w ((w17.setCell ⟨gb487, 0, none⟩ (.string ((zAs l0 x27_2).f0))).setCell ⟨gb487, 1, none⟩ (.slice A486_1 ((zAs l0 x27_2).f1).length c486_1))) := ⟨by repeat (first | (with_reducible first | exact HB.out | apply zA2 | apply zA0 | apply zA3 | refine zA4 ?_ GE485.out | refine zA4 ?_ GE487.out) | exact HB.out)⟩
              (try clear HO_7)
              (try clear BK485)
              (try clear BK487)
              (try clear HB)
              generalize ((w17.setCell ⟨gb487, 0, none⟩ (.string ((zAs l0 x27_2).f0))).setCell ⟨gb487, 1, none⟩ (.slice A486_1 ((zAs l0 x27_2).f1).length c486_1)) = w20 at n0_ n1_ n2_ n3_ ⊢
              have HO_7 := n0_
              have BK485 := n1_
              have BK487 := n2_
              have HB := n3_
              clear n0_ n1_ n2_ n3_
              have n0_ := zA1.mk (Kd.zAp HO_7.out)
              have n1_ := zA1.mk (zA8 BK485.out)
              have n2_ := zA1.mk (zA8 BK487.out)
              have n3_ := zA1.mk (zA3 HB.out)
              clear HO_7
              clear BK485
              clear BK487
              clear HB
              have HO_7 := n0_
              have BK485 := n1_
              have BK487 := n2_
              have HB := n3_
              clear n0_ n1_ n2_ n3_
              refine start_ (n := 19) (S := fun w' => w'.cell? ⟨gb485, 0, none⟩ = some (.string ((zAs l0 x21_1).f0)) ∧ w'.cell? ⟨gb485, 1, none⟩ = some (.slice A484_1 ((zAs l0 x21_1).f1).length c484_1) ∧ w'.cell? ⟨gb487, 0, none⟩ = some (.string ((zAs l0 x27_2).f0)) ∧ w'.cell? ⟨gb487, 1, none⟩ = some (.slice A486_1 ((zAs l0 x27_2).f1).length c486_1)) (ds := []) #[false, false, false, false, false, false, false, false, false, false, false, false, false, false, false, false, false, false, false] (by kernel_rfl) rfl rfl ⟨(zA9 BK485.out 0).trans rfl, (zA9 BK485.out 1).trans rfl, (zA9 BK487.out 0).trans rfl, (zA9 BK487.out 1).trans rfl⟩ (fun hHeld => ?_); refine with_tabW zAq.tab12 zAq.bits12 (fun HT_ HW_ => ?_)
              generalize w20.drew = w21 at HO_7 BK485 BK487 HB hHeld ⊢
              refine take_ (i := 0) (N := some 32) (v := ?_) (a' := ?_) #[true, false, false, false, false, false, false, false, false, false, false, false, false, false, false, false, false, false, false] rfl rfl (zBt HT_.out HW_.out (by kernel_rfl)) (fun _ _ _ h => h) (Or.inl ⟨by rfl, ?_⟩) hHeld ?_ ?_
              rotate_left
              ·rintro w' ⟨s0, s1, s2, s3⟩
               go_simp
               with_reducible rfl
              rotate_left
              ·simp only [Act.put, List.setIfInBounds_toArray, List.set_cons_zero, List.set_cons_succ, i64_w, i32_w]
               rfl
              refine take_ (i := 1) (N := some 33) (v := ?_) (a' := ?_) #[true, true, false, false, false, false, false, false, false, false, false, false, false, false, false, false, false, false, false] rfl rfl (zBt HT_.out HW_.out (by kernel_rfl)) (fun _ _ _ h => h) (Or.inl ⟨by rfl, ?_⟩) hHeld ?_ ?_
              rotate_left
              ·rintro w' ⟨s0, s1, s2, s3⟩
               go_simp
               with_reducible rfl
              rotate_left
              ·simp only [Act.put, List.setIfInBounds_toArray, List.set_cons_zero, List.set_cons_succ, i64_w, i32_w]
               rfl
              refine one_ (i := 2) (N := some 34) #[true, true, true, false, false, false, false, false, false, false, false, false, false, false, false, false, false, false, false] rfl rfl (one_of HT_.out (by kernel_rfl)) (by decide) (fun K hK => ?_)
              refine goes_ Tryd.func52 (by kernel_rfl) rfl #[.agg #[.string ((zAs l0 x21_1).f0), .slice A484_1 ((zAs l0 x21_1).f1).length c484_1], .agg #[.string ((zAs l0 x27_2).f0), .slice A486_1 ((zAs l0 x27_2).f1).length c486_1]] (by rfl) rfl rfl (by (try simp only [List.map_toArray, List.map_cons, List.map_nil]); first | done | rfl | (simp only [List.length_drop, List.length_take]; rfl)) ?_
              with_reducible refine (zCd.calls k2 ((zAs l0 x21_1).f0) _ _ ((zAs l0 x21_1).f1) ((zAs l0 x27_2).f0) _ _ ((zAs l0 x27_2).f1) true _ ?side1 ?side2 ?side3 ?side4 A14.out).mono ?_
              (case side1 => repeat (first | exact (Kd.zB1 HR484_1.out HB.out) | (with_reducible refine Kd.zAf ?_ _) | (with_reducible refine Kd.zAk ?_ _) | (with_reducible refine Kd.zAv ?_)))
              (case side2 => exact HC484_1.out)
              (case side3 => repeat (first | exact (Kd.zB1 HR486_1.out HB.out) | (with_reducible refine Kd.zAf ?_ _) | (with_reducible refine Kd.zAk ?_ _) | (with_reducible refine Kd.zAv ?_)))
              (case side4 => exact HC486_1.out)
              rintro e w22 ⟨rfl, hb⟩
              refine ⟨_, rfl, ?_⟩
              have n0_ := zA1.mk (Kd.zBi (by (with_reducible repeat (first | apply Kd.zAi | apply Kd.zAh | apply Kd.zAp)); exact HO_7.out) hb)
              have n1_ := zA1.mk (zAt (g := gb485) (o := .cells #[.string ((zAs l0 x21_1).f0), .slice A484_1 ((zAs l0 x21_1).f1).length c484_1] 57 (0, 0)) (by (with_reducible repeat (first | refine zA6 ?_ _ | refine zA8 ?_ | refine zA5 ?_ _)); exact BK485.out) hb)
              have n2_ := zA1.mk (zAt (g := gb487) (o := .cells #[.string ((zAs l0 x27_2).f0), .slice A486_1 ((zAs l0 x27_2).f1).length c486_1] 57 (0, 0)) (by (with_reducible repeat (first | refine zA6 ?_ _ | refine zA8 ?_ | refine zA5 ?_ _)); exact BK487.out) hb)
              have n3_ := zA1.mk (zAe (by repeat (first | (with_reducible first | exact HB.out | apply zA2 | apply zA0 | apply zA3 | refine zA4 ?_ GE485.out | refine zA4 ?_ GE487.out) | exact HB.out)) hb)
              clear HO_7
              clear BK485
              clear BK487
              clear HB
              have HO_7 := n0_
              have BK485 := n1_
              have BK487 := n2_
              have HB := n3_
              clear n0_ n1_ n2_ n3_
              (try clear hb)
              (try clear hb2)
              (try clear hk)
              (try clear hi)
              refine hK.out _ _ ⟨(zA9 BK485.out 0).trans rfl, (zA9 BK485.out 1).trans rfl, (zA9 BK487.out 0).trans rfl, (zA9 BK487.out 1).trans rfl⟩ (fun hHeld => ?_)
              clear hK K
              refine norm_ (a' := ?_) ?_ ?_
              rotate_left
              ·show Act.put _ (some 34) _ = _
               simp only [Act.put, List.setIfInBounds_toArray, List.set_cons_zero, List.set_cons_succ, i64_w, i32_w]
               rfl
              refine pure_ (i := 3) (N := some 35) (v := ?_) (a' := ?_) #[true, true, true, true, false, false, false, false, false, false, false, false, false, false, false, false, false, false, false] rfl rfl (zB6 HT_.out (by kernel_rfl)) (fun _ _ _ h => h) (Or.inl ⟨by rfl, ?_⟩) ?_ ?_
              rotate_left
              ·intro w'
               go_simp
               with_reducible rfl
              rotate_left
              ·simp only [Act.put, List.setIfInBounds_toArray, List.set_cons_zero, List.set_cons_succ, i64_w, i32_w]
               rfl
              refine pure_ (i := 4) (N := some 36) (v := ?_) (a' := ?_) #[true, true, true, true, true, false, false, false, false, false, false, false, false, false, false, false, false, false, false] rfl rfl (zB6 HT_.out (by kernel_rfl)) (fun _ _ _ h => h) (Or.inl ⟨by rfl, ?_⟩) ?_ ?_
              rotate_left
              ·intro w'
               go_simp
               with_reducible rfl
              rotate_left
              ·simp only [Act.put, List.setIfInBounds_toArray, List.set_cons_zero, List.set_cons_succ, i64_w, i32_w]
               rfl
              refine pure_ (i := 5) (N := some 37) (v := ?_) (a' := ?_) #[true, true, true, true, true, true, false, false, false, false, false, false, false, false, false, false, false, false, false] rfl rfl (zB6 HT_.out (by kernel_rfl)) (fun _ _ _ h => h) (Or.inl ⟨by rfl, ?_⟩) ?_ ?_
              rotate_left
              ·intro w'
               go_simp
               with_reducible rfl
              rotate_left
              ·simp only [Act.put, List.setIfInBounds_toArray, List.set_cons_zero, List.set_cons_succ, i64_w, i32_w]
               rfl
              refine pure_ (i := 6) (N := some 38) (v := ?_) (a' := ?_) #[true, true, true, true, true, true, true, false, false, false, false, false, false, false, false, false, false, false, false] rfl rfl (zB6 HT_.out (by kernel_rfl)) (fun _ _ _ h => h) (Or.inl ⟨by rfl, ?_⟩) ?_ ?_
              rotate_left
              ·intro w'
               go_simp
               with_reducible rfl
              rotate_left
              ·simp only [Act.put, List.setIfInBounds_toArray, List.set_cons_zero, List.set_cons_succ, i64_w, i32_w]
               rfl
              refine pure_ (i := 7) (N := some 39) (v := undef) (a' := ?_) #[true, true, true, true, true, true, true, true, false, false, false, false, false, false, false, false, false, false, false] rfl rfl (zB6 HT_.out (by kernel_rfl)) (fun _ _ _ h => h) (Or.inr ⟨by rfl, rfl⟩) ?_ ?_
              rotate_left
              ·simp only [Act.put, List.setIfInBounds_toArray, List.set_cons_zero, List.set_cons_succ, i64_w, i32_w]
               rfl
              refine pure_ (i := 8) (N := some 40) (v := undef) (a' := ?_) #[true, true, true, true, true, true, true, true, true, false, false, false, false, false, false, false, false, false, false] rfl rfl (zB6 HT_.out (by kernel_rfl)) (fun _ _ _ h => h) (Or.inr ⟨by rfl, rfl⟩) ?_ ?_
              rotate_left
              ·simp only [Act.put, List.setIfInBounds_toArray, List.set_cons_zero, List.set_cons_succ, i64_w, i32_w]
               rfl
              refine pure_ (i := 9) (N := some 41) (v := undef) (a' := ?_) #[true, true, true, true, true, true, true, true, true, true, false, false, false, false, false, false, false, false, false] rfl rfl (zB6 HT_.out (by kernel_rfl)) (fun _ _ _ h => h) (Or.inr ⟨by rfl, rfl⟩) ?_ ?_
              rotate_left
              ·simp only [Act.put, List.setIfInBounds_toArray, List.set_cons_zero, List.set_cons_succ, i64_w, i32_w]
               rfl
              refine pure_ (i := 10) (N := some 42) (v := undef) (a' := ?_) #[true, true, true, true, true, true, true, true, true, true, true, false, false, false, false, false, false, false, false] rfl rfl (zB6 HT_.out (by kernel_rfl)) (fun _ _ _ h => h) (Or.inr ⟨by rfl, rfl⟩) ?_ ?_
              rotate_left
              ·simp only [Act.put, List.setIfInBounds_toArray, List.set_cons_zero, List.set_cons_succ, i64_w, i32_w]
               rfl
              refine pure_ (i := 11) (N := some 43) (v := undef) (a' := ?_) #[true, true, true, true, true, true, true, true, true, true, true, true, false, false, false, false, false, false, false] rfl rfl (zB6 HT_.out (by kernel_rfl)) (fun _ _ _ h => h) (Or.inr ⟨by rfl, rfl⟩) ?_ ?_
              rotate_left
              ·simp only [Act.put, List.setIfInBounds_toArray, List.set_cons_zero, List.set_cons_succ, i64_w, i32_w]
               rfl
              refine pure_ (i := 12) (N := some 44) (v := undef) (a' := ?_) #[true, true, true, true, true, true, true, true, true, true, true, true, true, false, false, false, false, false, false] rfl rfl (zB6 HT_.out (by kernel_rfl)) (fun _ _ _ h => h) (Or.inr ⟨by rfl, rfl⟩) ?_ ?_
              rotate_left
              ·simp only [Act.put, List.setIfInBounds_toArray, List.set_cons_zero, List.set_cons_succ, i64_w, i32_w]
               rfl
              refine pure_ (i := 13) (N := some 45) (v := undef) (a' := ?_) #[true, true, true, true, true, true, true, true, true, true, true, true, true, true, false, false, false, false, false] rfl rfl (zB6 HT_.out (by kernel_rfl)) (fun _ _ _ h => h) (Or.inr ⟨by rfl, rfl⟩) ?_ ?_
              rotate_left
              ·simp only [Act.put, List.setIfInBounds_toArray, List.set_cons_zero, List.set_cons_succ, i64_w, i32_w]
               rfl
              refine pure_ (i := 14) (N := some 46) (v := undef) (a' := ?_) #[true, true, true, true, true, true, true, true, true, true, true, true, true, true, true, false, false, false, false] rfl rfl (zB6 HT_.out (by kernel_rfl)) (fun _ _ _ h => h) (Or.inr ⟨by rfl, rfl⟩) ?_ ?_
              rotate_left
              ·simp only [Act.put, List.setIfInBounds_toArray, List.set_cons_zero, List.set_cons_succ, i64_w, i32_w]
               rfl
              refine pure_ (i := 15) (N := some 47) (v := undef) (a' := ?_) #[true, true, true, true, true, true, true, true, true, true, true, true, true, true, true, true, false, false, false] rfl rfl (zB6 HT_.out (by kernel_rfl)) (fun _ _ _ h => h) (Or.inr ⟨by rfl, rfl⟩) ?_ ?_
              rotate_left
              ·simp only [Act.put, List.setIfInBounds_toArray, List.set_cons_zero, List.set_cons_succ, i64_w, i32_w]
               rfl
              refine pure_ (i := 16) (N := some 48) (v := undef) (a' := ?_) #[true, true, true, true, true, true, true, true, true, true, true, true, true, true, true, true, true, false, false] rfl rfl (zB6 HT_.out (by kernel_rfl)) (fun _ _ _ h => h) (Or.inr ⟨by rfl, rfl⟩) ?_ ?_
              rotate_left
              ·simp only [Act.put, List.setIfInBounds_toArray, List.set_cons_zero, List.set_cons_succ, i64_w, i32_w]
               rfl
              refine pure_ (i := 17) (N := some 49) (v := ?_) (a' := ?_) #[true, true, true, true, true, true, true, true, true, true, true, true, true, true, true, true, true, true, false] rfl rfl (zB6 HT_.out (by kernel_rfl)) (fun _ _ _ h => h) (Or.inl ⟨by rfl, ?_⟩) ?_ ?_
              rotate_left
              ·intro w'
               go_simp
               with_reducible rfl
              rotate_left
              ·simp only [Act.put, List.setIfInBounds_toArray, List.set_cons_zero, List.set_cons_succ, i64_w, i32_w]
               rfl
              refine pure_ (i := 18) (N := some 50) (v := ?_) (a' := ?_) #[true, true, true, true, true, true, true, true, true, true, true, true, true, true, true, true, true, true, true] rfl rfl (zB6 HT_.out (by kernel_rfl)) (fun _ _ _ h => h) (Or.inl ⟨by rfl, ?_⟩) ?_ ?_
              rotate_left
              ·intro w'
               go_simp
               with_reducible rfl
              rotate_left
              ·simp only [Act.put, List.setIfInBounds_toArray, List.set_cons_zero, List.set_cons_succ, i64_w, i32_w]
               rfl
              refine done_ (done_of HT_.out (by kernel_rfl)) ?_
              try go_wp2
              go_roundg k2
              case measure => have := HK1.out; have := HK2.out; omega
              case rel => exact ⟨(x27_2), (wrap64 (x27_2 + 1)), (by first | rfl | (simp; done) | (simp [*]; done)), (by first | rfl | (simp; done) | (simp [*]; done)), H', ⟨by have := HK1.out; have := HK2.out; omega⟩, ⟨by (with_reducible repeat (first | apply Kd.zAi | apply Kd.zAh | apply Kd.zAp)); exact HO_7.out⟩, ⟨by (with_reducible repeat (first | refine zA6 ?_ _ | refine zA8 ?_ | refine zA5 ?_ _)); exact BK485.out⟩, ⟨by repeat (first | (with_reducible first | exact HB.out | apply zA2 | apply zA0 | apply zA3 | refine zA4 ?_ GE485.out | refine zA4 ?_ GE487.out) | exact HB.out)⟩⟩
             ·rw [if_neg c16] at H
              have c16b0 : decide (x10_2 < 0) = false := decide_eq_false c16
              clear c16
              by_cases c23 : 0 ≤ x10_2
              ·rw [if_pos c23] at H
               have c23b0 : decide (0 ≤ x10_2) = true := decide_eq_true c23
               clear c23
               by_cases c24 : x10_2 < (l0.length : Int)
               ·rw [if_pos c24] at H
                have c24b0 : decide (x10_2 < (l0.length : Int)) = true := decide_eq_true c24
                clear c24
                by_cases c25 : (((zAs l0 x27_2).f1).length : Int) < (((zAs l0 x10_2).f1).length : Int)
                ·rw [if_pos c25] at H
                 have c25b0 : decide ((((zAs l0 x27_2).f1).length : Int) < (((zAs l0 x10_2).f1).length : Int)) = true := decide_eq_true c25
                 have c25b1 : decide (((zAs l0 x27_2).f1).length < ((zAs l0 x10_2).f1).length) = true := decide_eq_true (Int.ofNat_lt.mp c25)
                 clear c25
                 have H' := zA1.mk H
                 clear H
                 have p486 : 0 ≤ (x27_2 : Int) := of_decide_eq_true (by first | (with_reducible assumption) | assumption)
                 have q486 : x27_2 < (l0.length : Int) := of_decide_eq_true (by first | (with_reducible assumption) | assumption)
                 obtain ⟨ad486, A486_1, c486_1, e486, hx486_0, hx486_1, hl486_1, hi486_1⟩ := at_T57 HR0.out x27_2 p486 q486
                 obtain rfl : ad484 = ad486 := (by injection e486)
                 replace hx486_0 := (HB.out.cell (World.block_lt_of_cell? w _ hx486_0)).trans hx486_0
                 replace hx486_1 := (HB.out.cell (World.block_lt_of_cell? w _ hx486_1)).trans hx486_1
                 have HR486_1 := zA1.mk hi486_1
                 have HC486_1 := zA1.mk hl486_1
                 clear hi486_1 hl486_1
                 replace p486 := eq_true p486
                 replace q486 := eq_true q486
                 try go_wp2_with (first | ((with_reducible refine zBk (N := 12) rfl ?_); (try (refine gate_guard (by rfl) ?_; dsimp only)); refine zBj ?hg (N := 12) ?hd (cs := #[.string (⟨#[]⟩ : ByteArray), .slice none 0 0]) (t := 57) ?hr ?_; (case hd => rfl); (case hg => rfl); (case hr => first | (go_simp; done) | (go_simp; rfl)); intro gb487 hg w26 hbox hb; have n0_ := zA1.mk (Kd.zBi (by (with_reducible repeat (first | apply Kd.zAi | apply Kd.zAh | apply Kd.zAp)); exact HO_7.out) hb); have n1_ := zA1.mk (zAt (g := gb485) (o := .cells #[.string ((zAs l0 x21_1).f0), .slice A484_1 ((zAs l0 x21_1).f1).length c484_1] 57 (0, 0)) (by (with_reducible repeat (first | refine zA6 ?_ _ | refine zA8 ?_ | refine zA5 ?_ _)); exact BK485.out) hb); have n2_ := zA1.mk (zAe (by repeat (first | (with_reducible first | exact HB.out | apply zA2 | apply zA0 | apply zA3 | refine zA4 ?_ GE485.out) | exact HB.out)) hb); have n3_ := zA1.mk (hbox); have n4_ := zA1.mk ((by rw [hg]; exact (zAb (by repeat (first | (with_reducible first | exact HB.out | apply zA2 | apply zA0 | apply zA3 | refine zA4 ?_ GE485.out) | exact HB.out))) : w.heap.size ≤ gb487)); have n5_ := zA1.mk ((by rw [hg]; exact (zAb (by repeat (first | (with_reducible first | exact HB.out | apply zA2 | apply zA0 | apply zA3 | refine zA4 ?_ GE485.out) | exact HB.out))) : w.heap.size ≤ gb487)); have n6_ := zA1.mk ((by rw [hg]; exact Nat.ne_of_lt (zCm (g := gb485) (o := .cells #[.string ((zAs l0 x21_1).f0), .slice A484_1 ((zAs l0 x21_1).f1).length c484_1] 57 (0, 0)) (by (with_reducible repeat (first | refine zA6 ?_ _ | refine zA8 ?_ | refine zA5 ?_ _)); exact BK485.out)) : gb485 ≠ gb487)); have n7_ := zA1.mk ((by rw [hg]; exact Nat.ne_of_gt (zCm (g := gb485) (o := .cells #[.string ((zAs l0 x21_1).f0), .slice A484_1 ((zAs l0 x21_1).f1).length c484_1] 57 (0, 0)) (by (with_reducible repeat (first | refine zA6 ?_ _ | refine zA8 ?_ | refine zA5 ?_ _)); exact BK485.out)) : gb487 ≠ gb485)); clear HO_7; clear BK485; clear HB; have HO_7 := n0_; have BK485 := n1_; have HB := n2_; have BK487 := n3_; have GW487 := n4_; have GE487 := n5_; have NB485_487 := n6_; have NB487_485 := n7_; clear n0_ n1_ n2_ n3_ n4_ n5_ n6_ n7_; clear hb hbox hg; have hnb27 := NB487_485.out; have hnc27 := NB485_487.out; have hcz28_0 : w26.cell? ⟨gb487, 0, none⟩ = some (.string (⟨#[]⟩ : ByteArray)) := (zA9 BK487.out 0).trans rfl; have hcz28_1 : w26.cell? ⟨gb487, 1, none⟩ = some (.slice none 0 0) := (zA9 BK487.out 1).trans rfl; have hfz28_0 := zAd BK487.out 0; have hfz28_1 := zAd BK487.out 1))
                 have n0_ : zA1 (Kd.R (Kd.int .i64) 3 ((w26.setCell ⟨gb487, 0, none⟩ (.string ((zAs l0 x27_2).f0))).setCell ⟨gb487, 1, none⟩ (.slice A486_1 ((zAs l0 x27_2).f1).length c486_1)) w.heap.size (fun _ => True) u7 x7_1) := ⟨by (with_reducible repeat (first | apply Kd.zAi | apply Kd.zAh | apply Kd.zAp)); exact Kd.zC3 (Kd.R_far (p := ⟨gb487, 1, none⟩) (Kd.R_far (p := ⟨gb487, 0, none⟩) (Kd.zCa HO_7.out BK487.out (by decide)) (fun _ hk => hk.2) (.string ((zAs l0 x27_2).f0))) (fun _ hk => hk.2) (.slice A486_1 ((zAs l0 x27_2).f1).length c486_1)) (fun _ hk => trivial)⟩
                 have n1_ : zA1 (((w26.setCell ⟨gb487, 0, none⟩ (.string ((zAs l0 x27_2).f0))).setCell ⟨gb487, 1, none⟩ (.slice A486_1 ((zAs l0 x27_2).f1).length c486_1)).heap[gb485]? = some (.cells #[.string ((zAs l0 x21_1).f0), .slice A484_1 ((zAs l0 x21_1).f1).length c484_1] 57 (0, 0))) := ⟨by (with_reducible repeat (first | refine zA6 ?_ _ | refine zA8 ?_ | refine zA5 ?_ _)); refine blk_far ?_ NB485_487.out _; (with_reducible repeat (first | refine zA6 ?_ _ | refine zA8 ?_ | refine zA5 ?_ _)); refine blk_far ?_ NB485_487.out _; (with_reducible repeat (first | refine zA6 ?_ _ | refine zA8 ?_ | refine zA5 ?_ _)); exact BK485.out⟩
                 have n2_ : zA1 (((w26.setCell ⟨gb487, 0, none⟩ (.string ((zAs l0 x27_2).f0))).setCell ⟨gb487, 1, none⟩ (.slice A486_1 ((zAs l0 x27_2).f1).length c486_1)).heap[gb487]? = some (.cells #[.string ((zAs l0 x27_2).f0), .slice A486_1 ((zAs l0 x27_2).f1).length c486_1] 57 (0, 0))) := ⟨by (with_reducible repeat (first | refine zA6 ?_ _ | refine zA8 ?_ | refine zA5 ?_ _)); refine zCj (cs := #[.string ((zAs l0 x27_2).f0), .slice none 0 0]) ?_ 1 _ rfl; (with_reducible repeat (first | refine zA6 ?_ _ | refine zA8 ?_ | refine zA5 ?_ _)); refine zCj (cs := #[.string (⟨#[]⟩ : ByteArray), .slice none 0 0]) ?_ 0 _ rfl; (with_reducible repeat (first | refine zA6 ?_ _ | refine zA8 ?_ | refine zA5 ?_ _)); exact BK487.out⟩
                 have n3_ : zA1 (Below w.heap.size w ((w26.setCell ⟨gb487, 0, none⟩ (.string ((zAs l0 x27_2).f0))).setCell ⟨gb487, 1, none⟩ (.slice A486_1 ((zAs l0 x27_2).f1).length c486_1))) := ⟨by repeat (first | (with_reducible first | exact HB.out | apply zA2 | apply zA0 | apply zA3 | refine zA4 ?_ GE485.out | refine zA4 ?_ GE487.out) | exact HB.out)⟩
                 (try clear HO_7)
                 (try clear BK485)
                 (try clear BK487)
                 (try clear HB)
                 generalize ((w26.setCell ⟨gb487, 0, none⟩ (.string ((zAs l0 x27_2).f0))).setCell ⟨gb487, 1, none⟩ (.slice A486_1 ((zAs l0 x27_2).f1).length c486_1)) = w29 at n0_ n1_ n2_ n3_ ⊢
                 have HO_7 := n0_
                 have BK485 := n1_
                 have BK487 := n2_
                 have HB := n3_
                 clear n0_ n1_ n2_ n3_
                 have n0_ := zA1.mk (Kd.zAp HO_7.out)
                 have n1_ := zA1.mk (zA8 BK485.out)
                 have n2_ := zA1.mk (zA8 BK487.out)
                 have n3_ := zA1.mk (zA3 HB.out)
                 clear HO_7
                 clear BK485
                 clear BK487
                 clear HB
                 have HO_7 := n0_
                 have BK485 := n1_
                 have BK487 := n2_
                 have HB := n3_
                 clear n0_ n1_ n2_ n3_
                 have p489 : 0 ≤ (x10_2 : Int) := of_decide_eq_true (by first | (with_reducible assumption) | assumption)
                 have q489 : x10_2 < (l0.length : Int) := of_decide_eq_true (by first | (with_reducible assumption) | assumption)
                 obtain ⟨ad489, A489_1, c489_1, e489, hx489_0, hx489_1, hl489_1, hi489_1⟩ := at_T57 HR0.out x10_2 p489 q489
                 have hw489_1 := hx489_1
                 have hw489_0 := hx489_0
                 obtain rfl : ad484 = ad489 := (by injection e489)
                 replace hx489_0 := (HB.out.cell (World.block_lt_of_cell? w _ hx489_0)).trans hx489_0
                 replace hx489_1 := (HB.out.cell (World.block_lt_of_cell? w _ hx489_1)).trans hx489_1
                 have HR489_1 := zA1.mk hi489_1
                 have HC489_1 := zA1.mk hl489_1
                 clear hi489_1 hl489_1
                 replace p489 := eq_true p489
                 replace q489 := eq_true q489
                 refine start_ (n := 19) (S := fun w' => w'.cell? ⟨gb485, 0, none⟩ = some (.string ((zAs l0 x21_1).f0)) ∧ w'.cell? ⟨gb485, 1, none⟩ = some (.slice A484_1 ((zAs l0 x21_1).f1).length c484_1) ∧ w'.cell? ⟨gb487, 0, none⟩ = some (.string ((zAs l0 x27_2).f0)) ∧ w'.cell? ⟨gb487, 1, none⟩ = some (.slice A486_1 ((zAs l0 x27_2).f1).length c486_1) ∧ w'.cell? (ad484.add ((x10_2).toNat * 2)) = some (.string ((zAs l0 x10_2).f0)) ∧ w'.cell? ⟨(ad484.add ((x10_2).toNat * 2)).block, (ad484.add ((x10_2).toNat * 2)).off + 1, none⟩ = some (.slice A489_1 ((zAs l0 x10_2).f1).length c489_1)) (ds := []) #[false, false, false, false, false, false, false, false, false, false, false, false, false, false, false, false, false, false, false] (by kernel_rfl) rfl rfl ⟨(zA9 BK485.out 0).trans rfl, (zA9 BK485.out 1).trans rfl, (zA9 BK487.out 0).trans rfl, (zA9 BK487.out 1).trans rfl, ((HB.out.cell (World.block_lt_of_cell? w _ hw489_0)).trans hw489_0), ((HB.out.cell (World.block_lt_of_cell? w _ hw489_1)).trans hw489_1)⟩ (fun hHeld => ?_); refine with_tabW zAq.tab12 zAq.bits12 (fun HT_ HW_ => ?_)
                 generalize w29.drew = w30 at HO_7 BK485 BK487 HB HR489_1 hx489_0 hx489_1 hHeld ⊢
                 refine take_ (i := 0) (N := some 32) (v := ?_) (a' := ?_) #[true, false, false, false, false, false, false, false, false, false, false, false, false, false, false, false, false, false, false] rfl rfl (zBt HT_.out HW_.out (by kernel_rfl)) (fun _ _ _ h => h) (Or.inl ⟨by rfl, ?_⟩) hHeld ?_ ?_
                 rotate_left
                 ·rintro w' ⟨s0, s1, s2, s3, s4, s5⟩
                  go_simp
                  with_reducible rfl
                 rotate_left
                 ·simp only [Act.put, List.setIfInBounds_toArray, List.set_cons_zero, List.set_cons_succ, i64_w, i32_w]
                  rfl
                 refine take_ (i := 1) (N := some 33) (v := ?_) (a' := ?_) #[true, true, false, false, false, false, false, false, false, false, false, false, false, false, false, false, false, false, false] rfl rfl (zBt HT_.out HW_.out (by kernel_rfl)) (fun _ _ _ h => h) (Or.inl ⟨by rfl, ?_⟩) hHeld ?_ ?_
                 rotate_left
                 ·rintro w' ⟨s0, s1, s2, s3, s4, s5⟩
                  go_simp
                  with_reducible rfl
                 rotate_left
                 ·simp only [Act.put, List.setIfInBounds_toArray, List.set_cons_zero, List.set_cons_succ, i64_w, i32_w]
                  rfl
                 refine one_ (i := 2) (N := some 34) #[true, true, true, false, false, false, false, false, false, false, false, false, false, false, false, false, false, false, false] rfl rfl (one_of HT_.out (by kernel_rfl)) (by decide) (fun K hK => ?_)
                 refine goes_ Tryd.func52 (by kernel_rfl) rfl #[.agg #[.string ((zAs l0 x21_1).f0), .slice A484_1 ((zAs l0 x21_1).f1).length c484_1], .agg #[.string ((zAs l0 x27_2).f0), .slice A486_1 ((zAs l0 x27_2).f1).length c486_1]] (by rfl) rfl rfl (by (try simp only [List.map_toArray, List.map_cons, List.map_nil]); first | done | rfl | (simp only [List.length_drop, List.length_take]; rfl)) ?_
                 with_reducible refine (zCd.calls k2 ((zAs l0 x21_1).f0) _ _ ((zAs l0 x21_1).f1) ((zAs l0 x27_2).f0) _ _ ((zAs l0 x27_2).f1) true _ ?side1 ?side2 ?side3 ?side4 A14.out).mono ?_
                 (case side1 => repeat (first | exact (Kd.zB1 HR484_1.out HB.out) | (with_reducible refine Kd.zAf ?_ _) | (with_reducible refine Kd.zAk ?_ _) | (with_reducible refine Kd.zAv ?_)))
                 (case side2 => exact HC484_1.out)
                 (case side3 => repeat (first | exact (Kd.zB1 HR486_1.out HB.out) | (with_reducible refine Kd.zAf ?_ _) | (with_reducible refine Kd.zAk ?_ _) | (with_reducible refine Kd.zAv ?_)))
                 (case side4 => exact HC486_1.out)
                 rintro e w31 ⟨rfl, hb⟩
                 refine ⟨_, rfl, ?_⟩
                 have n0_ := zA1.mk (Kd.zBi (by (with_reducible repeat (first | apply Kd.zAi | apply Kd.zAh | apply Kd.zAp)); exact HO_7.out) hb)
                 have n1_ := zA1.mk (zAt (g := gb485) (o := .cells #[.string ((zAs l0 x21_1).f0), .slice A484_1 ((zAs l0 x21_1).f1).length c484_1] 57 (0, 0)) (by (with_reducible repeat (first | refine zA6 ?_ _ | refine zA8 ?_ | refine zA5 ?_ _)); exact BK485.out) hb)
                 have n2_ := zA1.mk (zAt (g := gb487) (o := .cells #[.string ((zAs l0 x27_2).f0), .slice A486_1 ((zAs l0 x27_2).f1).length c486_1] 57 (0, 0)) (by (with_reducible repeat (first | refine zA6 ?_ _ | refine zA8 ?_ | refine zA5 ?_ _)); exact BK487.out) hb)
                 have n3_ := zA1.mk (zAe (by repeat (first | (with_reducible first | exact HB.out | apply zA2 | apply zA0 | apply zA3 | refine zA4 ?_ GE485.out | refine zA4 ?_ GE487.out) | exact HB.out)) hb)
                 clear HO_7
                 clear BK485
                 clear BK487
                 clear HB
                 have HO_7 := n0_
                 have BK485 := n1_
                 have BK487 := n2_
                 have HB := n3_
                 clear n0_ n1_ n2_ n3_
                 (try clear hb)
                 (try clear hb2)
                 (try clear hk)
                 (try clear hi)
                 refine hK.out _ _ ⟨(zA9 BK485.out 0).trans rfl, (zA9 BK485.out 1).trans rfl, (zA9 BK487.out 0).trans rfl, (zA9 BK487.out 1).trans rfl, ((HB.out.cell (World.block_lt_of_cell? w _ hw489_0)).trans hw489_0), ((HB.out.cell (World.block_lt_of_cell? w _ hw489_1)).trans hw489_1)⟩ (fun hHeld => ?_)
                 clear hK K
                 refine norm_ (a' := ?_) ?_ ?_
                 rotate_left
                 ·show Act.put _ (some 34) _ = _
                  simp only [Act.put, List.setIfInBounds_toArray, List.set_cons_zero, List.set_cons_succ, i64_w, i32_w]
                  rfl
                 refine pure_ (i := 3) (N := some 35) (v := ?_) (a' := ?_) #[true, true, true, true, false, false, false, false, false, false, false, false, false, false, false, false, false, false, false] rfl rfl (zB6 HT_.out (by kernel_rfl)) (fun _ _ _ h => h) (Or.inl ⟨by rfl, ?_⟩) ?_ ?_
                 rotate_left
                 ·intro w'
                  go_simp
                  with_reducible rfl
                 rotate_left
                 ·simp only [Act.put, List.setIfInBounds_toArray, List.set_cons_zero, List.set_cons_succ, i64_w, i32_w]
                  rfl
                 refine pure_ (i := 4) (N := some 36) (v := ?_) (a' := ?_) #[true, true, true, true, true, false, false, false, false, false, false, false, false, false, false, false, false, false, false] rfl rfl (zB6 HT_.out (by kernel_rfl)) (fun _ _ _ h => h) (Or.inl ⟨by rfl, ?_⟩) ?_ ?_
                 rotate_left
                 ·intro w'
                  go_simp
                  with_reducible rfl
                 rotate_left
                 ·simp only [Act.put, List.setIfInBounds_toArray, List.set_cons_zero, List.set_cons_succ, i64_w, i32_w]
                  rfl
                 refine pure_ (i := 5) (N := some 37) (v := ?_) (a' := ?_) #[true, true, true, true, true, true, false, false, false, false, false, false, false, false, false, false, false, false, false] rfl rfl (zB6 HT_.out (by kernel_rfl)) (fun _ _ _ h => h) (Or.inl ⟨by rfl, ?_⟩) ?_ ?_
                 rotate_left
                 ·intro w'
                  go_simp
                  with_reducible rfl
                 rotate_left
                 ·simp only [Act.put, List.setIfInBounds_toArray, List.set_cons_zero, List.set_cons_succ, i64_w, i32_w]
                  rfl
                 refine pure_ (i := 6) (N := some 38) (v := ?_) (a' := ?_) #[true, true, true, true, true, true, true, false, false, false, false, false, false, false, false, false, false, false, false] rfl rfl (zB6 HT_.out (by kernel_rfl)) (fun _ _ _ h => h) (Or.inl ⟨by rfl, ?_⟩) ?_ ?_
                 rotate_left
                 ·intro w'
                  go_simp
                  with_reducible rfl
                 rotate_left
                 ·simp only [Act.put, List.setIfInBounds_toArray, List.set_cons_zero, List.set_cons_succ, i64_w, i32_w]
                  rfl
                 refine pure_ (i := 7) (N := some 39) (v := ?_) (a' := ?_) #[true, true, true, true, true, true, true, true, false, false, false, false, false, false, false, false, false, false, false] rfl rfl (zB6 HT_.out (by kernel_rfl)) (fun _ _ _ h => h) (Or.inl ⟨by rfl, ?_⟩) ?_ ?_
                 rotate_left
                 ·intro w'
                  go_simp
                  with_reducible rfl
                 rotate_left
                 ·simp only [Act.put, List.setIfInBounds_toArray, List.set_cons_zero, List.set_cons_succ, i64_w, i32_w]
                  rfl
                 refine pure_ (i := 10) (N := some 42) (v := ?_) (a' := ?_) #[true, true, true, true, true, true, true, true, false, false, true, false, false, false, false, false, false, false, false] rfl rfl (zB6 HT_.out (by kernel_rfl)) (fun _ _ _ h => h) (Or.inl ⟨by rfl, ?_⟩) ?_ ?_
                 rotate_left
                 ·intro w'
                  go_simp
                  with_reducible rfl
                 rotate_left
                 ·simp only [Act.put, List.setIfInBounds_toArray, List.set_cons_zero, List.set_cons_succ, i64_w, i32_w]
                  rfl
                 refine pure_ (i := 11) (N := some 43) (v := ?_) (a' := ?_) #[true, true, true, true, true, true, true, true, false, false, true, true, false, false, false, false, false, false, false] rfl rfl (zB6 HT_.out (by kernel_rfl)) (fun _ _ _ h => h) (Or.inl ⟨by rfl, ?_⟩) ?_ ?_
                 rotate_left
                 ·intro w'
                  go_simp
                  with_reducible rfl
                 rotate_left
                 ·simp only [Act.put, List.setIfInBounds_toArray, List.set_cons_zero, List.set_cons_succ, i64_w, i32_w]
                  rfl
                 refine pure_ (i := 12) (N := some 44) (v := ?_) (a' := ?_) #[true, true, true, true, true, true, true, true, false, false, true, true, true, false, false, false, false, false, false] rfl rfl (zB6 HT_.out (by kernel_rfl)) (fun _ _ _ h => h) (Or.inl ⟨by rfl, ?_⟩) ?_ ?_
                 rotate_left
                 ·intro w'
                  go_simp
                  with_reducible rfl
                 rotate_left
                 ·simp only [Act.put, List.setIfInBounds_toArray, List.set_cons_zero, List.set_cons_succ, i64_w, i32_w]
                  rfl
                 refine pure_ (i := 13) (N := some 45) (v := ?_) (a' := ?_) #[true, true, true, true, true, true, true, true, false, false, true, true, true, true, false, false, false, false, false] rfl rfl (zB6 HT_.out (by kernel_rfl)) (fun _ _ _ h => h) (Or.inl ⟨by rfl, ?_⟩) ?_ ?_
                 rotate_left
                 ·intro w'
                  go_simp
                  with_reducible rfl
                 rotate_left
                 ·simp only [Act.put, List.setIfInBounds_toArray, List.set_cons_zero, List.set_cons_succ, i64_w, i32_w]
                  rfl
                 refine take_ (i := 8) (N := some 40) (v := ?_) (a' := ?_) #[true, true, true, true, true, true, true, true, true, false, true, true, true, true, false, false, false, false, false] rfl rfl (zBt HT_.out HW_.out (by kernel_rfl)) (fun _ _ _ h => h) (Or.inl ⟨by rfl, ?_⟩) hHeld ?_ ?_
                 rotate_left
                 ·rintro w' ⟨s0, s1, s2, s3, s4, s5⟩
                  go_simp
                  with_reducible rfl
                 rotate_left
                 ·simp only [Act.put, List.setIfInBounds_toArray, List.set_cons_zero, List.set_cons_succ, i64_w, i32_w]
                  rfl
                 refine pure_ (i := 9) (N := some 41) (v := ?_) (a' := ?_) #[true, true, true, true, true, true, true, true, true, true, true, true, true, true, false, false, false, false, false] rfl rfl (zB6 HT_.out (by kernel_rfl)) (fun _ _ _ h => h) (Or.inl ⟨by rfl, ?_⟩) ?_ ?_
                 rotate_left
                 ·intro w'
                  go_simp
                  with_reducible rfl
                 rotate_left
                 ·simp only [Act.put, List.setIfInBounds_toArray, List.set_cons_zero, List.set_cons_succ, i64_w, i32_w]
                  rfl
                 refine take_ (i := 14) (N := some 46) (v := ?_) (a' := ?_) #[true, true, true, true, true, true, true, true, true, true, true, true, true, true, true, false, false, false, false] rfl rfl (zBt HT_.out HW_.out (by kernel_rfl)) (fun _ _ _ h => h) (Or.inl ⟨by rfl, ?_⟩) hHeld ?_ ?_
                 rotate_left
                 ·rintro w' ⟨s0, s1, s2, s3, s4, s5⟩
                  go_simp
                  with_reducible rfl
                 rotate_left
                 ·simp only [Act.put, List.setIfInBounds_toArray, List.set_cons_zero, List.set_cons_succ, i64_w, i32_w]
                  rfl
                 refine pure_ (i := 15) (N := some 47) (v := ?_) (a' := ?_) #[true, true, true, true, true, true, true, true, true, true, true, true, true, true, true, true, false, false, false] rfl rfl (zB6 HT_.out (by kernel_rfl)) (fun _ _ _ h => h) (Or.inl ⟨by rfl, ?_⟩) ?_ ?_
                 rotate_left
                 ·intro w'
                  go_simp
                  with_reducible rfl
                 rotate_left
                 ·simp only [Act.put, List.setIfInBounds_toArray, List.set_cons_zero, List.set_cons_succ, i64_w, i32_w]
                  rfl
                 refine pure_ (i := 16) (N := some 48) (v := ?_) (a' := ?_) #[true, true, true, true, true, true, true, true, true, true, true, true, true, true, true, true, true, false, false] rfl rfl (zB6 HT_.out (by kernel_rfl)) (fun _ _ _ h => h) (Or.inl ⟨by rfl, ?_⟩) ?_ ?_
                 rotate_left
                 ·intro w'
                  go_simp
                  with_reducible rfl
                 rotate_left
                 ·simp only [Act.put, List.setIfInBounds_toArray, List.set_cons_zero, List.set_cons_succ, i64_w, i32_w]
                  rfl
                 refine pure_ (i := 17) (N := some 49) (v := ?_) (a' := ?_) #[true, true, true, true, true, true, true, true, true, true, true, true, true, true, true, true, true, true, false] rfl rfl (zB6 HT_.out (by kernel_rfl)) (fun _ _ _ h => h) (Or.inl ⟨by rfl, ?_⟩) ?_ ?_
                 rotate_left
                 ·intro w'
                  go_simp
                  with_reducible rfl
                 rotate_left
                 ·simp only [Act.put, List.setIfInBounds_toArray, List.set_cons_zero, List.set_cons_succ, i64_w, i32_w]
                  rfl
                 refine pure_ (i := 18) (N := some 50) (v := ?_) (a' := ?_) #[true, true, true, true, true, true, true, true, true, true, true, true, true, true, true, true, true, true, true] rfl rfl (zB6 HT_.out (by kernel_rfl)) (fun _ _ _ h => h) (Or.inl ⟨by rfl, ?_⟩) ?_ ?_
                 rotate_left
                 ·intro w'
                  go_simp
                  with_reducible rfl
                 rotate_left
                 ·simp only [Act.put, List.setIfInBounds_toArray, List.set_cons_zero, List.set_cons_succ, i64_w, i32_w]
                  rfl
                 refine done_ (done_of HT_.out (by kernel_rfl)) ?_
                 try go_wp2
                 go_roundg k2
                 case measure => have := HK1.out; have := HK2.out; omega
                 case rel => exact ⟨(x27_2), (wrap64 (x27_2 + 1)), (by first | rfl | (simp; done) | (simp [*]; done)), (by first | rfl | (simp; done) | (simp [*]; done)), H', ⟨by have := HK1.out; have := HK2.out; omega⟩, ⟨by (with_reducible repeat (first | apply Kd.zAi | apply Kd.zAh | apply Kd.zAp)); exact HO_7.out⟩, ⟨by (with_reducible repeat (first | refine zA6 ?_ _ | refine zA8 ?_ | refine zA5 ?_ _)); exact BK485.out⟩, ⟨by repeat (first | (with_reducible first | exact HB.out | apply zA2 | apply zA0 | apply zA3 | refine zA4 ?_ GE485.out | refine zA4 ?_ GE487.out) | exact HB.out)⟩⟩
                ·rw [if_neg c25] at H
                 have c25b0 : decide ((((zAs l0 x27_2).f1).length : Int) < (((zAs l0 x10_2).f1).length : Int)) = false := decide_eq_false c25
                 have c25b1 : decide (((zAs l0 x27_2).f1).length < ((zAs l0 x10_2).f1).length) = false := decide_eq_false (fun h => c25 (Int.ofNat_lt.mpr h))
                 clear c25
                 have H' := zA1.mk H
                 clear H
                 have p486 : 0 ≤ (x27_2 : Int) := of_decide_eq_true (by first | (with_reducible assumption) | assumption)
                 have q486 : x27_2 < (l0.length : Int) := of_decide_eq_true (by first | (with_reducible assumption) | assumption)
                 obtain ⟨ad486, A486_1, c486_1, e486, hx486_0, hx486_1, hl486_1, hi486_1⟩ := at_T57 HR0.out x27_2 p486 q486
                 obtain rfl : ad484 = ad486 := (by injection e486)
                 replace hx486_0 := (HB.out.cell (World.block_lt_of_cell? w _ hx486_0)).trans hx486_0
                 replace hx486_1 := (HB.out.cell (World.block_lt_of_cell? w _ hx486_1)).trans hx486_1
                 have HR486_1 := zA1.mk hi486_1
                 have HC486_1 := zA1.mk hl486_1
                 clear hi486_1 hl486_1
                 replace p486 := eq_true p486
                 replace q486 := eq_true q486
                 try go_wp2_with (first | ((with_reducible refine zBk (N := 12) rfl ?_); (try (refine gate_guard (by rfl) ?_; dsimp only)); refine zBj ?hg (N := 12) ?hd (cs := #[.string (⟨#[]⟩ : ByteArray), .slice none 0 0]) (t := 57) ?hr ?_; (case hd => rfl); (case hg => rfl); (case hr => first | (go_simp; done) | (go_simp; rfl)); intro gb487 hg w32 hbox hb; have n0_ := zA1.mk (Kd.zBi (by (with_reducible repeat (first | apply Kd.zAi | apply Kd.zAh | apply Kd.zAp)); exact HO_7.out) hb); have n1_ := zA1.mk (zAt (g := gb485) (o := .cells #[.string ((zAs l0 x21_1).f0), .slice A484_1 ((zAs l0 x21_1).f1).length c484_1] 57 (0, 0)) (by (with_reducible repeat (first | refine zA6 ?_ _ | refine zA8 ?_ | refine zA5 ?_ _)); exact BK485.out) hb); have n2_ := zA1.mk (zAe (by repeat (first | (with_reducible first | exact HB.out | apply zA2 | apply zA0 | apply zA3 | refine zA4 ?_ GE485.out) | exact HB.out)) hb); have n3_ := zA1.mk (hbox); have n4_ := zA1.mk ((by rw [hg]; exact (zAb (by repeat (first | (with_reducible first | exact HB.out | apply zA2 | apply zA0 | apply zA3 | refine zA4 ?_ GE485.out) | exact HB.out))) : w.heap.size ≤ gb487)); have n5_ := zA1.mk ((by rw [hg]; exact (zAb (by repeat (first | (with_reducible first | exact HB.out | apply zA2 | apply zA0 | apply zA3 | refine zA4 ?_ GE485.out) | exact HB.out))) : w.heap.size ≤ gb487)); have n6_ := zA1.mk ((by rw [hg]; exact Nat.ne_of_lt (zCm (g := gb485) (o := .cells #[.string ((zAs l0 x21_1).f0), .slice A484_1 ((zAs l0 x21_1).f1).length c484_1] 57 (0, 0)) (by (with_reducible repeat (first | refine zA6 ?_ _ | refine zA8 ?_ | refine zA5 ?_ _)); exact BK485.out)) : gb485 ≠ gb487)); have n7_ := zA1.mk ((by rw [hg]; exact Nat.ne_of_gt (zCm (g := gb485) (o := .cells #[.string ((zAs l0 x21_1).f0), .slice A484_1 ((zAs l0 x21_1).f1).length c484_1] 57 (0, 0)) (by (with_reducible repeat (first | refine zA6 ?_ _ | refine zA8 ?_ | refine zA5 ?_ _)); exact BK485.out)) : gb487 ≠ gb485)); clear HO_7; clear BK485; clear HB; have HO_7 := n0_; have BK485 := n1_; have HB := n2_; have BK487 := n3_; have GW487 := n4_; have GE487 := n5_; have NB485_487 := n6_; have NB487_485 := n7_; clear n0_ n1_ n2_ n3_ n4_ n5_ n6_ n7_; clear hb hbox hg; have hnb33 := NB487_485.out; have hnc33 := NB485_487.out; have hcz34_0 : w32.cell? ⟨gb487, 0, none⟩ = some (.string (⟨#[]⟩ : ByteArray)) := (zA9 BK487.out 0).trans rfl; have hcz34_1 : w32.cell? ⟨gb487, 1, none⟩ = some (.slice none 0 0) := (zA9 BK487.out 1).trans rfl; have hfz34_0 := zAd BK487.out 0; have hfz34_1 := zAd BK487.out 1))
                 have n0_ : zA1 (Kd.R (Kd.int .i64) 3 ((w32.setCell ⟨gb487, 0, none⟩ (.string ((zAs l0 x27_2).f0))).setCell ⟨gb487, 1, none⟩ (.slice A486_1 ((zAs l0 x27_2).f1).length c486_1)) w.heap.size (fun _ => True) u7 x7_1) := ⟨by (with_reducible repeat (first | apply Kd.zAi | apply Kd.zAh | apply Kd.zAp)); exact Kd.zC3 (Kd.R_far (p := ⟨gb487, 1, none⟩) (Kd.R_far (p := ⟨gb487, 0, none⟩) (Kd.zCa HO_7.out BK487.out (by decide)) (fun _ hk => hk.2) (.string ((zAs l0 x27_2).f0))) (fun _ hk => hk.2) (.slice A486_1 ((zAs l0 x27_2).f1).length c486_1)) (fun _ hk => trivial)⟩
                 have n1_ : zA1 (((w32.setCell ⟨gb487, 0, none⟩ (.string ((zAs l0 x27_2).f0))).setCell ⟨gb487, 1, none⟩ (.slice A486_1 ((zAs l0 x27_2).f1).length c486_1)).heap[gb485]? = some (.cells #[.string ((zAs l0 x21_1).f0), .slice A484_1 ((zAs l0 x21_1).f1).length c484_1] 57 (0, 0))) := ⟨by (with_reducible repeat (first | refine zA6 ?_ _ | refine zA8 ?_ | refine zA5 ?_ _)); refine blk_far ?_ NB485_487.out _; (with_reducible repeat (first | refine zA6 ?_ _ | refine zA8 ?_ | refine zA5 ?_ _)); refine blk_far ?_ NB485_487.out _; (with_reducible repeat (first | refine zA6 ?_ _ | refine zA8 ?_ | refine zA5 ?_ _)); exact BK485.out⟩
                 have n2_ : zA1 (((w32.setCell ⟨gb487, 0, none⟩ (.string ((zAs l0 x27_2).f0))).setCell ⟨gb487, 1, none⟩ (.slice A486_1 ((zAs l0 x27_2).f1).length c486_1)).heap[gb487]? = some (.cells #[.string ((zAs l0 x27_2).f0), .slice A486_1 ((zAs l0 x27_2).f1).length c486_1] 57 (0, 0))) := ⟨by (with_reducible repeat (first | refine zA6 ?_ _ | refine zA8 ?_ | refine zA5 ?_ _)); refine zCj (cs := #[.string ((zAs l0 x27_2).f0), .slice none 0 0]) ?_ 1 _ rfl; (with_reducible repeat (first | refine zA6 ?_ _ | refine zA8 ?_ | refine zA5 ?_ _)); refine zCj (cs := #[.string (⟨#[]⟩ : ByteArray), .slice none 0 0]) ?_ 0 _ rfl; (with_reducible repeat (first | refine zA6 ?_ _ | refine zA8 ?_ | refine zA5 ?_ _)); exact BK487.out⟩
                 have n3_ : zA1 (Below w.heap.size w ((w32.setCell ⟨gb487, 0, none⟩ (.string ((zAs l0 x27_2).f0))).setCell ⟨gb487, 1, none⟩ (.slice A486_1 ((zAs l0 x27_2).f1).length c486_1))) := ⟨by repeat (first | (with_reducible first | exact HB.out | apply zA2 | apply zA0 | apply zA3 | refine zA4 ?_ GE485.out | refine zA4 ?_ GE487.out) | exact HB.out)⟩
                 (try clear HO_7)
                 (try clear BK485)
                 (try clear BK487)
                 (try clear HB)
                 generalize ((w32.setCell ⟨gb487, 0, none⟩ (.string ((zAs l0 x27_2).f0))).setCell ⟨gb487, 1, none⟩ (.slice A486_1 ((zAs l0 x27_2).f1).length c486_1)) = w35 at n0_ n1_ n2_ n3_ ⊢
                 have HO_7 := n0_
                 have BK485 := n1_
                 have BK487 := n2_
                 have HB := n3_
                 clear n0_ n1_ n2_ n3_
                 have n0_ := zA1.mk (Kd.zAp HO_7.out)
                 have n1_ := zA1.mk (zA8 BK485.out)
                 have n2_ := zA1.mk (zA8 BK487.out)
                 have n3_ := zA1.mk (zA3 HB.out)
                 clear HO_7
                 clear BK485
                 clear BK487
                 clear HB
                 have HO_7 := n0_
                 have BK485 := n1_
                 have BK487 := n2_
                 have HB := n3_
                 clear n0_ n1_ n2_ n3_
                 have p489 : 0 ≤ (x10_2 : Int) := of_decide_eq_true (by first | (with_reducible assumption) | assumption)
                 have q489 : x10_2 < (l0.length : Int) := of_decide_eq_true (by first | (with_reducible assumption) | assumption)
                 obtain ⟨ad489, A489_1, c489_1, e489, hx489_0, hx489_1, hl489_1, hi489_1⟩ := at_T57 HR0.out x10_2 p489 q489
                 have hw489_1 := hx489_1
                 have hw489_0 := hx489_0
                 obtain rfl : ad484 = ad489 := (by injection e489)
                 replace hx489_0 := (HB.out.cell (World.block_lt_of_cell? w _ hx489_0)).trans hx489_0
                 replace hx489_1 := (HB.out.cell (World.block_lt_of_cell? w _ hx489_1)).trans hx489_1
                 have HR489_1 := zA1.mk hi489_1
                 have HC489_1 := zA1.mk hl489_1
                 clear hi489_1 hl489_1
                 replace p489 := eq_true p489
                 replace q489 := eq_true q489
                 refine start_ (n := 19) (S := fun w' => w'.cell? ⟨gb485, 0, none⟩ = some (.string ((zAs l0 x21_1).f0)) ∧ w'.cell? ⟨gb485, 1, none⟩ = some (.slice A484_1 ((zAs l0 x21_1).f1).length c484_1) ∧ w'.cell? ⟨gb487, 0, none⟩ = some (.string ((zAs l0 x27_2).f0)) ∧ w'.cell? ⟨gb487, 1, none⟩ = some (.slice A486_1 ((zAs l0 x27_2).f1).length c486_1) ∧ w'.cell? (ad484.add ((x10_2).toNat * 2)) = some (.string ((zAs l0 x10_2).f0)) ∧ w'.cell? ⟨(ad484.add ((x10_2).toNat * 2)).block, (ad484.add ((x10_2).toNat * 2)).off + 1, none⟩ = some (.slice A489_1 ((zAs l0 x10_2).f1).length c489_1)) (ds := []) #[false, false, false, false, false, false, false, false, false, false, false, false, false, false, false, false, false, false, false] (by kernel_rfl) rfl rfl ⟨(zA9 BK485.out 0).trans rfl, (zA9 BK485.out 1).trans rfl, (zA9 BK487.out 0).trans rfl, (zA9 BK487.out 1).trans rfl, ((HB.out.cell (World.block_lt_of_cell? w _ hw489_0)).trans hw489_0), ((HB.out.cell (World.block_lt_of_cell? w _ hw489_1)).trans hw489_1)⟩ (fun hHeld => ?_); refine with_tabW zAq.tab12 zAq.bits12 (fun HT_ HW_ => ?_)
                 generalize w35.drew = w36 at HO_7 BK485 BK487 HB HR489_1 hx489_0 hx489_1 hHeld ⊢
                 refine take_ (i := 0) (N := some 32) (v := ?_) (a' := ?_) #[true, false, false, false, false, false, false, false, false, false, false, false, false, false, false, false, false, false, false] rfl rfl (zBt HT_.out HW_.out (by kernel_rfl)) (fun _ _ _ h => h) (Or.inl ⟨by rfl, ?_⟩) hHeld ?_ ?_
                 rotate_left
                 ·rintro w' ⟨s0, s1, s2, s3, s4, s5⟩
                  go_simp
                  with_reducible rfl
                 rotate_left
                 ·simp only [Act.put, List.setIfInBounds_toArray, List.set_cons_zero, List.set_cons_succ, i64_w, i32_w]
                  rfl
                 refine take_ (i := 1) (N := some 33) (v := ?_) (a' := ?_) #[true, true, false, false, false, false, false, false, false, false, false, false, false, false, false, false, false, false, false] rfl rfl (zBt HT_.out HW_.out (by kernel_rfl)) (fun _ _ _ h => h) (Or.inl ⟨by rfl, ?_⟩) hHeld ?_ ?_
                 rotate_left
                 ·rintro w' ⟨s0, s1, s2, s3, s4, s5⟩
                  go_simp
                  with_reducible rfl
                 rotate_left
                 ·simp only [Act.put, List.setIfInBounds_toArray, List.set_cons_zero, List.set_cons_succ, i64_w, i32_w]
                  rfl
                 refine one_ (i := 2) (N := some 34) #[true, true, true, false, false, false, false, false, false, false, false, false, false, false, false, false, false, false, false] rfl rfl (one_of HT_.out (by kernel_rfl)) (by decide) (fun K hK => ?_)
                 refine goes_ Tryd.func52 (by kernel_rfl) rfl #[.agg #[.string ((zAs l0 x21_1).f0), .slice A484_1 ((zAs l0 x21_1).f1).length c484_1], .agg #[.string ((zAs l0 x27_2).f0), .slice A486_1 ((zAs l0 x27_2).f1).length c486_1]] (by rfl) rfl rfl (by (try simp only [List.map_toArray, List.map_cons, List.map_nil]); first | done | rfl | (simp only [List.length_drop, List.length_take]; rfl)) ?_
                 with_reducible refine (zCd.calls k2 ((zAs l0 x21_1).f0) _ _ ((zAs l0 x21_1).f1) ((zAs l0 x27_2).f0) _ _ ((zAs l0 x27_2).f1) true _ ?side1 ?side2 ?side3 ?side4 A14.out).mono ?_
                 (case side1 => repeat (first | exact (Kd.zB1 HR484_1.out HB.out) | (with_reducible refine Kd.zAf ?_ _) | (with_reducible refine Kd.zAk ?_ _) | (with_reducible refine Kd.zAv ?_)))
                 (case side2 => exact HC484_1.out)
                 (case side3 => repeat (first | exact (Kd.zB1 HR486_1.out HB.out) | (with_reducible refine Kd.zAf ?_ _) | (with_reducible refine Kd.zAk ?_ _) | (with_reducible refine Kd.zAv ?_)))
                 (case side4 => exact HC486_1.out)
                 rintro e w37 ⟨rfl, hb⟩
                 refine ⟨_, rfl, ?_⟩
                 have n0_ := zA1.mk (Kd.zBi (by (with_reducible repeat (first | apply Kd.zAi | apply Kd.zAh | apply Kd.zAp)); exact HO_7.out) hb)
                 have n1_ := zA1.mk (zAt (g := gb485) (o := .cells #[.string ((zAs l0 x21_1).f0), .slice A484_1 ((zAs l0 x21_1).f1).length c484_1] 57 (0, 0)) (by (with_reducible repeat (first | refine zA6 ?_ _ | refine zA8 ?_ | refine zA5 ?_ _)); exact BK485.out) hb)
                 have n2_ := zA1.mk (zAt (g := gb487) (o := .cells #[.string ((zAs l0 x27_2).f0), .slice A486_1 ((zAs l0 x27_2).f1).length c486_1] 57 (0, 0)) (by (with_reducible repeat (first | refine zA6 ?_ _ | refine zA8 ?_ | refine zA5 ?_ _)); exact BK487.out) hb)
                 have n3_ := zA1.mk (zAe (by repeat (first | (with_reducible first | exact HB.out | apply zA2 | apply zA0 | apply zA3 | refine zA4 ?_ GE485.out | refine zA4 ?_ GE487.out) | exact HB.out)) hb)
                 clear HO_7
                 clear BK485
                 clear BK487
                 clear HB
                 have HO_7 := n0_
                 have BK485 := n1_
                 have BK487 := n2_
                 have HB := n3_
                 clear n0_ n1_ n2_ n3_
                 (try clear hb)
                 (try clear hb2)
                 (try clear hk)
                 (try clear hi)
                 refine hK.out _ _ ⟨(zA9 BK485.out 0).trans rfl, (zA9 BK485.out 1).trans rfl, (zA9 BK487.out 0).trans rfl, (zA9 BK487.out 1).trans rfl, ((HB.out.cell (World.block_lt_of_cell? w _ hw489_0)).trans hw489_0), ((HB.out.cell (World.block_lt_of_cell? w _ hw489_1)).trans hw489_1)⟩ (fun hHeld => ?_)
                 clear hK K
                 refine norm_ (a' := ?_) ?_ ?_
                 rotate_left
                 ·show Act.put _ (some 34) _ = _
                  simp only [Act.put, List.setIfInBounds_toArray, List.set_cons_zero, List.set_cons_succ, i64_w, i32_w]
                  rfl
                 refine pure_ (i := 3) (N := some 35) (v := ?_) (a' := ?_) #[true, true, true, true, false, false, false, false, false, false, false, false, false, false, false, false, false, false, false] rfl rfl (zB6 HT_.out (by kernel_rfl)) (fun _ _ _ h => h) (Or.inl ⟨by rfl, ?_⟩) ?_ ?_
                 rotate_left
                 ·intro w'
                  go_simp
                  with_reducible rfl
                 rotate_left
                 ·simp only [Act.put, List.setIfInBounds_toArray, List.set_cons_zero, List.set_cons_succ, i64_w, i32_w]
                  rfl
                 refine pure_ (i := 4) (N := some 36) (v := ?_) (a' := ?_) #[true, true, true, true, true, false, false, false, false, false, false, false, false, false, false, false, false, false, false] rfl rfl (zB6 HT_.out (by kernel_rfl)) (fun _ _ _ h => h) (Or.inl ⟨by rfl, ?_⟩) ?_ ?_
                 rotate_left
                 ·intro w'
                  go_simp
                  with_reducible rfl
                 rotate_left
                 ·simp only [Act.put, List.setIfInBounds_toArray, List.set_cons_zero, List.set_cons_succ, i64_w, i32_w]
                  rfl
                 refine pure_ (i := 5) (N := some 37) (v := ?_) (a' := ?_) #[true, true, true, true, true, true, false, false, false, false, false, false, false, false, false, false, false, false, false] rfl rfl (zB6 HT_.out (by kernel_rfl)) (fun _ _ _ h => h) (Or.inl ⟨by rfl, ?_⟩) ?_ ?_
                 rotate_left
                 ·intro w'
                  go_simp
                  with_reducible rfl
                 rotate_left
                 ·simp only [Act.put, List.setIfInBounds_toArray, List.set_cons_zero, List.set_cons_succ, i64_w, i32_w]
                  rfl
                 refine pure_ (i := 6) (N := some 38) (v := ?_) (a' := ?_) #[true, true, true, true, true, true, true, false, false, false, false, false, false, false, false, false, false, false, false] rfl rfl (zB6 HT_.out (by kernel_rfl)) (fun _ _ _ h => h) (Or.inl ⟨by rfl, ?_⟩) ?_ ?_
                 rotate_left
                 ·intro w'
                  go_simp
                  with_reducible rfl
                 rotate_left
                 ·simp only [Act.put, List.setIfInBounds_toArray, List.set_cons_zero, List.set_cons_succ, i64_w, i32_w]
                  rfl
                 refine pure_ (i := 7) (N := some 39) (v := ?_) (a' := ?_) #[true, true, true, true, true, true, true, true, false, false, false, false, false, false, false, false, false, false, false] rfl rfl (zB6 HT_.out (by kernel_rfl)) (fun _ _ _ h => h) (Or.inl ⟨by rfl, ?_⟩) ?_ ?_
                 rotate_left
                 ·intro w'
                  go_simp
                  with_reducible rfl
                 rotate_left
                 ·simp only [Act.put, List.setIfInBounds_toArray, List.set_cons_zero, List.set_cons_succ, i64_w, i32_w]
                  rfl
                 refine pure_ (i := 10) (N := some 42) (v := ?_) (a' := ?_) #[true, true, true, true, true, true, true, true, false, false, true, false, false, false, false, false, false, false, false] rfl rfl (zB6 HT_.out (by kernel_rfl)) (fun _ _ _ h => h) (Or.inl ⟨by rfl, ?_⟩) ?_ ?_
                 rotate_left
                 ·intro w'
                  go_simp
                  with_reducible rfl
                 rotate_left
                 ·simp only [Act.put, List.setIfInBounds_toArray, List.set_cons_zero, List.set_cons_succ, i64_w, i32_w]
                  rfl
                 refine pure_ (i := 11) (N := some 43) (v := ?_) (a' := ?_) #[true, true, true, true, true, true, true, true, false, false, true, true, false, false, false, false, false, false, false] rfl rfl (zB6 HT_.out (by kernel_rfl)) (fun _ _ _ h => h) (Or.inl ⟨by rfl, ?_⟩) ?_ ?_
                 rotate_left
                 ·intro w'
                  go_simp
                  with_reducible rfl
                 rotate_left
                 ·simp only [Act.put, List.setIfInBounds_toArray, List.set_cons_zero, List.set_cons_succ, i64_w, i32_w]
                  rfl
                 refine pure_ (i := 12) (N := some 44) (v := ?_) (a' := ?_) #[true, true, true, true, true, true, true, true, false, false, true, true, true, false, false, false, false, false, false] rfl rfl (zB6 HT_.out (by kernel_rfl)) (fun _ _ _ h => h) (Or.inl ⟨by rfl, ?_⟩) ?_ ?_
                 rotate_left
                 ·intro w'
                  go_simp
                  with_reducible rfl
                 rotate_left
                 ·simp only [Act.put, List.setIfInBounds_toArray, List.set_cons_zero, List.set_cons_succ, i64_w, i32_w]
                  rfl
                 refine pure_ (i := 13) (N := some 45) (v := ?_) (a' := ?_) #[true, true, true, true, true, true, true, true, false, false, true, true, true, true, false, false, false, false, false] rfl rfl (zB6 HT_.out (by kernel_rfl)) (fun _ _ _ h => h) (Or.inl ⟨by rfl, ?_⟩) ?_ ?_
                 rotate_left
                 ·intro w'
                  go_simp
                  with_reducible rfl
                 rotate_left
                 ·simp only [Act.put, List.setIfInBounds_toArray, List.set_cons_zero, List.set_cons_succ, i64_w, i32_w]
                  rfl
                 refine take_ (i := 8) (N := some 40) (v := ?_) (a' := ?_) #[true, true, true, true, true, true, true, true, true, false, true, true, true, true, false, false, false, false, false] rfl rfl (zBt HT_.out HW_.out (by kernel_rfl)) (fun _ _ _ h => h) (Or.inl ⟨by rfl, ?_⟩) hHeld ?_ ?_
                 rotate_left
                 ·rintro w' ⟨s0, s1, s2, s3, s4, s5⟩
                  go_simp
                  with_reducible rfl
                 rotate_left
                 ·simp only [Act.put, List.setIfInBounds_toArray, List.set_cons_zero, List.set_cons_succ, i64_w, i32_w]
                  rfl
                 refine pure_ (i := 9) (N := some 41) (v := ?_) (a' := ?_) #[true, true, true, true, true, true, true, true, true, true, true, true, true, true, false, false, false, false, false] rfl rfl (zB6 HT_.out (by kernel_rfl)) (fun _ _ _ h => h) (Or.inl ⟨by rfl, ?_⟩) ?_ ?_
                 rotate_left
                 ·intro w'
                  go_simp
                  with_reducible rfl
                 rotate_left
                 ·simp only [Act.put, List.setIfInBounds_toArray, List.set_cons_zero, List.set_cons_succ, i64_w, i32_w]
                  rfl
                 refine take_ (i := 14) (N := some 46) (v := ?_) (a' := ?_) #[true, true, true, true, true, true, true, true, true, true, true, true, true, true, true, false, false, false, false] rfl rfl (zBt HT_.out HW_.out (by kernel_rfl)) (fun _ _ _ h => h) (Or.inl ⟨by rfl, ?_⟩) hHeld ?_ ?_
                 rotate_left
                 ·rintro w' ⟨s0, s1, s2, s3, s4, s5⟩
                  go_simp
                  with_reducible rfl
                 rotate_left
                 ·simp only [Act.put, List.setIfInBounds_toArray, List.set_cons_zero, List.set_cons_succ, i64_w, i32_w]
                  rfl
                 refine pure_ (i := 15) (N := some 47) (v := ?_) (a' := ?_) #[true, true, true, true, true, true, true, true, true, true, true, true, true, true, true, true, false, false, false] rfl rfl (zB6 HT_.out (by kernel_rfl)) (fun _ _ _ h => h) (Or.inl ⟨by rfl, ?_⟩) ?_ ?_
                 rotate_left
                 ·intro w'
                  go_simp
                  with_reducible rfl
                 rotate_left
                 ·simp only [Act.put, List.setIfInBounds_toArray, List.set_cons_zero, List.set_cons_succ, i64_w, i32_w]
                  rfl
                 refine pure_ (i := 16) (N := some 48) (v := ?_) (a' := ?_) #[true, true, true, true, true, true, true, true, true, true, true, true, true, true, true, true, true, false, false] rfl rfl (zB6 HT_.out (by kernel_rfl)) (fun _ _ _ h => h) (Or.inl ⟨by rfl, ?_⟩) ?_ ?_
                 rotate_left
                 ·intro w'
                  go_simp
                  with_reducible rfl
                 rotate_left
                 ·simp only [Act.put, List.setIfInBounds_toArray, List.set_cons_zero, List.set_cons_succ, i64_w, i32_w]
                  rfl
                 refine pure_ (i := 17) (N := some 49) (v := ?_) (a' := ?_) #[true, true, true, true, true, true, true, true, true, true, true, true, true, true, true, true, true, true, false] rfl rfl (zB6 HT_.out (by kernel_rfl)) (fun _ _ _ h => h) (Or.inl ⟨by rfl, ?_⟩) ?_ ?_
                 rotate_left
                 ·intro w'
                  go_simp
                  with_reducible rfl
                 rotate_left
                 ·simp only [Act.put, List.setIfInBounds_toArray, List.set_cons_zero, List.set_cons_succ, i64_w, i32_w]
                  rfl
                 refine pure_ (i := 18) (N := some 50) (v := ?_) (a' := ?_) #[true, true, true, true, true, true, true, true, true, true, true, true, true, true, true, true, true, true, true] rfl rfl (zB6 HT_.out (by kernel_rfl)) (fun _ _ _ h => h) (Or.inl ⟨by rfl, ?_⟩) ?_ ?_
                 rotate_left
                 ·intro w'
                  go_simp
                  with_reducible rfl
                 rotate_left
                 ·simp only [Act.put, List.setIfInBounds_toArray, List.set_cons_zero, List.set_cons_succ, i64_w, i32_w]
                  rfl
                 refine done_ (done_of HT_.out (by kernel_rfl)) ?_
                 try go_wp2
                 go_roundg k2
                 case measure => have := HK1.out; have := HK2.out; omega
                 case rel => exact ⟨(x10_2), (wrap64 (x27_2 + 1)), (by first | rfl | (simp; done) | (simp [*]; done)), (by first | rfl | (simp; done) | (simp [*]; done)), H', ⟨by have := HK1.out; have := HK2.out; omega⟩, ⟨by (with_reducible repeat (first | apply Kd.zAi | apply Kd.zAh | apply Kd.zAp)); exact HO_7.out⟩, ⟨by (with_reducible repeat (first | refine zA6 ?_ _ | refine zA8 ?_ | refine zA5 ?_ _)); exact BK485.out⟩, ⟨by repeat (first | (with_reducible first | exact HB.out | apply zA2 | apply zA0 | apply zA3 | refine zA4 ?_ GE485.out | refine zA4 ?_ GE487.out) | exact HB.out)⟩⟩
               ·rw [if_neg c24] at H
                exact absurd H (by simp)
              ·rw [if_neg c23] at H
               exact absurd H (by simp)
            ·replace c15 := Bool.eq_false_iff.mpr c15
             subst c15
             have H1 : (zAq.l1 k2 l0 x7_1 x10_2 l0 (l0.length : Int) x21_1 l0 (l0.length : Int) (wrap64 (x27_2 + 1)) ((zAs l0 x21_1).f0) ((zAs l0 x21_1).f1)) = some (r1, r2) := by rw [if_neg (show ¬ (false = true) by decide)] at H; exact H
             clear H
             have H := H1
             clear H1
             have H' := zA1.mk H
             clear H
             have p486 : 0 ≤ (x27_2 : Int) := of_decide_eq_true (by first | (with_reducible assumption) | assumption)
             have q486 : x27_2 < (l0.length : Int) := of_decide_eq_true (by first | (with_reducible assumption) | assumption)
             obtain ⟨ad486, A486_1, c486_1, e486, hx486_0, hx486_1, hl486_1, hi486_1⟩ := at_T57 HR0.out x27_2 p486 q486
             obtain rfl : ad484 = ad486 := (by injection e486)
             replace hx486_0 := (HB.out.cell (World.block_lt_of_cell? w _ hx486_0)).trans hx486_0
             replace hx486_1 := (HB.out.cell (World.block_lt_of_cell? w _ hx486_1)).trans hx486_1
             have HR486_1 := zA1.mk hi486_1
             have HC486_1 := zA1.mk hl486_1
             clear hi486_1 hl486_1
             replace p486 := eq_true p486
             replace q486 := eq_true q486
             try go_wp2_with (first | ((with_reducible refine zBk (N := 12) rfl ?_); (try (refine gate_guard (by rfl) ?_; dsimp only)); refine zBj ?hg (N := 12) ?hd (cs := #[.string (⟨#[]⟩ : ByteArray), .slice none 0 0]) (t := 57) ?hr ?_; (case hd => rfl); (case hg => rfl); (case hr => first | (go_simp; done) | (go_simp; rfl)); intro gb487 hg w38 hbox hb; have n0_ := zA1.mk (Kd.zBi (by (with_reducible repeat (first | apply Kd.zAi | apply Kd.zAh | apply Kd.zAp)); exact HO_7.out) hb); have n1_ := zA1.mk (zAt (g := gb485) (o := .cells #[.string ((zAs l0 x21_1).f0), .slice A484_1 ((zAs l0 x21_1).f1).length c484_1] 57 (0, 0)) (by (with_reducible repeat (first | refine zA6 ?_ _ | refine zA8 ?_ | refine zA5 ?_ _)); exact BK485.out) hb); have n2_ := zA1.mk (zAe (by repeat (first | (with_reducible first | exact HB.out | apply zA2 | apply zA0 | apply zA3 | refine zA4 ?_ GE485.out) | exact HB.out)) hb); have n3_ := zA1.mk (hbox); have n4_ := zA1.mk ((by rw [hg]; exact (zAb (by repeat (first | (with_reducible first | exact HB.out | apply zA2 | apply zA0 | apply zA3 | refine zA4 ?_ GE485.out) | exact HB.out))) : w.heap.size ≤ gb487)); have n5_ := zA1.mk ((by rw [hg]; exact (zAb (by repeat (first | (with_reducible first | exact HB.out | apply zA2 | apply zA0 | apply zA3 | refine zA4 ?_ GE485.out) | exact HB.out))) : w.heap.size ≤ gb487)); have n6_ := zA1.mk ((by rw [hg]; exact Nat.ne_of_lt (zCm (g := gb485) (o := .cells #[.string ((zAs l0 x21_1).f0), .slice A484_1 ((zAs l0 x21_1).f1).length c484_1] 57 (0, 0)) (by (with_reducible repeat (first | refine zA6 ?_ _ | refine zA8 ?_ | refine zA5 ?_ _)); exact BK485.out)) : gb485 ≠ gb487)); have n7_ := zA1.mk ((by rw [hg]; exact Nat.ne_of_gt (zCm (g := gb485) (o := .cells #[.string ((zAs l0 x21_1).f0), .slice A484_1 ((zAs l0 x21_1).f1).length c484_1] 57 (0, 0)) (by (with_reducible repeat (first | refine zA6 ?_ _ | refine zA8 ?_ | refine zA5 ?_ _)); exact BK485.out)) : gb487 ≠ gb485)); clear HO_7; clear BK485; clear HB; have HO_7 := n0_; have BK485 := n1_; have HB := n2_; have BK487 := n3_; have GW487 := n4_; have GE487 := n5_; have NB485_487 := n6_; have NB487_485 := n7_; clear n0_ n1_ n2_ n3_ n4_ n5_ n6_ n7_; clear hb hbox hg; have hnb39 := NB487_485.out; have hnc39 := NB485_487.out; have hcz40_0 : w38.cell? ⟨gb487, 0, none⟩ = some (.string (⟨#[]⟩ : ByteArray)) := (zA9 BK487.out 0).trans rfl; have hcz40_1 : w38.cell? ⟨gb487, 1, none⟩ = some (.slice none 0 0) := (zA9 BK487.out 1).trans rfl; have hfz40_0 := zAd BK487.out 0; have hfz40_1 := zAd BK487.out 1))
             have n0_ : zA1 (Kd.R (Kd.int .i64) 3 ((w38.setCell ⟨gb487, 0, none⟩ (.string ((zAs l0 x27_2).f0))).setCell ⟨gb487, 1, none⟩ (.slice A486_1 ((zAs l0 x27_2).f1).length c486_1)) w.heap.size (fun _ => True) u7 x7_1) := ⟨by (with_reducible repeat (first | apply Kd.zAi | apply Kd.zAh | apply Kd.zAp)); exact Kd.zC3 (Kd.R_far (p := ⟨gb487, 1, none⟩) (Kd.R_far (p := ⟨gb487, 0, none⟩) (Kd.zCa HO_7.out BK487.out (by decide)) (fun _ hk => hk.2) (.string ((zAs l0 x27_2).f0))) (fun _ hk => hk.2) (.slice A486_1 ((zAs l0 x27_2).f1).length c486_1)) (fun _ hk => trivial)⟩
             have n1_ : zA1 (((w38.setCell ⟨gb487, 0, none⟩ (.string ((zAs l0 x27_2).f0))).setCell ⟨gb487, 1, none⟩ (.slice A486_1 ((zAs l0 x27_2).f1).length c486_1)).heap[gb485]? = some (.cells #[.string ((zAs l0 x21_1).f0), .slice A484_1 ((zAs l0 x21_1).f1).length c484_1] 57 (0, 0))) := ⟨by (with_reducible repeat (first | refine zA6 ?_ _ | refine zA8 ?_ | refine zA5 ?_ _)); refine blk_far ?_ NB485_487.out _; (with_reducible repeat (first | refine zA6 ?_ _ | refine zA8 ?_ | refine zA5 ?_ _)); refine blk_far ?_ NB485_487.out _; (with_reducible repeat (first | refine zA6 ?_ _ | refine zA8 ?_ | refine zA5 ?_ _)); exact BK485.out⟩
             have n2_ : zA1 (((w38.setCell ⟨gb487, 0, none⟩ (.string ((zAs l0 x27_2).f0))).setCell ⟨gb487, 1, none⟩ (.slice A486_1 ((zAs l0 x27_2).f1).length c486_1)).heap[gb487]? = some (.cells #[.string ((zAs l0 x27_2).f0), .slice A486_1 ((zAs l0 x27_2).f1).length c486_1] 57 (0, 0))) := ⟨by (with_reducible repeat (first | refine zA6 ?_ _ | refine zA8 ?_ | refine zA5 ?_ _)); refine zCj (cs := #[.string ((zAs l0 x27_2).f0), .slice none 0 0]) ?_ 1 _ rfl; (with_reducible repeat (first | refine zA6 ?_ _ | refine zA8 ?_ | refine zA5 ?_ _)); refine zCj (cs := #[.string (⟨#[]⟩ : ByteArray), .slice none 0 0]) ?_ 0 _ rfl; (with_reducible repeat (first | refine zA6 ?_ _ | refine zA8 ?_ | refine zA5 ?_ _)); exact BK487.out⟩
             have n3_ : zA1 (Below w.heap.size w ((w38.setCell ⟨gb487, 0, none⟩ (.string ((zAs l0 x27_2).f0))).setCell ⟨gb487, 1, none⟩ (.slice A486_1 ((zAs l0 x27_2).f1).length c486_1))) := ⟨by repeat (first | (with_reducible first | exact HB.out | apply zA2 | apply zA0 | apply zA3 | refine zA4 ?_ GE485.out | refine zA4 ?_ GE487.out) | exact HB.out)⟩
             (try clear HO_7)
             (try clear BK485)
             (try clear BK487)
             (try clear HB)
             generalize ((w38.setCell ⟨gb487, 0, none⟩ (.string ((zAs l0 x27_2).f0))).setCell ⟨gb487, 1, none⟩ (.slice A486_1 ((zAs l0 x27_2).f1).length c486_1)) = w41 at n0_ n1_ n2_ n3_ ⊢
             have HO_7 := n0_
             have BK485 := n1_
             have BK487 := n2_
             have HB := n3_
             clear n0_ n1_ n2_ n3_
             have n0_ := zA1.mk (Kd.zAp HO_7.out)
             have n1_ := zA1.mk (zA8 BK485.out)
             have n2_ := zA1.mk (zA8 BK487.out)
             have n3_ := zA1.mk (zA3 HB.out)
             clear HO_7
             clear BK485
             clear BK487
             clear HB
             have HO_7 := n0_
             have BK485 := n1_
             have BK487 := n2_
             have HB := n3_
             clear n0_ n1_ n2_ n3_
             refine start_ (n := 19) (S := fun w' => w'.cell? ⟨gb485, 0, none⟩ = some (.string ((zAs l0 x21_1).f0)) ∧ w'.cell? ⟨gb485, 1, none⟩ = some (.slice A484_1 ((zAs l0 x21_1).f1).length c484_1) ∧ w'.cell? ⟨gb487, 0, none⟩ = some (.string ((zAs l0 x27_2).f0)) ∧ w'.cell? ⟨gb487, 1, none⟩ = some (.slice A486_1 ((zAs l0 x27_2).f1).length c486_1)) (ds := []) #[false, false, false, false, false, false, false, false, false, false, false, false, false, false, false, false, false, false, false] (by kernel_rfl) rfl rfl ⟨(zA9 BK485.out 0).trans rfl, (zA9 BK485.out 1).trans rfl, (zA9 BK487.out 0).trans rfl, (zA9 BK487.out 1).trans rfl⟩ (fun hHeld => ?_); refine with_tabW zAq.tab12 zAq.bits12 (fun HT_ HW_ => ?_)
             generalize w41.drew = w42 at HO_7 BK485 BK487 HB hHeld ⊢
             refine take_ (i := 0) (N := some 32) (v := ?_) (a' := ?_) #[true, false, false, false, false, false, false, false, false, false, false, false, false, false, false, false, false, false, false] rfl rfl (zBt HT_.out HW_.out (by kernel_rfl)) (fun _ _ _ h => h) (Or.inl ⟨by rfl, ?_⟩) hHeld ?_ ?_
             rotate_left
             ·rintro w' ⟨s0, s1, s2, s3⟩
              go_simp
              with_reducible rfl
             rotate_left
             ·simp only [Act.put, List.setIfInBounds_toArray, List.set_cons_zero, List.set_cons_succ, i64_w, i32_w]
              rfl
             refine take_ (i := 1) (N := some 33) (v := ?_) (a' := ?_) #[true, true, false, false, false, false, false, false, false, false, false, false, false, false, false, false, false, false, false] rfl rfl (zBt HT_.out HW_.out (by kernel_rfl)) (fun _ _ _ h => h) (Or.inl ⟨by rfl, ?_⟩) hHeld ?_ ?_
             rotate_left
             ·rintro w' ⟨s0, s1, s2, s3⟩
              go_simp
              with_reducible rfl
             rotate_left
             ·simp only [Act.put, List.setIfInBounds_toArray, List.set_cons_zero, List.set_cons_succ, i64_w, i32_w]
              rfl
             refine one_ (i := 2) (N := some 34) #[true, true, true, false, false, false, false, false, false, false, false, false, false, false, false, false, false, false, false] rfl rfl (one_of HT_.out (by kernel_rfl)) (by decide) (fun K hK => ?_)
             refine goes_ Tryd.func52 (by kernel_rfl) rfl #[.agg #[.string ((zAs l0 x21_1).f0), .slice A484_1 ((zAs l0 x21_1).f1).length c484_1], .agg #[.string ((zAs l0 x27_2).f0), .slice A486_1 ((zAs l0 x27_2).f1).length c486_1]] (by rfl) rfl rfl (by (try simp only [List.map_toArray, List.map_cons, List.map_nil]); first | done | rfl | (simp only [List.length_drop, List.length_take]; rfl)) ?_
             with_reducible refine (zCd.calls k2 ((zAs l0 x21_1).f0) _ _ ((zAs l0 x21_1).f1) ((zAs l0 x27_2).f0) _ _ ((zAs l0 x27_2).f1) false _ ?side1 ?side2 ?side3 ?side4 A14.out).mono ?_
             (case side1 => repeat (first | exact (Kd.zB1 HR484_1.out HB.out) | (with_reducible refine Kd.zAf ?_ _) | (with_reducible refine Kd.zAk ?_ _) | (with_reducible refine Kd.zAv ?_)))
             (case side2 => exact HC484_1.out)
             (case side3 => repeat (first | exact (Kd.zB1 HR486_1.out HB.out) | (with_reducible refine Kd.zAf ?_ _) | (with_reducible refine Kd.zAk ?_ _) | (with_reducible refine Kd.zAv ?_)))
             (case side4 => exact HC486_1.out)
             rintro e w43 ⟨rfl, hb⟩
             refine ⟨_, rfl, ?_⟩
             have n0_ := zA1.mk (Kd.zBi (by (with_reducible repeat (first | apply Kd.zAi | apply Kd.zAh | apply Kd.zAp)); exact HO_7.out) hb)
             have n1_ := zA1.mk (zAt (g := gb485) (o := .cells #[.string ((zAs l0 x21_1).f0), .slice A484_1 ((zAs l0 x21_1).f1).length c484_1] 57 (0, 0)) (by (with_reducible repeat (first | refine zA6 ?_ _ | refine zA8 ?_ | refine zA5 ?_ _)); exact BK485.out) hb)
             have n2_ := zA1.mk (zAt (g := gb487) (o := .cells #[.string ((zAs l0 x27_2).f0), .slice A486_1 ((zAs l0 x27_2).f1).length c486_1] 57 (0, 0)) (by (with_reducible repeat (first | refine zA6 ?_ _ | refine zA8 ?_ | refine zA5 ?_ _)); exact BK487.out) hb)
             have n3_ := zA1.mk (zAe (by repeat (first | (with_reducible first | exact HB.out | apply zA2 | apply zA0 | apply zA3 | refine zA4 ?_ GE485.out | refine zA4 ?_ GE487.out) | exact HB.out)) hb)
             clear HO_7
             clear BK485
             clear BK487
             clear HB
             have HO_7 := n0_
             have BK485 := n1_
             have BK487 := n2_
             have HB := n3_
             clear n0_ n1_ n2_ n3_
             (try clear hb)
             (try clear hb2)
             (try clear hk)
             (try clear hi)
             refine hK.out _ _ ⟨(zA9 BK485.out 0).trans rfl, (zA9 BK485.out 1).trans rfl, (zA9 BK487.out 0).trans rfl, (zA9 BK487.out 1).trans rfl⟩ (fun hHeld => ?_)
             clear hK K
             refine norm_ (a' := ?_) ?_ ?_
             rotate_left
             ·show Act.put _ (some 34) _ = _
              simp only [Act.put, List.setIfInBounds_toArray, List.set_cons_zero, List.set_cons_succ, i64_w, i32_w]
              rfl
             refine pure_ (i := 3) (N := some 35) (v := ?_) (a' := ?_) #[true, true, true, true, false, false, false, false, false, false, false, false, false, false, false, false, false, false, false] rfl rfl (zB6 HT_.out (by kernel_rfl)) (fun _ _ _ h => h) (Or.inl ⟨by rfl, ?_⟩) ?_ ?_
             rotate_left
             ·intro w'
              go_simp
              with_reducible rfl
             rotate_left
             ·simp only [Act.put, List.setIfInBounds_toArray, List.set_cons_zero, List.set_cons_succ, i64_w, i32_w]
              rfl
             refine pure_ (i := 4) (N := some 36) (v := undef) (a' := ?_) #[true, true, true, true, true, false, false, false, false, false, false, false, false, false, false, false, false, false, false] rfl rfl (zB6 HT_.out (by kernel_rfl)) (fun _ _ _ h => h) (Or.inr ⟨by rfl, rfl⟩) ?_ ?_
             rotate_left
             ·simp only [Act.put, List.setIfInBounds_toArray, List.set_cons_zero, List.set_cons_succ, i64_w, i32_w]
              rfl
             refine pure_ (i := 5) (N := some 37) (v := undef) (a' := ?_) #[true, true, true, true, true, true, false, false, false, false, false, false, false, false, false, false, false, false, false] rfl rfl (zB6 HT_.out (by kernel_rfl)) (fun _ _ _ h => h) (Or.inr ⟨by rfl, rfl⟩) ?_ ?_
             rotate_left
             ·simp only [Act.put, List.setIfInBounds_toArray, List.set_cons_zero, List.set_cons_succ, i64_w, i32_w]
              rfl
             refine pure_ (i := 6) (N := some 38) (v := undef) (a' := ?_) #[true, true, true, true, true, true, true, false, false, false, false, false, false, false, false, false, false, false, false] rfl rfl (zB6 HT_.out (by kernel_rfl)) (fun _ _ _ h => h) (Or.inr ⟨by rfl, rfl⟩) ?_ ?_
             rotate_left
             ·simp only [Act.put, List.setIfInBounds_toArray, List.set_cons_zero, List.set_cons_succ, i64_w, i32_w]
              rfl
             refine pure_ (i := 7) (N := some 39) (v := undef) (a' := ?_) #[true, true, true, true, true, true, true, true, false, false, false, false, false, false, false, false, false, false, false] rfl rfl (zB6 HT_.out (by kernel_rfl)) (fun _ _ _ h => h) (Or.inr ⟨by rfl, rfl⟩) ?_ ?_
             rotate_left
             ·simp only [Act.put, List.setIfInBounds_toArray, List.set_cons_zero, List.set_cons_succ, i64_w, i32_w]
              rfl
             refine pure_ (i := 8) (N := some 40) (v := undef) (a' := ?_) #[true, true, true, true, true, true, true, true, true, false, false, false, false, false, false, false, false, false, false] rfl rfl (zB6 HT_.out (by kernel_rfl)) (fun _ _ _ h => h) (Or.inr ⟨by rfl, rfl⟩) ?_ ?_
             rotate_left
             ·simp only [Act.put, List.setIfInBounds_toArray, List.set_cons_zero, List.set_cons_succ, i64_w, i32_w]
              rfl
             refine pure_ (i := 9) (N := some 41) (v := undef) (a' := ?_) #[true, true, true, true, true, true, true, true, true, true, false, false, false, false, false, false, false, false, false] rfl rfl (zB6 HT_.out (by kernel_rfl)) (fun _ _ _ h => h) (Or.inr ⟨by rfl, rfl⟩) ?_ ?_
             rotate_left
             ·simp only [Act.put, List.setIfInBounds_toArray, List.set_cons_zero, List.set_cons_succ, i64_w, i32_w]
              rfl
             refine pure_ (i := 10) (N := some 42) (v := undef) (a' := ?_) #[true, true, true, true, true, true, true, true, true, true, true, false, false, false, false, false, false, false, false] rfl rfl (zB6 HT_.out (by kernel_rfl)) (fun _ _ _ h => h) (Or.inr ⟨by rfl, rfl⟩) ?_ ?_
             rotate_left
             ·simp only [Act.put, List.setIfInBounds_toArray, List.set_cons_zero, List.set_cons_succ, i64_w, i32_w]
              rfl
             refine pure_ (i := 11) (N := some 43) (v := undef) (a' := ?_) #[true, true, true, true, true, true, true, true, true, true, true, true, false, false, false, false, false, false, false] rfl rfl (zB6 HT_.out (by kernel_rfl)) (fun _ _ _ h => h) (Or.inr ⟨by rfl, rfl⟩) ?_ ?_
             rotate_left
             ·simp only [Act.put, List.setIfInBounds_toArray, List.set_cons_zero, List.set_cons_succ, i64_w, i32_w]
              rfl
             refine pure_ (i := 12) (N := some 44) (v := undef) (a' := ?_) #[true, true, true, true, true, true, true, true, true, true, true, true, true, false, false, false, false, false, false] rfl rfl (zB6 HT_.out (by kernel_rfl)) (fun _ _ _ h => h) (Or.inr ⟨by rfl, rfl⟩) ?_ ?_
             rotate_left
             ·simp only [Act.put, List.setIfInBounds_toArray, List.set_cons_zero, List.set_cons_succ, i64_w, i32_w]
              rfl
             refine pure_ (i := 13) (N := some 45) (v := undef) (a' := ?_) #[true, true, true, true, true, true, true, true, true, true, true, true, true, true, false, false, false, false, false] rfl rfl (zB6 HT_.out (by kernel_rfl)) (fun _ _ _ h => h) (Or.inr ⟨by rfl, rfl⟩) ?_ ?_
             rotate_left
             ·simp only [Act.put, List.setIfInBounds_toArray, List.set_cons_zero, List.set_cons_succ, i64_w, i32_w]
              rfl
             refine pure_ (i := 14) (N := some 46) (v := undef) (a' := ?_) #[true, true, true, true, true, true, true, true, true, true, true, true, true, true, true, false, false, false, false] rfl rfl (zB6 HT_.out (by kernel_rfl)) (fun _ _ _ h => h) (Or.inr ⟨by rfl, rfl⟩) ?_ ?_
             rotate_left
             ·simp only [Act.put, List.setIfInBounds_toArray, List.set_cons_zero, List.set_cons_succ, i64_w, i32_w]
              rfl
             refine pure_ (i := 15) (N := some 47) (v := undef) (a' := ?_) #[true, true, true, true, true, true, true, true, true, true, true, true, true, true, true, true, false, false, false] rfl rfl (zB6 HT_.out (by kernel_rfl)) (fun _ _ _ h => h) (Or.inr ⟨by rfl, rfl⟩) ?_ ?_
             rotate_left
             ·simp only [Act.put, List.setIfInBounds_toArray, List.set_cons_zero, List.set_cons_succ, i64_w, i32_w]
              rfl
             refine pure_ (i := 16) (N := some 48) (v := undef) (a' := ?_) #[true, true, true, true, true, true, true, true, true, true, true, true, true, true, true, true, true, false, false] rfl rfl (zB6 HT_.out (by kernel_rfl)) (fun _ _ _ h => h) (Or.inr ⟨by rfl, rfl⟩) ?_ ?_
             rotate_left
             ·simp only [Act.put, List.setIfInBounds_toArray, List.set_cons_zero, List.set_cons_succ, i64_w, i32_w]
              rfl
             refine pure_ (i := 17) (N := some 49) (v := undef) (a' := ?_) #[true, true, true, true, true, true, true, true, true, true, true, true, true, true, true, true, true, true, false] rfl rfl (zB6 HT_.out (by kernel_rfl)) (fun _ _ _ h => h) (Or.inr ⟨by rfl, rfl⟩) ?_ ?_
             rotate_left
             ·simp only [Act.put, List.setIfInBounds_toArray, List.set_cons_zero, List.set_cons_succ, i64_w, i32_w]
              rfl
             refine pure_ (i := 18) (N := some 50) (v := ?_) (a' := ?_) #[true, true, true, true, true, true, true, true, true, true, true, true, true, true, true, true, true, true, true] rfl rfl (zB6 HT_.out (by kernel_rfl)) (fun _ _ _ h => h) (Or.inl ⟨by rfl, ?_⟩) ?_ ?_
             rotate_left
             ·intro w'
              go_simp
              with_reducible rfl
             rotate_left
             ·simp only [Act.put, List.setIfInBounds_toArray, List.set_cons_zero, List.set_cons_succ, i64_w, i32_w]
              rfl
             refine done_ (done_of HT_.out (by kernel_rfl)) ?_
             try go_wp2
             go_roundg k2
             case measure => have := HK1.out; have := HK2.out; omega
             case rel => exact ⟨(x10_2), (wrap64 (x27_2 + 1)), (by first | rfl | (simp; done) | (simp [*]; done)), (by first | rfl | (simp; done) | (simp [*]; done)), H', ⟨by have := HK1.out; have := HK2.out; omega⟩, ⟨by (with_reducible repeat (first | apply Kd.zAi | apply Kd.zAh | apply Kd.zAp)); exact HO_7.out⟩, ⟨by (with_reducible repeat (first | refine zA6 ?_ _ | refine zA8 ?_ | refine zA5 ?_ _)); exact BK485.out⟩, ⟨by repeat (first | (with_reducible first | exact HB.out | apply zA2 | apply zA0 | apply zA3 | refine zA4 ?_ GE485.out | refine zA4 ?_ GE487.out) | exact HB.out)⟩⟩
           ·rw [if_neg c13] at H
            exact absurd H (by simp)
          ·rw [if_neg c12] at H
           exact absurd H (by simp)
         ·rw [if_neg c11] at H
          have c11b0 : decide (x27_2 < (l0.length : Int)) = false := decide_eq_false c11
          clear c11
          by_cases c44 : x7_1.length < 17592186044416
          ·rw [if_pos c44] at H
           have LMc44 := zA1.mk c44
           clear c44
           obtain ⟨y490, hy490⟩ : ∃ y_ : List Int, y_ = (x7_1 ++ [x10_2]) := ⟨_, rfl⟩
           replace H : (zAq.l0 k2 l0 y490 l0 (l0.length : Int) (wrap64 (x21_1 + 1))) = some (r1, r2) := by first | (rw [hy490]; with_reducible exact H) | (have H2_ := (Option.bind_some _ _).symm.trans H; rw [hy490]; with_reducible exact H2_) | (have H2_ := (Option.bind_some _ _).symm.trans H; with_reducible exact H2_) | with_reducible exact H | (rw [hy490]; exact H) | exact H
           have Ny490 := zA1.mk hy490
           clear hy490
           have H' := zA1.mk H
           clear H
           go_wp2_with (first | ((with_reducible refine zCg (b := .append) (xs := #[.tmp 53, .tmp 55]) rfl ?_); (try (refine gate_guard (by rfl) ?_; dsimp only)); at_builtin; refine Kd.R_append (Kd.int .i64) (w0 := w) w.heap.size rfl (.tmp 53) (.tmp 55) 23 3 (.int .i64 0) 8 rfl Tryd.underlying23 info3 rfl (by decide) (by omega) u7 x7_1 x10_2 [.int .i64 x10_2] (fun _ => True) (fun _ => False) rfl rfl ?aP (fun _ hk => hk.elim) ?aF ?aO ?aB ?aS ?aL ?_; (case aP => exact rfl); (case aB => exact (by repeat (first | (with_reducible first | exact HB.out | apply zA2 | apply zA0 | apply zA3 | refine zA4 ?_ GE485.out) | exact HB.out))); (case aF => exact (fun _ _ => trivial)); (case aO => exact (by (with_reducible repeat (first | apply Kd.zAi | apply Kd.zAh | apply Kd.zAp)); exact HO_7.out)); (case aS => exact (zAb (by repeat (first | (with_reducible first | exact HB.out | apply zA2 | apply zA0 | apply zA3 | refine zA4 ?_ GE485.out) | exact HB.out)))); (case aL => have := LMc44.out; omega); intro v491 w45 ho hb hg hat; rw [← Ny490.out] at ho; have n0_ := zA1.mk (blk_grown (g := gb485) (o := .cells #[.string ((zAs l0 x21_1).f0), .slice A484_1 ((zAs l0 x21_1).f1).length c484_1] 57 (0, 0)) (by (with_reducible repeat (first | refine zA6 ?_ _ | refine zA8 ?_ | refine zA5 ?_ _)); exact BK485.out) hg (Kd.R_ne HO_7.out BK485.out (by decide))); have n1_ := zA1.mk (hb); have n2_ := zA1.mk (ho); clear BK485; clear HB; clear HO_7; have BK485 := n0_; have HB := n1_; have HO492 := n2_; clear n0_ n1_ n2_; clear ho hb hg hat))
           go_roundg k2
           case measure => have := HK1.out; have := HK2.out; omega
           case rel => exact ⟨(y490), (wrap64 (x21_1 + 1)), (by first | rfl | (simp; done) | (simp [*]; done)), H', ⟨by have := HK1.out; have := HK2.out; omega⟩, ⟨by (with_reducible repeat (first | apply Kd.zAi | apply Kd.zAh | apply Kd.zAp)); exact HO492.out⟩, ⟨by repeat (first | (with_reducible first | exact HB.out | apply zA2 | apply zA0 | apply zA3 | refine zA4 ?_ GE485.out) | exact HB.out)⟩⟩
          ·rw [if_neg c44] at H
           exact absurd H (by simp)
      ·rw [if_neg c8] at H
       exact absurd H (by simp)
     ·rw [if_neg c7] at H
      exact absurd H (by simp)
    ·rw [if_neg c6] at H
     have c6b0 : decide (x21_1 < (l0.length : Int)) = false := decide_eq_false c6
     clear c6
     simp only [Option.some.injEq, Prod.mk.injEq] at H
     obtain ⟨rfl, rfl⟩ := H
     go_wp2
     go_ret2
     exact ⟨_, by first | rfl | (simp [zAy, zAx] <;> rfl) | (simp [*, zAy, zAx] <;> rfl), by (with_reducible repeat (first | apply Kd.zAi | apply Kd.zAh | apply Kd.zAp)); exact HO_7.out, by repeat (first | (with_reducible first | exact HB.out | apply zA2 | apply zA0 | apply zA3) | exact HB.out)⟩
 ·rw [if_neg c4] at H
  have c4b0 : (t483 == 0) = false := beq_eq_false_iff_ne.mpr c4
  have c4b1 : (t483 != 0) = true := bne_iff_ne.mpr c4
  simp only [Option.some.injEq, Prod.mk.injEq] at H
  obtain ⟨rfl, rfl⟩ := H
  go_enter Tryd.func26, Tryd.ntmps26
  go_wp2_with (first | ((with_reducible refine zBc (f := 29) rfl ?_); refine zCf (some 15) rfl rfl Tryd.func29 (by kernel_rfl) rfl #[.slice A0 l0.length c0, .int .i64 a1] rfl (by (try simp only [List.map_toArray, List.map_cons, List.map_nil]); first | done | rfl | (simp only [List.length_drop, List.length_take]; rfl)) ?_; (with_reducible refine (liaison_CheckGroups.calls _ _ l0 a1 t483 _ ?side1 ?side2 A3.out).mono ?_); (case side1 => repeat (first | exact HR0.out | (with_reducible refine Kd.zAf ?_ _) | (with_reducible refine Kd.zAk ?_ _) | (with_reducible refine Kd.zAv ?_))); (case side2 => exact HC0.out); rintro e w46 ⟨rfl, hb⟩; refine ⟨_, rfl, ?_⟩; have n0_ := zA1.mk (zAe (by repeat (first | (with_reducible first | exact HB.out | apply zA2 | apply zA0 | apply zA3) | exact HB.out)) hb); clear HB; have HB := n0_; clear n0_; (try clear hb); (try clear hb2); (try clear hk); (try clear hi)))
  go_ret2
  exact ⟨_, by first | rfl | (simp [zAy, zAx] <;> rfl) | (simp [*, zAy, zAx] <;> rfl), by first | exact Kd.R_nil _ _ _ _ _ | exact Kd.N_nil _ _ _ _ _ | exact Kd.V_nil _ _ _ _ _ | exact Kd.Q_nil _ _ _ _ _ | exact Kd.S_nil _ _ _ _ _, by repeat (first | (with_reducible first | exact HB.out | apply zA2 | apply zA0 | apply zA3) | exact HB.out)⟩
end
end Go.Proofs.YtbghfbhlbfcloaaDoor.PL
namespace Go.Proofs.YtbghfbhlbfcloaaDoor.PL
section
open Go.RowKit Go.Proofs.YtbghfbhlbfcloaaDoorW.PrintWords Go.Proofs.YtbghfbhlbfcloaaDoorW.PrintLast Go.Proofs.YtbghfbhlbfcloaaDoorW.PrintMore
set_option linter.unusedVariables false
set_option linter.unusedSimpArgs false

theorem flat_get {sz : Nat} : ∀ (cs : List (List Value)) (_ : ∀ c ∈ cs, c.length = sz) (j i : Nat) (c : List Value), cs[j]? = some c → i < sz → cs.flatten[j * sz + i]? = c[i]?
 | [], _, j, i, c, h, _ => by simp at h
 | a :: r, hl, j, i, c, h, hi => by
  have ha := hl a (by simp)
  cases j with
  | zero =>
   simp at h
   subst h
   rw [List.flatten_cons, Nat.zero_mul, Nat.zero_add, List.getElem?_append_left (by omega)]
  | succ j =>
   simp at h
   rw [List.flatten_cons, List.getElem?_append_right (by rw [ha, Nat.add_mul]; omega), ha]
   rw [show (j + 1) * sz + i - sz = j * sz + i by rw [Nat.add_mul]; omega]
   exact flat_get r (fun q hq => hl q (by simp [hq])) j i c h hi
/-- A literal row, read. -/
theorem litC {α : Type} (d : Kd α) (W : World) (e : Nat) (xs : List α) (cs : List (List Value)) (inner : Array Value) (hin : inner = cs.flatten.toArray) (hl : cs.length = xs.length) (hm : xs.length ≤ 1000)
  (hsz : ∀ c ∈ cs, c.length = d.sz) (hK : ∀ (j : Nat) (x : α) (c : List Value), xs[j]? = some x → cs[j]? = some c → d.K (W.alloc (.cells inner e)) x c) :
  Kd.C d (W.alloc (.cells inner e)) (some ⟨W.heap.size, 0, none⟩) xs.length xs := by
 refine ⟨rfl, by omega, fun _ => ⟨_, rfl, fun j x hj => ?_⟩⟩
 have hjl := (List.getElem?_eq_some_iff.1 hj).1
 have hc : cs[j]? = some cs[j] := List.getElem?_eq_getElem (by omega)
 refine ⟨cs[j], hsz _ (List.getElem_mem _), hK j x _ hj hc, fun i u hu => ?_⟩
 have hi : i < d.sz := by rw [← hsz cs[j] (List.getElem_mem _)]; exact (List.getElem?_eq_some_iff.1 hu).1
 have h1 := flat_get cs hsz j i _ hc hi
 have h2 := zA9 (blk_new W (.cells inner e)) (j * d.sz + i)
 rw [hin] at h2 ⊢
 rw [List.getElem?_toArray, h1, hu] at h2
 rw [show (⟨W.heap.size, 0, none⟩ : Addr).add (j * d.sz + i) = ⟨W.heap.size, j * d.sz + i, none⟩ by simp [Addr.add]; omega]
 exact h2
theorem flat_one (f : Int → Value) : ∀ xs : List Int, (xs.map fun x => [f x]).flatten = xs.map f
 | [] => rfl
 | a :: r => by rw [List.map_cons, List.flatten_cons, flat_one f r]; rfl
theorem litI (W : World) (xs : List Int) (inner : Array Value) (hin : inner = (xs.map fun x => Value.int .i64 x).toArray) (hm : xs.length ≤ 1000) : Kd.C (Kd.int .i64) (W.alloc (.cells inner 3)) (some ⟨W.heap.size, 0, none⟩) xs.length xs := by
 refine litC (Kd.int .i64) W 3 xs (xs.map fun x => [Value.int .i64 x]) inner ?_ (by simp) hm ?_ ?_
 ·rw [hin, flat_one]
 ·intro c hc
  obtain ⟨x, _, rfl⟩ := List.mem_map.1 hc
  rfl
 ·intro j x c hx hc
  rw [List.getElem?_map, hx] at hc
  cases hc
  rfl

def KE : List S68 := [⟨0, 1⟩, ⟨1, 0⟩, ⟨1, 2⟩, ⟨2, 1⟩, ⟨2, 3⟩, ⟨3, 2⟩]
def KG : List S57 := [⟨⟨#[97]⟩, [0, 1]⟩, ⟨⟨#[98]⟩, [0, 1, 2]⟩, ⟨⟨#[99]⟩, [3, 4]⟩]
def KC : List S41 := [⟨[0], [1, 2, 3]⟩, ⟨[0, 1], [2, 3]⟩, ⟨[0, 1, 2], [3]⟩]
theorem kn_make : graph_Make.f 4 KE = some (4, KE, 0) := by kernel_rfl
theorem kn_pieces : zBn.f 100 4 KE [0, 1, 3] = some ([[0, 1], [3]], 0) := by kernel_rfl
theorem kn_cuts : liaison_Cuts.f 4 KE [0, 1, 2, 3] = some (KC, 0) := by kernel_rfl
theorem kn_joints : zB2.f 100 4 KE [0, 1, 2, 3] = some ([1, 2], 0) := by kernel_rfl
theorem kn_parents : zAq.f 100 KG 5 = some ([1, -1, -1], 0) := by kernel_rfl
theorem kn_same1 : zB8.f 100 [[0, 1], [3]] [[0, 1], [3]] = some true := by kernel_rfl
theorem kn_same2 : zAj.f 100 [0, 1] [0, 1] = some true := by kernel_rfl
theorem kn_same3 : zAj.f 100 [2, 3] [2, 3] = some true := by kernel_rfl
theorem kn_same4 : zAj.f 100 [1, 2] [1, 2] = some true := by kernel_rfl
theorem kn_same5 : zAj.f 100 [1, -1, -1] [1, -1, -1] = some true := by kernel_rfl

def oneE (e : S68) : List Value := [.int .i64 e.f0, .int .i64 e.f1]
theorem litE (W : World) : Kd.C k68 (W.alloc (.cells #[.int .i64 0, .int .i64 1, .int .i64 1, .int .i64 0, .int .i64 1, .int .i64 2, .int .i64 2, .int .i64 1, .int .i64 2, .int .i64 3, .int .i64 3, .int .i64 2] 68)) (some ⟨W.heap.size, 0, none⟩) KE.length KE := by
 refine litC k68 W 68 KE (KE.map oneE) _ rfl rfl (by decide) (fun c hc => ?_) (fun j x c hx hc => ?_)
 ·obtain ⟨x, _, rfl⟩ := List.mem_map.1 hc
  rfl
 ·rw [List.getElem?_map, hx] at hc
  cases hc
  exact k68_mk _ x
theorem litG (W : World) : Kd.C k57 ((((W.alloc (.cells #[.int .i64 0, .int .i64 1] 3)).alloc (.cells #[.int .i64 0, .int .i64 1, .int .i64 2] 3)).alloc (.cells #[.int .i64 3, .int .i64 4] 3)).alloc (.cells #[.string ⟨#[97]⟩, .slice (some ⟨W.heap.size, 0, none⟩) 2 2, .string ⟨#[98]⟩, .slice (some ⟨W.heap.size + 1, 0, none⟩) 3 3, .string ⟨#[99]⟩, .slice (some ⟨W.heap.size + 1 + 1, 0, none⟩) 2 2] 57)) (some ⟨W.heap.size + 1 + 1 + 1, 0, none⟩) KG.length KG := by
 have h1 : Kd.C (Kd.int .i64) (W.alloc (.cells #[.int .i64 0, .int .i64 1] 3)) (some ⟨W.heap.size, 0, none⟩) 2 [0, 1] := litI W [0, 1] _ rfl (by decide)
 have h2 := litI (W.alloc (.cells #[.int .i64 0, .int .i64 1] 3)) [0, 1, 2] _ rfl (by decide)
 have h3 := litI ((W.alloc (.cells #[.int .i64 0, .int .i64 1] 3)).alloc (.cells #[.int .i64 0, .int .i64 1, .int .i64 2] 3)) [3, 4] _ rfl (by decide)
 have h4 := litC k57 (((W.alloc (.cells #[.int .i64 0, .int .i64 1] 3)).alloc (.cells #[.int .i64 0, .int .i64 1, .int .i64 2] 3)).alloc (.cells #[.int .i64 3, .int .i64 4] 3)) 57 KG [[.string ⟨#[97]⟩, .slice (some ⟨W.heap.size, 0, none⟩) 2 2], [.string ⟨#[98]⟩, .slice (some ⟨W.heap.size + 1, 0, none⟩) 3 3], [.string ⟨#[99]⟩, .slice (some ⟨W.heap.size + 1 + 1, 0, none⟩) 2 2]] #[.string ⟨#[97]⟩, .slice (some ⟨W.heap.size, 0, none⟩) 2 2, .string ⟨#[98]⟩, .slice (some ⟨W.heap.size + 1, 0, none⟩) 3 3, .string ⟨#[99]⟩, .slice (some ⟨W.heap.size + 1 + 1, 0, none⟩) 2 2] rfl rfl (by decide) (fun c hc => ?_) (fun j x c hx hc => ?_)
 ·simp only [World.size_alloc] at h4
  exact h4
 ·simp only [List.mem_cons, List.not_mem_nil, or_false] at hc
  rcases hc with rfl | rfl | rfl <;> rfl
 ·rw [World.size_alloc] at h2
  rw [World.size_alloc, World.size_alloc] at h3
  rcases j with _ | _ | _ | j
  ·cases hx; cases hc
   exact k57_mk _ ⟨⟨#[97]⟩, [0, 1]⟩ (Nat.le_refl _) (Kd.zAf (Kd.zAf (Kd.zAf h1 _) _) _)
  ·cases hx; cases hc
   exact k57_mk _ ⟨⟨#[98]⟩, [0, 1, 2]⟩ (Nat.le_refl _) (Kd.zAf (Kd.zAf h2 _) _)
  ·cases hx; cases hc
   exact k57_mk _ ⟨⟨#[99]⟩, [3, 4]⟩ (Nat.le_refl _) (Kd.zAf h3 _)
  ·simp [KG] at hx

theorem kn33 (W : World) : Calls Tryd.prog 33 #[.int .i64 4, .slice (some ⟨W.heap.size, 0, none⟩) 6 6] (W.alloc (.cells #[.int .i64 0, .int .i64 1, .int .i64 1, .int .i64 0, .int .i64 1, .int .i64 2, .int .i64 2, .int .i64 1, .int .i64 2, .int .i64 3, .int .i64 3, .int .i64 2] 68)) fun e w' => ∃ A1 c1, e = .returned (.tuple #[.agg #[.int .i64 4, .slice A1 6 c1], .int .i64 0]) ∧ (6 ≤ c1 ∧ Kd.C k68 w' A1 6 KE) ∧ Below W.heap.size W w' := by
 refine (graph_Make.calls 4 _ _ KE 4 KE 0 _ (litE W) (Nat.le_refl _) kn_make).mono ?_
 rintro e w1 ⟨v1, rfl, hR1, hb1⟩
 obtain ⟨A1, c1, rfl⟩ := Kd.zC5 hR1
 have h := Kd.zAw hR1
 exact ⟨A1, c1, rfl, ⟨h.2.1, h.2.2⟩, (zA2 (Below.refl W.heap.size W) _).trans (hb1.mono (by simp))⟩
theorem kn17 (W : World) (A1 : Option Addr) (c1 : Nat) (h1 : Kd.C k68 W A1 6 KE) (hc : 6 ≤ c1) (hG : Kd.C (Kd.int .u8) W (some tabA) tabL.length tabL) : Calls Tryd.prog 17 #[.agg #[.int .i64 4, .slice A1 6 c1], .slice (some ⟨W.heap.size + 1, 0, none⟩) 3 3] ((W.alloc (.cells #[.int .i64 4, .slice A1 6 c1] 28)).alloc (.cells #[.int .i64 0, .int .i64 1, .int .i64 3] 3)) fun e w' => ∃ A2 c2, e = .returned (.tuple #[.slice A2 2 c2, .int .i64 0]) ∧ (2 ≤ c2 ∧ Kd.C (Kd.slice 3 (Kd.int .i64)) w' A2 2 [[0, 1], [3]]) ∧ Below W.heap.size W w' ∧ w'.heap[W.heap.size]? = some (.cells #[.int .i64 4, .slice A1 6 c1] 28 (0, 0)) := by
 have hl := litI (W.alloc (.cells #[.int .i64 4, .slice A1 6 c1] 28)) [0, 1, 3] _ rfl (by decide)
 rw [World.size_alloc] at hl
 refine (zBn.calls 100 4 A1 c1 KE _ 3 [0, 1, 3] [[0, 1], [3]] 0 _ (Kd.zAf (Kd.zAf h1 _) _) hc hl (Nat.le_refl _) (Kd.zAf (Kd.zAf hG _) _) kn_pieces).mono ?_
 rintro e w2 ⟨v2, rfl, hS2, hb2⟩
 obtain ⟨A2, c2, rfl⟩ := Kd.S_slice hS2
 have h := Kd.S_reads' hS2
 exact ⟨A2, c2, rfl, ⟨h.2.1, h.2.2⟩, (zA2 (zA2 (Below.refl W.heap.size W) _) _).trans (hb2.mono (by simp; omega)), zAt (zA5 (blk_new W _) _) hb2⟩
theorem kn10 (W : World) (A1 : Option Addr) (c1 : Nat) (h1 : Kd.C k68 W A1 6 KE) (hc : 6 ≤ c1) (hG : Kd.C (Kd.int .u8) W (some tabA) tabL.length tabL) : Calls Tryd.prog 10 #[.agg #[.int .i64 4, .slice A1 6 c1], .slice (some ⟨W.heap.size, 0, none⟩) 4 4] (W.alloc (.cells #[.int .i64 0, .int .i64 1, .int .i64 2, .int .i64 3] 3)) fun e w' => ∃ A2 c2, e = .returned (.tuple #[.slice A2 3 c2, .int .i64 0]) ∧ (3 ≤ c2 ∧ Kd.C k41 w' A2 3 KC) ∧ Below W.heap.size W w' := by
 have hl := litI W [0, 1, 2, 3] _ rfl (by decide)
 refine (liaison_Cuts.calls 4 A1 c1 KE _ 4 [0, 1, 2, 3] KC 0 _ (Kd.zAf h1 _) hc hl (Nat.le_refl _) (Kd.zAf hG _) kn_cuts).mono ?_
 rintro e w2 ⟨v2, rfl, hS2, hb2⟩
 obtain ⟨A2, c2, rfl⟩ := Kd.S_slice hS2
 have h := Kd.S_reads' hS2
 exact ⟨A2, c2, rfl, ⟨h.2.1, h.2.2⟩, (zA2 (Below.refl W.heap.size W) _).trans (hb2.mono (by simp))⟩
theorem kn11 (W : World) (A1 : Option Addr) (c1 : Nat) (h1 : Kd.C k68 W A1 6 KE) (hc : 6 ≤ c1) (hG : Kd.C (Kd.int .u8) W (some tabA) tabL.length tabL) : Calls Tryd.prog 11 #[.agg #[.int .i64 4, .slice A1 6 c1], .slice (some ⟨W.heap.size, 0, none⟩) 4 4] (W.alloc (.cells #[.int .i64 0, .int .i64 1, .int .i64 2, .int .i64 3] 3)) fun e w' => ∃ A2 c2, e = .returned (.tuple #[.slice A2 2 c2, .int .i64 0]) ∧ (2 ≤ c2 ∧ Kd.C (Kd.int .i64) w' A2 2 [1, 2]) ∧ Below W.heap.size W w' := by
 have hl := litI W [0, 1, 2, 3] _ rfl (by decide)
 refine (zB2.calls 100 4 A1 c1 KE _ 4 [0, 1, 2, 3] [1, 2] 0 _ (Kd.zAf h1 _) hc hl (Nat.le_refl _) (Kd.zAf hG _) kn_joints).mono ?_
 rintro e w2 ⟨v2, rfl, hS2, hb2⟩
 obtain ⟨A2, c2, rfl⟩ := Kd.zC5 hS2
 have h := Kd.zAw hS2
 exact ⟨A2, c2, rfl, ⟨h.2.1, h.2.2⟩, (zA2 (Below.refl W.heap.size W) _).trans (hb2.mono (by simp))⟩
theorem kn26 (W : World) : Calls Tryd.prog 26 #[.slice (some ⟨W.heap.size + 1 + 1 + 1, 0, none⟩) 3 3, .int .i64 5] ((((W.alloc (.cells #[.int .i64 0, .int .i64 1] 3)).alloc (.cells #[.int .i64 0, .int .i64 1, .int .i64 2] 3)).alloc (.cells #[.int .i64 3, .int .i64 4] 3)).alloc (.cells #[.string ⟨#[97]⟩, .slice (some ⟨W.heap.size, 0, none⟩) 2 2, .string ⟨#[98]⟩, .slice (some ⟨W.heap.size + 1, 0, none⟩) 3 3, .string ⟨#[99]⟩, .slice (some ⟨W.heap.size + 1 + 1, 0, none⟩) 2 2] 57)) fun e w' => ∃ A2 c2, e = .returned (.tuple #[.slice A2 3 c2, .int .i64 0]) ∧ (3 ≤ c2 ∧ Kd.C (Kd.int .i64) w' A2 3 [1, -1, -1]) ∧ Below W.heap.size W w' := by
 refine (zAq.calls 100 _ _ KG 5 [1, -1, -1] 0 _ (litG W) (Nat.le_refl _) kn_parents).mono ?_
 rintro e w2 ⟨v2, rfl, hS2, hb2⟩
 obtain ⟨A2, c2, rfl⟩ := Kd.zC5 hS2
 have h := Kd.zAw hS2
 exact ⟨A2, c2, rfl, ⟨h.2.1, h.2.2⟩, (zA2 (zA2 (zA2 (zA2 (Below.refl W.heap.size W) _) _) _) _).trans (hb2.mono (by simp; omega))⟩

theorem kn21 (W : World) (A2 : Option Addr) (c2 : Nat) (h : Kd.C (Kd.slice 3 (Kd.int .i64)) W A2 2 [[0, 1], [3]]) (hc : 2 ≤ c2) : Calls Tryd.prog 21 #[.slice A2 2 c2, .slice (some ⟨W.heap.size + 1 + 1, 0, none⟩) 2 2] (((W.alloc (.cells #[.int .i64 0, .int .i64 1] 3)).alloc (.cells #[.int .i64 3] 3)).alloc (.cells #[.slice (some ⟨W.heap.size, 0, none⟩) 2 2, .slice (some ⟨W.heap.size + 1, 0, none⟩) 1 1] 23)) fun e w' => e = .returned (.bool true) ∧ Below W.heap.size W w' := by
 have h1 : Kd.C (Kd.int .i64) (W.alloc (.cells #[.int .i64 0, .int .i64 1] 3)) (some ⟨W.heap.size, 0, none⟩) 2 [0, 1] := litI W [0, 1] _ rfl (by decide)
 have h2 := litI (W.alloc (.cells #[.int .i64 0, .int .i64 1] 3)) [3] _ rfl (by decide)
 rw [World.size_alloc] at h2
 have h4 := litC (Kd.slice 3 (Kd.int .i64)) ((W.alloc (.cells #[.int .i64 0, .int .i64 1] 3)).alloc (.cells #[.int .i64 3] 3)) 23 [[0, 1], [3]] [[.slice (some ⟨W.heap.size, 0, none⟩) 2 2], [.slice (some ⟨W.heap.size + 1, 0, none⟩) 1 1]] #[.slice (some ⟨W.heap.size, 0, none⟩) 2 2, .slice (some ⟨W.heap.size + 1, 0, none⟩) 1 1] rfl rfl (by decide) (fun c hc => by simp only [List.mem_cons, List.not_mem_nil, or_false] at hc; rcases hc with rfl | rfl <;> rfl) (fun j x c hx hc => by
  rcases j with _ | _ | j
  ·cases hx; cases hc
   exact ⟨_, _, rfl, Nat.le_refl _, Kd.zAf (Kd.zAf h1 _) _⟩
  ·cases hx; cases hc
   exact ⟨_, _, rfl, Nat.le_refl _, Kd.zAf h2 _⟩
  ·simp at hx)
 simp only [World.size_alloc] at h4
 refine (zB8.calls 100 A2 c2 [[0, 1], [3]] _ 2 [[0, 1], [3]] true _ (Kd.zAf (Kd.zAf (Kd.zAf h _) _) _) hc h4 (Nat.le_refl _) kn_same1).mono ?_
 rintro e w2 ⟨rfl, ⟨n, rfl⟩⟩
 exact ⟨rfl, zA0 (zA2 (zA2 (zA2 (Below.refl _ _) _) _) _) n⟩
theorem kn14 (W : World) (A : Option Addr) (c : Nat) (a b : Int) (h : Kd.C (Kd.int .i64) W A 2 [a, b]) (hc : 2 ≤ c) (hs : zAj.f 100 [a, b] [a, b] = some true) : Calls Tryd.prog 14 #[.slice A 2 c, .slice (some ⟨W.heap.size, 0, none⟩) 2 2] (W.alloc (.cells #[.int .i64 a, .int .i64 b] 3)) fun e w' => e = .returned (.bool true) ∧ Below W.heap.size W w' := by
 have h1 := litI W [a, b] _ rfl (by simp)
 refine (zAj.calls 100 A c [a, b] _ 2 [a, b] true _ (Kd.zAf h _) hc h1 (Nat.le_refl _) hs).mono ?_
 rintro e w2 ⟨rfl, ⟨n, rfl⟩⟩
 exact ⟨rfl, zA0 (zA2 (Below.refl _ _) _) n⟩
theorem kn14c (W : World) (A : Option Addr) (c : Nat) (a b d : Int) (h : Kd.C (Kd.int .i64) W A 3 [a, b, d]) (hc : 3 ≤ c) (hs : zAj.f 100 [a, b, d] [a, b, d] = some true) : Calls Tryd.prog 14 #[.slice A 3 c, .slice (some ⟨W.heap.size, 0, none⟩) 3 3] (W.alloc (.cells #[.int .i64 a, .int .i64 b, .int .i64 d] 3)) fun e w' => e = .returned (.bool true) ∧ Below W.heap.size W w' := by
 have h1 := litI W [a, b, d] _ rfl (by simp)
 refine (zAj.calls 100 A c [a, b, d] _ 3 [a, b, d] true _ (Kd.zAf h _) hc h1 (Nat.le_refl _) hs).mono ?_
 rintro e w2 ⟨rfl, ⟨n, rfl⟩⟩
 exact ⟨rfl, zA0 (zA2 (Below.refl _ _) _) n⟩
theorem knRead (W : World) (A : Option Addr) (h : Kd.C k41 W A 3 KC) : ∃ ad B0 d0 B1 d1, A = some ad ∧ W.cell? ⟨ad.block, ad.off + 2, none⟩ = some (.slice B0 2 d0) ∧ W.cell? ⟨ad.block, ad.off + 2 + 1, none⟩ = some (.slice B1 2 d1) ∧ (2 ≤ d0 ∧ Kd.C (Kd.int .i64) W B0 2 [0, 1]) ∧ (2 ≤ d1 ∧ Kd.C (Kd.int .i64) W B1 2 [2, 3]) := by
 obtain ⟨ad, B0, d0, B1, d1, e, h0, h1, h2, h3, h4, h5⟩ := at_T41 h 1 (by decide) (by decide)
 exact ⟨ad, B0, d0, B1, d1, e, h0, h1, ⟨h2, h3⟩, ⟨h4, h5⟩⟩

def KN.f : Option Bool := some true
set_option maxRecDepth 100000 in
set_option maxHeartbeats 600000 in
theorem KN.calls (r : Bool) (w : World) (hG : Kd.C (Kd.int .u8) w (some tabA) tabL.length tabL) (h : KN.f = some r) :
  Calls Tryd.prog 8 #[] w fun e w' => e = .returned (.bool r) ∧ Below w.heap.size w w' := by
 have hu28 := Tryd.underlying28
 have hu41 := Tryd.underlying41
 have hu57 := Tryd.underlying57
 have hu68 := Tryd.underlying68
 obtain rfl : true = r := Option.some.inj h
 have HG := zA1.mk hG
 clear hG h
 go_enter Tryd.func8, Tryd.ntmps8
 go_wp2_with (first
  | (go_at_call 33; refine (kn33 w).mono ?_; rintro e w1 ⟨A1, c1, rfl, h1, hb1⟩; have H1 := zA1.mk h1; have HB1 := zA1.mk hb1; clear h1 hb1)
  | (go_at_call 17; refine (kn17 w1 A1 c1 H1.out.2 H1.out.1 (Kd.zB1 HG.out HB1.out)).mono ?_; rintro e w2 ⟨A2, c2, rfl, h2, hb2, hk2⟩; have H2 := zA1.mk h2; have HB2 := zA1.mk hb2; have HK2 := zA1.mk hk2; have hz20 := (zA9 hk2 0).trans rfl; have hz21 := (zA9 hk2 1).trans rfl; clear h2 hb2 hk2)
  | (go_at_call 10; refine (kn10 w2 A1 c1 (Kd.zB1 H1.out.2 HB2.out) H1.out.1 (Kd.zB1 (Kd.zB1 HG.out HB1.out) HB2.out)).mono ?_; rintro e w3 ⟨A3, c3, rfl, h3, hb3⟩; have H3 := zA1.mk h3; have HB3 := zA1.mk hb3; have hk3 := zAt HK2.out hb3; have HK3 := zA1.mk hk3; have hz30 := (zA9 hk3 0).trans rfl; have hz31 := (zA9 hk3 1).trans rfl; clear h3 hb3 hk3)
  | (go_at_call 11; refine (kn11 w3 A1 c1 (Kd.zB1 (Kd.zB1 H1.out.2 HB2.out) HB3.out) H1.out.1 (Kd.zB1 (Kd.zB1 (Kd.zB1 HG.out HB1.out) HB2.out) HB3.out)).mono ?_; rintro e w4 ⟨A4, c4, rfl, h4, hb4⟩; have H4 := zA1.mk h4; have HB4 := zA1.mk hb4; clear h4 hb4)
  | (go_at_call 26; refine (kn26 w4).mono ?_; rintro e w5 ⟨A5, c5, rfl, h5, hb5⟩; have H5 := zA1.mk h5; have HB5 := zA1.mk hb5; clear h5 hb5)
  | (go_at_call 21; refine (kn21 w5 A2 c2 (Kd.zB1 (Kd.zB1 (Kd.zB1 H2.out.2 HB3.out) HB4.out) HB5.out) H2.out.1).mono ?_; rintro e w6 ⟨rfl, hb6⟩; have HB6 := zA1.mk hb6; obtain ⟨ad, B0, d0, B1, d1, rfl, hy0, hy1, hL, hR⟩ := knRead w6 A3 (Kd.zB1 (Kd.zB1 (Kd.zB1 H3.out.2 HB4.out) HB5.out) HB6.out); have HLL := zA1.mk hL; have HRR := zA1.mk hR; have HY1 := zA1.mk hy1; clear hb6 hL hR hy1)
  | (go_at_call 14; with_reducible refine (kn14 w6 B0 d0 0 1 HLL.out.2 HLL.out.1 kn_same2).mono ?_; rintro e w7 ⟨rfl, hb7⟩; have hy7 := (hb7.cell (World.block_lt_of_cell? w6 _ HY1.out)).trans HY1.out; have HB7 := zA1.mk hb7; clear hb7)
  | (go_at_call 14; with_reducible refine (kn14 w7 B1 d1 2 3 (Kd.zB1 HRR.out.2 HB7.out) HRR.out.1 kn_same3).mono ?_; rintro e w8 ⟨rfl, hb8⟩; have HB8 := zA1.mk hb8; clear hb8)
  | (go_at_call 14; with_reducible refine (kn14 w8 A4 c4 1 2 (Kd.zB1 (Kd.zB1 (Kd.zB1 (Kd.zB1 H4.out.2 HB5.out) HB6.out) HB7.out) HB8.out) H4.out.1 kn_same4).mono ?_; rintro e w9 ⟨rfl, hb9⟩; have HB9 := zA1.mk hb9; clear hb9)
  | (go_at_call 14; with_reducible refine (kn14c w9 A5 c5 1 (-1) (-1) (Kd.zB1 (Kd.zB1 (Kd.zB1 (Kd.zB1 H5.out.2 HB6.out) HB7.out) HB8.out) HB9.out) H5.out.1 kn_same5).mono ?_; rintro e w10 ⟨rfl, hb10⟩; have HB10 := zA1.mk hb10; clear hb10))
 go_ret
 exact ⟨rfl, (zAe (zAe (zAe (zAe (zAe (zAe (zAe (zAe (zAe HB1.out HB2.out) HB3.out) HB4.out) HB5.out) HB6.out) HB7.out) HB8.out) HB9.out) HB10.out)⟩
end
end Go.Proofs.YtbghfbhlbfcloaaDoor.PL
namespace Go.Proofs.YtbghfbhlbfcloaaDoor.PL
section
open Go.RowKit Go.Proofs.YtbghfbhlbfcloaaDoorW.PrintWords Go.Proofs.YtbghfbhlbfcloaaDoorW.PrintLast Go.Proofs.YtbghfbhlbfcloaaDoorW.PrintMore
attribute [local go_sem] zC2 zC0 zC9 zC8 zBs zBr zC1 zBz   -- for this text's walks alone
set_option linter.unusedVariables false
set_option linter.unusedSimpArgs false
/-! ### zCh: function 8 -/
def zCh.f  : Option (Bool) := KN.f 
theorem zCh.calls  (r : Bool) (w : World) (hG : Kd.C (Kd.int .u8) w (some tabA) tabL.length tabL) (h : zCh.f  = some r) :
  Calls Tryd.prog 8 #[] w fun e w' => e = .returned (.bool r) ∧ Below w.heap.size w w' :=
  KN.calls r w hG h
end
end Go.Proofs.YtbghfbhlbfcloaaDoor.PL
