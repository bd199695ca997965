/- Put together by this session's program pack.py. -/
import Derived.Below
import Derived.Deep.Draws
import Derived.Deep.AppendLies
import Derived.Maps.AppendAt
import Derived.OwnWalk
import Derived.Laws.BytesArg
import Derived.Laws.MakeOwn
import Derived.Laws.OwnMore
import Derived.Deep.OwnRows
import Derived.Tactics
import Derived.Lib.ConvBytes
import Derived.Laws.Slices
import Derived.WalkKit
import Derived.KernelRfl
import Derived.RowKit3
import Derived.Deep.LoopGhost
import Derived.Deep.QuietTactic
import Derived.BigQuiet
import Derived.WideLaws
import Derived.Deep.DeepCutAuto
import Derived.Deep.CutBlock
import Derived.Deep.RegionHeld3
import Derived.Laws.Rows
import Derived.Lib.AppendStr
import Derived.ArgAppend
import Derived.Laws.IdiomCopy
import Derived.OrdersHeld
import Derived.Laws.BitsLemmas
import Derived.RowKit
import Derived.Sort.Grow
import Derived.Shelf.SlSortCmp.InsertionK
import Derived.Shelf.SlGeneric
import Derived.Shelf.SlSortCmp.NoneTotal
import Derived.Ground.SlsfProg
import Derived.WalkSpells
import Derived.RangeFuncNested
import Derived.RangeFuncBound
import Derived.RangeFuncCalls
import Derived.RangeFuncLeaves
import Derived.Shelf.Abstract
import Derived.Shelf.RegionOpen
import Derived.OwnWalkIn
import Derived.TacticsInMore
import Derived.LoopNIn
import Derived.LoopIn
import Derived.OrdersIn
import Derived.RangeFuncKeeps
import Derived.RangeFuncWrites
import Derived.Shelf.SlicesQ.IndexFunc
import Derived.Shelf.GgClosure.StringsIndexFuncTop
import Derived.Ground.SlgfProg
import Derived.Ground.GgwProg
import Derived.Test.YtbghfbhlbfcloaaGreatDoorHw0
import Derived.Test.YtbghfbhlbfcloaaGreatDoorHp0
import Derived.Test.YtbghfbhlbfcloaaGreatDoorHp1
import Derived.Test.YtbghfbhlbfcloaaGreatDoorHp2
import Derived.Test.YtbghfbhlbfcloaaGreatDoorHp3
namespace Go.Proofs.YtbghfbhlbfcloaaGreatDoor.PL
section
open Go.RowKit Go.Proofs.YtbghfbhlbfcloaaGreatDoorW.PrintWords Go.Proofs.YtbghfbhlbfcloaaGreatDoorW.PrintLast Go.Proofs.YtbghfbhlbfcloaaGreatDoorW.PrintMore
attribute [local go_sem] zBu zBs zC3 zC2 zBn zBm zBt zBr   -- for this text's walks alone
set_option linter.unusedVariables false
set_option linter.unusedSimpArgs false
mutual
def zAm.l0 : Nat → List (S60) → List Int → List (S60) → Int → Int → Option (List Int × Int)
 | 0, _, _, _, _, _ => none
 | k + 1, x0, x7, x19, x20, x21 => if x21 < x20 then (if 0 ≤ x21 then (if x21 < (x19.length : Int) then (zAm.l1 k x0 x7 (-1) x19 x20 x21 x0 (x0.length : Int) 0 ((zAo x19 x21).f0) ((zAo x19 x21).f1)) else (none)) else (none)) else (some (x7, 0))
def zAm.l1 : Nat → List (S60) → List Int → Int → List (S60) → Int → Int → List (S60) → Int → Int → ByteArray → List Int → Option (List Int × Int)
 | 0, _, _, _, _, _, _, _, _, _, _, _ => none
 | k + 1, x0, x7, x10, x19, x20, x21, x25, x26, x27, x206000, x206001 => if x27 < x26 then (if 0 ≤ x27 then (if x27 < (x25.length : Int) then ((zC9.f k x206000 x206001 ((zAo x25 x27).f0) ((zAo x25 x27).f1)).bind fun t208 => (if t208 = true then (if x10 < 0 then (zAm.l1 k x0 x7 x27 x19 x20 x21 x25 x26 (wrap64 (x27 + 1)) x206000 x206001) else (if 0 ≤ x10 then (if x10 < (x0.length : Int) then (if (((zAo x25 x27).f1).length : Int) < (((zAo x0 x10).f1).length : Int) then (zAm.l1 k x0 x7 x27 x19 x20 x21 x25 x26 (wrap64 (x27 + 1)) x206000 x206001) else (zAm.l1 k x0 x7 x10 x19 x20 x21 x25 x26 (wrap64 (x27 + 1)) x206000 x206001)) else (none)) else (none))) else (zAm.l1 k x0 x7 x10 x19 x20 x21 x25 x26 (wrap64 (x27 + 1)) x206000 x206001))) else (none)) else (none)) else (if x7.length < 17592186044416 then (zAm.l0 k x0 (x7 ++ [x10]) x19 x20 (wrap64 (x21 + 1))) else (none))
end
def zAm.f (k : Nat) (l0 : List (S60)) (a1 : Int) : Option (List Int × Int) := (liaison_CheckGroups.f l0 a1).bind fun t203 => (if t203 = 0 then (zAm.l0 k l0 ([] : List Int) l0 (l0.length : Int) 0) else (some (([] : List Int), t203)))
theorem zAm.zBv : ∀ k, (∀ y0 y1 y2 y3 y4, LeO (zAm.l0 k y0 y1 y2 y3 y4) (zAm.l0 (k + 1) y0 y1 y2 y3 y4)) ∧ (∀ y0 y1 y2 y3 y4 y5 y6 y7 y8 y9 y10, LeO (zAm.l1 k y0 y1 y2 y3 y4 y5 y6 y7 y8 y9 y10) (zAm.l1 (k + 1) y0 y1 y2 y3 y4 y5 y6 y7 y8 y9 y10))
 | 0 => ⟨fun _ _ _ _ _ r h => by simp [zAm.l0] at h, fun _ _ _ _ _ _ _ _ _ _ _ r h => by simp [zAm.l1] at h⟩
 | k + 1 => by
  obtain ⟨ih0, ih1⟩ := zAm.zBv k
  refine ⟨?_, ?_⟩
  ·intro y0 y1 y2 y3 y4
   unfold zAm.l0
   repeat' first
   | (with_reducible exact ih0 _ _ _ _ _)
   | (with_reducible exact ih1 _ _ _ _ _ _ _ _ _ _ _)
   | (with_reducible exact zC9.mono _ _ _ _ _)
   | (with_reducible exact LeO.refl _)
   | (with_reducible exact LeO.none _)
   | (with_reducible refine LeO.ite ?_ ?_)
   | (with_reducible refine LeO.bind ?_ (fun _ => ?_))
  ·intro y0 y1 y2 y3 y4 y5 y6 y7 y8 y9 y10
   unfold zAm.l1
   repeat' first
   | (with_reducible exact ih0 _ _ _ _ _)
   | (with_reducible exact ih1 _ _ _ _ _ _ _ _ _ _ _)
   | (with_reducible exact zC9.mono _ _ _ _ _)
   | (with_reducible exact LeO.refl _)
   | (with_reducible exact LeO.none _)
   | (with_reducible refine LeO.ite ?_ ?_)
   | (with_reducible refine LeO.bind ?_ (fun _ => ?_))
theorem zAm.mono : ∀ a0 a1 k, LeO (zAm.f k a0 a1) (zAm.f (k + 1) a0 a1) := by
 intro a0 a1 k
 obtain ⟨ih0, ih1⟩ := zAm.zBv k
 unfold zAm.f
 repeat' first
   | (with_reducible exact ih0 _ _ _ _ _)
   | (with_reducible exact ih1 _ _ _ _ _ _ _ _ _ _ _)
   | (with_reducible exact zC9.mono _ _ _ _ _)
   | (with_reducible exact LeO.refl _)
   | (with_reducible exact LeO.none _)
   | (with_reducible refine LeO.ite ?_ ?_)
   | (with_reducible refine LeO.bind ?_ (fun _ => ?_))
def zAm.T12 : Bool × List (List Nat × List Nat) := (true, [([], []), ([], []), ([0, 1], [0, 1]), ([2, 2], [2]), ([3], [3]), ([4, 3], [3, 4]), ([5, 3, 3], [3, 5]), ([6], [6]), ([7, 6], [6, 7]), ([8, 6], [6, 8]), ([6], [6]), ([6], [6]), ([10, 11, 6], [6, 10, 11]), ([12, 6], [6, 12]), ([13, 6], [6, 13]), ([14, 6], [6, 14]), ([9, 15, 6], [6, 9, 15]), ([6, 16, 3], [3, 6, 16]), ([3, 17], [3, 17])])
def zAm.B12 : List Nat := [0, 0, 3, 7, 15, 31, 63, 127, 255, 511, 127, 127, 3199, 7295, 15487, 31871, 65535, 131071, 262143]
theorem zAm.tab12 : rtab .any (opsOf Tryz.f25 12) = zAm.T12 := by kernel_rfl
theorem zAm.bits12 : waitsOk zAm.T12.2 zAm.B12 = true := by kernel_rfl
set_option maxHeartbeats 8000000 in
set_option maxRecDepth 100000 in
theorem zAm.calls (k : Nat) (A0 : Option Addr) (c0 : Nat) (l0 : List (S60)) (a1 : Int) (r1 : List Int) (r2 : Int) (w : World) (hr0 : Kd.C k60 w A0 l0.length l0) (hc0 : l0.length ≤ c0) (h : zAm.f k l0 a1 = some (r1, r2)) :
  Calls Tryz.prog 25 #[.slice A0 l0.length c0, .int .i64 a1] w fun e w' => ∃ v0_ : Value, e = .returned (.tuple #[v0_, .int .i64 r2]) ∧ Kd.R (Kd.int .i64) 3 w' w.heap.size (fun _ => True) v0_ r1 ∧ Below w.heap.size w w' := by
 have hu60 := Tryz.underlying60
 have HR0 := zA2.mk hr0
 have HC0 := zA2.mk hc0
 clear hr0 hc0
 have HB := zA2.mk (Below.refl w.heap.size w)
 have H : ((liaison_CheckGroups.f l0 a1).bind fun t203 => (if t203 = 0 then (zAm.l0 k l0 ([] : List Int) l0 (l0.length : Int) 0) else (some (([] : List Int), t203)))) = some (r1, r2) := h
 clear h
 replace H := Option.bind_eq_some_iff.mp H
 obtain ⟨t203, A30, H⟩ := H
 replace H : (if t203 = 0 then (zAm.l0 k l0 ([] : List Int) l0 (l0.length : Int) 0) else (some (([] : List Int), t203))) = some (r1, r2) := H
 have A3 := zA2.mk A30
 clear A30
 by_cases c4 : t203 = 0
 ·rw [if_pos c4] at H
  have c4b0 : (t203 == 0) = true := beq_iff_eq.mpr c4
  have c4b1 : (t203 != 0) = false := bne_eq_false_iff_eq.mpr c4
  clear c4
  have H' := zA2.mk H
  clear H
  go_enter Tryz.func25, Tryz.ntmps25
  go_wp2_with (first | ((with_reducible refine zAp (f := 47) rfl ?_); refine zBq (some 15) rfl rfl Tryz.func47 (by kernel_rfl) rfl #[.slice A0 l0.length c0, .int .i64 a1] rfl (by (try simp only [List.map_toArray, List.map_cons, List.map_nil]); first | done | rfl | (simp only [List.length_drop, List.length_take]; rfl)) ?_; (with_reducible refine (liaison_CheckGroups.calls _ _ l0 a1 t203 _ ?side1 ?side2 A3.out).mono ?_); (case side1 => repeat (first | exact HR0.out | (with_reducible refine Kd.zAj ?_ _) | (with_reducible refine Kd.zAs ?_ _) | (with_reducible refine Kd.zB2 ?_))); (case side2 => exact HC0.out); rintro e w5 ⟨rfl, hb⟩; refine ⟨_, rfl, ?_⟩; have n0_ := zA2.mk (zAe (by repeat (first | (with_reducible first | exact HB.out | apply zA1 | apply zA0 | apply zA3) | exact HB.out)) hb); clear HB; have HB := n0_; clear n0_; (try clear hb); (try clear hb2); (try clear hk); (try clear hi)))
  go_loopg [7, 21] k (fun kq v7 v21 w' => ∃ (x7_1 : List Int) (x21_1 : Int), v21 = .int .i64 x21_1 ∧ zA2 (zAm.l0 kq l0 x7_1 l0 (l0.length : Int) x21_1 = some (r1, r2)) ∧ zA2 (kq ≤ k) ∧ zA2 (Kd.R (Kd.int .i64) 3 w' w.heap.size (fun _ => True) v7 x7_1) ∧ zA2 (Below w.heap.size w w'))
  case atStart => exact ⟨(([] : List Int)), (0), (by first | rfl | (simp; done) | (simp [*]; done)), H', ⟨Nat.le_refl _⟩, ⟨by first | exact Kd.R_nil _ _ _ _ _ | exact Kd.N_nil _ _ _ _ _ | exact Kd.V_nil _ _ _ _ _ | exact Kd.Q_nil _ _ _ _ _ | exact Kd.S_nil _ _ _ _ _⟩, ⟨by repeat (first | (with_reducible first | exact HB.out | apply zA1 | apply zA0 | apply zA3) | exact HB.out)⟩⟩
  case round =>
   clear H'
   try clear c2
   try clear p2
   try clear c4
   try clear c4b0
   try clear c4b1
   obtain ⟨x7_1, x21_1, rfl, HA, HK1, HO_7, HB⟩ := hrel
   cases gk with
   | zero => exact absurd HA.out (by simp [zAm.l0])
   | succ k1 =>
    have H := HA.out
    clear HA
    simp only [zAm.l0] at H
    by_cases c6 : x21_1 < (l0.length : Int)
    ·rw [if_pos c6] at H
     have c6b0 : decide (x21_1 < (l0.length : Int)) = true := decide_eq_true c6
     clear c6
     by_cases c7 : 0 ≤ x21_1
     rotate_left
     ·rw [if_neg c7] at H
      exact absurd H (by simp)
     rw [if_pos c7] at H
     have c7b0 : decide (0 ≤ x21_1) = true := decide_eq_true c7
     clear c7
     by_cases c8 : x21_1 < (l0.length : Int)
     rotate_left
     ·rw [if_neg c8] at H
      exact absurd H (by simp)
     rw [if_pos c8] at H
     have c8b0 : decide (x21_1 < (l0.length : Int)) = true := decide_eq_true c8
     clear c8
     have H' := zA2.mk H
     clear H
     have p204 : 0 ≤ (x21_1 : Int) := of_decide_eq_true (by first | (with_reducible assumption) | assumption)
     have q204 : x21_1 < (l0.length : Int) := of_decide_eq_true (by first | (with_reducible assumption) | assumption)
     obtain ⟨ad204, A204_1, c204_1, e204, hx204_0, hx204_1, hl204_1, hi204_1⟩ := at_T60 HR0.out x21_1 p204 q204
     cases e204
     replace hx204_0 := (HB.out.cell (World.block_lt_of_cell? w _ hx204_0)).trans hx204_0
     replace hx204_1 := (HB.out.cell (World.block_lt_of_cell? w _ hx204_1)).trans hx204_1
     have HR204_1 := zA2.mk hi204_1
     have HC204_1 := zA2.mk hl204_1
     clear hi204_1 hl204_1
     replace p204 := eq_true p204
     replace q204 := eq_true q204
     go_wp2_with (first | ((with_reducible refine zBl (N := 9) rfl ?_); (try (refine gate_guard (by rfl) ?_; dsimp only)); refine zBj ?hg (N := 9) ?hd (cs := #[.string (⟨#[]⟩ : ByteArray), .slice none 0 0]) (t := 60) ?hr ?_; (case hd => rfl); (case hg => rfl); (case hr => first | (go_simp; done) | (go_simp; rfl)); intro gb205 hg w9 hbox hb; have n0_ := zA2.mk (Kd.R_below (by (with_reducible repeat (first | apply Kd.zB6 | apply Kd.zB5 | apply Kd.zBf)); exact HO_7.out) hb); have n1_ := zA2.mk (zAe (by repeat (first | (with_reducible first | exact HB.out | apply zA1 | apply zA0 | apply zA3) | exact HB.out)) hb); have n2_ := zA2.mk (hbox); have n3_ := zA2.mk ((by rw [hg]; exact (zAb (by repeat (first | (with_reducible first | exact HB.out | apply zA1 | apply zA0 | apply zA3) | exact HB.out))) : w.heap.size ≤ gb205)); have n4_ := zA2.mk ((by rw [hg]; exact (zAb (by repeat (first | (with_reducible first | exact HB.out | apply zA1 | apply zA0 | apply zA3) | exact HB.out))) : w.heap.size ≤ gb205)); clear HO_7; clear HB; have HO_7 := n0_; have HB := n1_; have BK205 := n2_; have GW205 := n3_; have GE205 := n4_; clear n0_ n1_ n2_ n3_ n4_; clear hb hbox hg; have hcz10_0 : w9.cell? ⟨gb205, 0, none⟩ = some (.string (⟨#[]⟩ : ByteArray)) := (zA7 BK205.out 0).trans rfl; have hcz10_1 : w9.cell? ⟨gb205, 1, none⟩ = some (.slice none 0 0) := (zA7 BK205.out 1).trans rfl; have hfz10_0 := zA9 BK205.out 0; have hfz10_1 := zA9 BK205.out 1))
     go_loopg [10, 27] k1 (fun kq v10 v27 w' => ∃ (x10_2 : Int) (x27_2 : Int), v10 = .int .i64 x10_2 ∧ v27 = .int .i64 x27_2 ∧ zA2 (zAm.l1 kq l0 x7_1 x10_2 l0 (l0.length : Int) x21_1 l0 (l0.length : Int) x27_2 ((zAo l0 x21_1).f0) ((zAo l0 x21_1).f1) = some (r1, r2)) ∧ zA2 (kq ≤ k1) ∧ zA2 (Kd.R (Kd.int .i64) 3 w' w.heap.size (fun _ => True) u7 x7_1) ∧ zA2 (w'.heap[gb205]? = some (.cells #[.string ((zAo l0 x21_1).f0), (.slice A204_1 ((zAo l0 x21_1).f1).length c204_1)] 60 (0, 0))) ∧ zA2 (Below w.heap.size w w'))
     case atStart => exact ⟨((-1)), (0), (by first | rfl | (simp; done) | (simp [*]; done)), (by first | rfl | (simp; done) | (simp [*]; done)), H', ⟨Nat.le_refl _⟩, ⟨by (with_reducible repeat (first | apply Kd.zB6 | apply Kd.zB5 | apply Kd.zBf)); exact Kd.R_mono (Kd.R_far (p := ⟨gb205, 1, none⟩) (Kd.R_far (p := ⟨gb205, 0, none⟩) (Kd.R_types HO_7.out BK205.out (by decide)) (fun _ hk => hk.2) (.string ((zAo l0 x21_1).f0))) (fun _ hk => hk.2) (.slice A204_1 ((zAo l0 x21_1).f1).length c204_1)) (fun _ hk => trivial)⟩, ⟨by (with_reducible repeat (first | refine zA6 ?_ _ | refine zA8 ?_ | refine zA5 ?_ _)); refine blk_put (cs := #[.string ((zAo l0 x21_1).f0), .slice none 0 0]) ?_ 1 _ rfl; (with_reducible repeat (first | refine zA6 ?_ _ | refine zA8 ?_ | refine zA5 ?_ _)); refine blk_put (cs := #[.string (⟨#[]⟩ : ByteArray), .slice none 0 0]) ?_ 0 _ rfl; (with_reducible repeat (first | refine zA6 ?_ _ | refine zA8 ?_ | refine zA5 ?_ _)); exact BK205.out⟩, ⟨by repeat (first | (with_reducible first | exact HB.out | apply zA1 | apply zA0 | apply zA3 | refine zA4 ?_ GE205.out) | exact HB.out)⟩⟩
     case round =>
      clear H'
      try clear c2
      try clear p2
      try clear q2
      try clear hx2
      try clear c4
      try clear c4b0
      try clear c4b1
      try clear c6
      try clear c6b0
      try clear c7
      try clear c7b0
      try clear c8
      try clear c8b0
      try clear hcz10_0
      try clear hcz10_1
      try clear hfz10_0
      try clear hfz10_1
      try clear hx204_0
      try clear hx204_1
      try clear p2
      try clear p204
      try clear q204
      obtain ⟨x10_2, x27_2, rfl, rfl, HA, HK2, HO_7, BK205, HB⟩ := hrel
      cases gk with
      | zero => exact absurd HA.out (by simp [zAm.l1])
      | succ k2 =>
       have H := HA.out
       clear HA
       simp only [zAm.l1] at H
       by_cases c11 : x27_2 < (l0.length : Int)
       ·rw [if_pos c11] at H
        have c11b0 : decide (x27_2 < (l0.length : Int)) = true := decide_eq_true c11
        clear c11
        by_cases c12 : 0 ≤ x27_2
        rotate_left
        ·rw [if_neg c12] at H
         exact absurd H (by simp)
        rw [if_pos c12] at H
        have c12b0 : decide (0 ≤ x27_2) = true := decide_eq_true c12
        clear c12
        by_cases c13 : x27_2 < (l0.length : Int)
        rotate_left
        ·rw [if_neg c13] at H
         exact absurd H (by simp)
        rw [if_pos c13] at H
        have c13b0 : decide (x27_2 < (l0.length : Int)) = true := decide_eq_true c13
        clear c13
        replace H := Option.bind_eq_some_iff.mp H
        obtain ⟨t208, A140, H⟩ := H
        replace H : (if t208 = true then (if x10_2 < 0 then (zAm.l1 k2 l0 x7_1 x27_2 l0 (l0.length : Int) x21_1 l0 (l0.length : Int) (wrap64 (x27_2 + 1)) ((zAo l0 x21_1).f0) ((zAo l0 x21_1).f1)) else (if 0 ≤ x10_2 then (if x10_2 < (l0.length : Int) then (if (((zAo l0 x27_2).f1).length : Int) < (((zAo l0 x10_2).f1).length : Int) then (zAm.l1 k2 l0 x7_1 x27_2 l0 (l0.length : Int) x21_1 l0 (l0.length : Int) (wrap64 (x27_2 + 1)) ((zAo l0 x21_1).f0) ((zAo l0 x21_1).f1)) else (zAm.l1 k2 l0 x7_1 x10_2 l0 (l0.length : Int) x21_1 l0 (l0.length : Int) (wrap64 (x27_2 + 1)) ((zAo l0 x21_1).f0) ((zAo l0 x21_1).f1))) else (none)) else (none))) else (zAm.l1 k2 l0 x7_1 x10_2 l0 (l0.length : Int) x21_1 l0 (l0.length : Int) (wrap64 (x27_2 + 1)) ((zAo l0 x21_1).f0) ((zAo l0 x21_1).f1))) = some (r1, r2) := H
        have A14 := zA2.mk A140
        clear A140
        by_cases c15 : t208 = true
        ·subst c15
         have H1 : (if x10_2 < 0 then (zAm.l1 k2 l0 x7_1 x27_2 l0 (l0.length : Int) x21_1 l0 (l0.length : Int) (wrap64 (x27_2 + 1)) ((zAo l0 x21_1).f0) ((zAo l0 x21_1).f1)) else (if 0 ≤ x10_2 then (if x10_2 < (l0.length : Int) then (if (((zAo l0 x27_2).f1).length : Int) < (((zAo l0 x10_2).f1).length : Int) then (zAm.l1 k2 l0 x7_1 x27_2 l0 (l0.length : Int) x21_1 l0 (l0.length : Int) (wrap64 (x27_2 + 1)) ((zAo l0 x21_1).f0) ((zAo l0 x21_1).f1)) else (zAm.l1 k2 l0 x7_1 x10_2 l0 (l0.length : Int) x21_1 l0 (l0.length : Int) (wrap64 (x27_2 + 1)) ((zAo l0 x21_1).f0) ((zAo l0 x21_1).f1))) else (none)) else (none))) = some (r1, r2) := by rw [if_pos rfl] at H; exact H
         clear H
         have H := H1
         clear H1
         by_cases c16 : x10_2 < 0
         ·rw [if_pos c16] at H
          have c16b0 : decide (x10_2 < 0) = true := decide_eq_true c16
          clear c16
          have H' := zA2.mk H
          clear H
          have p206 : 0 ≤ (x27_2 : Int) := of_decide_eq_true (by first | (with_reducible assumption) | assumption)
          have q206 : x27_2 < (l0.length : Int) := of_decide_eq_true (by first | (with_reducible assumption) | assumption)
          obtain ⟨ad206, A206_1, c206_1, e206, hx206_0, hx206_1, hl206_1, hi206_1⟩ := at_T60 HR0.out x27_2 p206 q206
          obtain rfl : ad204 = ad206 := (by injection e206)
          replace hx206_0 := (HB.out.cell (World.block_lt_of_cell? w _ hx206_0)).trans hx206_0
          replace hx206_1 := (HB.out.cell (World.block_lt_of_cell? w _ hx206_1)).trans hx206_1
          have HR206_1 := zA2.mk hi206_1
          have HC206_1 := zA2.mk hl206_1
          clear hi206_1 hl206_1
          replace p206 := eq_true p206
          replace q206 := eq_true q206
          try go_wp2_with (first | ((with_reducible refine zBl (N := 12) rfl ?_); (try (refine gate_guard (by rfl) ?_; dsimp only)); refine zBj ?hg (N := 12) ?hd (cs := #[.string (⟨#[]⟩ : ByteArray), .slice none 0 0]) (t := 60) ?hr ?_; (case hd => rfl); (case hg => rfl); (case hr => first | (go_simp; done) | (go_simp; rfl)); intro gb207 hg w17 hbox hb; have n0_ := zA2.mk (Kd.R_below (by (with_reducible repeat (first | apply Kd.zB6 | apply Kd.zB5 | apply Kd.zBf)); exact HO_7.out) hb); have n1_ := zA2.mk (zAl (g := gb205) (o := .cells #[.string ((zAo l0 x21_1).f0), .slice A204_1 ((zAo l0 x21_1).f1).length c204_1] 60 (0, 0)) (by (with_reducible repeat (first | refine zA6 ?_ _ | refine zA8 ?_ | refine zA5 ?_ _)); exact BK205.out) hb); have n2_ := zA2.mk (zAe (by repeat (first | (with_reducible first | exact HB.out | apply zA1 | apply zA0 | apply zA3 | refine zA4 ?_ GE205.out) | exact HB.out)) hb); have n3_ := zA2.mk (hbox); have n4_ := zA2.mk ((by rw [hg]; exact (zAb (by repeat (first | (with_reducible first | exact HB.out | apply zA1 | apply zA0 | apply zA3 | refine zA4 ?_ GE205.out) | exact HB.out))) : w.heap.size ≤ gb207)); have n5_ := zA2.mk ((by rw [hg]; exact (zAb (by repeat (first | (with_reducible first | exact HB.out | apply zA1 | apply zA0 | apply zA3 | refine zA4 ?_ GE205.out) | exact HB.out))) : w.heap.size ≤ gb207)); have n6_ := zA2.mk ((by rw [hg]; exact Nat.ne_of_lt (zC8 (g := gb205) (o := .cells #[.string ((zAo l0 x21_1).f0), .slice A204_1 ((zAo l0 x21_1).f1).length c204_1] 60 (0, 0)) (by (with_reducible repeat (first | refine zA6 ?_ _ | refine zA8 ?_ | refine zA5 ?_ _)); exact BK205.out)) : gb205 ≠ gb207)); have n7_ := zA2.mk ((by rw [hg]; exact Nat.ne_of_gt (zC8 (g := gb205) (o := .cells #[.string ((zAo l0 x21_1).f0), .slice A204_1 ((zAo l0 x21_1).f1).length c204_1] 60 (0, 0)) (by (with_reducible repeat (first | refine zA6 ?_ _ | refine zA8 ?_ | refine zA5 ?_ _)); exact BK205.out)) : gb207 ≠ gb205)); clear HO_7; clear BK205; clear HB; have HO_7 := n0_; have BK205 := n1_; have HB := n2_; have BK207 := n3_; have GW207 := n4_; have GE207 := n5_; have NB205_207 := n6_; have NB207_205 := n7_; clear n0_ n1_ n2_ n3_ n4_ n5_ n6_ n7_; clear hb hbox hg; have hnb18 := NB207_205.out; have hnc18 := NB205_207.out; have hcz19_0 : w17.cell? ⟨gb207, 0, none⟩ = some (.string (⟨#[]⟩ : ByteArray)) := (zA7 BK207.out 0).trans rfl; have hcz19_1 : w17.cell? ⟨gb207, 1, none⟩ = some (.slice none 0 0) := (zA7 BK207.out 1).trans rfl; have hfz19_0 := zA9 BK207.out 0; have hfz19_1 := zA9 BK207.out 1))
          have n0_ : zA2 (Kd.R (Kd.int .i64) 3 ((w17.setCell ⟨gb207, 0, none⟩ (.string ((zAo l0 x27_2).f0))).setCell ⟨gb207, 1, none⟩ (.slice A206_1 ((zAo l0 x27_2).f1).length c206_1)) w.heap.size (fun _ => True) u7 x7_1) := ⟨by (with_reducible repeat (first | apply Kd.zB6 | apply Kd.zB5 | apply Kd.zBf)); exact Kd.R_mono (Kd.R_far (p := ⟨gb207, 1, none⟩) (Kd.R_far (p := ⟨gb207, 0, none⟩) (Kd.R_types HO_7.out BK207.out (by decide)) (fun _ hk => hk.2) (.string ((zAo l0 x27_2).f0))) (fun _ hk => hk.2) (.slice A206_1 ((zAo l0 x27_2).f1).length c206_1)) (fun _ hk => trivial)⟩
          have n1_ : zA2 (((w17.setCell ⟨gb207, 0, none⟩ (.string ((zAo l0 x27_2).f0))).setCell ⟨gb207, 1, none⟩ (.slice A206_1 ((zAo l0 x27_2).f1).length c206_1)).heap[gb205]? = some (.cells #[.string ((zAo l0 x21_1).f0), .slice A204_1 ((zAo l0 x21_1).f1).length c204_1] 60 (0, 0))) := ⟨by (with_reducible repeat (first | refine zA6 ?_ _ | refine zA8 ?_ | refine zA5 ?_ _)); refine blk_far ?_ NB205_207.out _; (with_reducible repeat (first | refine zA6 ?_ _ | refine zA8 ?_ | refine zA5 ?_ _)); refine blk_far ?_ NB205_207.out _; (with_reducible repeat (first | refine zA6 ?_ _ | refine zA8 ?_ | refine zA5 ?_ _)); exact BK205.out⟩
          have n2_ : zA2 (((w17.setCell ⟨gb207, 0, none⟩ (.string ((zAo l0 x27_2).f0))).setCell ⟨gb207, 1, none⟩ (.slice A206_1 ((zAo l0 x27_2).f1).length c206_1)).heap[gb207]? = some (.cells #[.string ((zAo l0 x27_2).f0), .slice A206_1 ((zAo l0 x27_2).f1).length c206_1] 60 (0, 0))) := ⟨by (with_reducible repeat (first | refine zA6 ?_ _ | refine zA8 ?_ | refine zA5 ?_ _)); refine blk_put (cs := #[.string ((zAo l0 x27_2).f0), .slice none 0 0]) ?_ 1 _ rfl; (with_reducible repeat (first | refine zA6 ?_ _ | refine zA8 ?_ | refine zA5 ?_ _)); refine blk_put (cs := #[.string (⟨#[]⟩ : ByteArray), .slice none 0 0]) ?_ 0 _ rfl; (with_reducible repeat (first | refine zA6 ?_ _ | refine zA8 ?_ | refine zA5 ?_ _)); exact BK207.out⟩
          have n3_ : zA2 (Below w.heap.size w ((w17.setCell ⟨gb207, 0, none⟩ (.string ((zAo l0 x27_2).f0))).setCell ⟨gb207, 1, none⟩ (.slice A206_1 ((zAo l0 x27_2).f1).length c206_1))) := ⟨by repeat (first | (with_reducible first | exact HB.out | apply zA1 | apply zA0 | apply zA3 | refine zA4 ?_ GE205.out | refine zA4 ?_ GE207.out) | exact HB.out)⟩
          (try clear HO_7)
          (try clear BK205)
          (try clear BK207)
          (try clear HB)
          generalize ((w17.setCell ⟨gb207, 0, none⟩ (.string ((zAo l0 x27_2).f0))).setCell ⟨gb207, 1, none⟩ (.slice A206_1 ((zAo l0 x27_2).f1).length c206_1)) = w20 at n0_ n1_ n2_ n3_ ⊢
          have HO_7 := n0_
          have BK205 := n1_
          have BK207 := n2_
          have HB := n3_
          clear n0_ n1_ n2_ n3_
          have n0_ := zA2.mk (Kd.zBf HO_7.out)
          have n1_ := zA2.mk (zA8 BK205.out)
          have n2_ := zA2.mk (zA8 BK207.out)
          have n3_ := zA2.mk (zA3 HB.out)
          clear HO_7
          clear BK205
          clear BK207
          clear HB
          have HO_7 := n0_
          have BK205 := n1_
          have BK207 := n2_
          have HB := n3_
          clear n0_ n1_ n2_ n3_
          refine start_ (n := 19) (S := fun w' => w'.cell? ⟨gb205, 0, none⟩ = some (.string ((zAo l0 x21_1).f0)) ∧ w'.cell? ⟨gb205, 1, none⟩ = some (.slice A204_1 ((zAo l0 x21_1).f1).length c204_1) ∧ w'.cell? ⟨gb207, 0, none⟩ = some (.string ((zAo l0 x27_2).f0)) ∧ w'.cell? ⟨gb207, 1, none⟩ = some (.slice A206_1 ((zAo l0 x27_2).f1).length c206_1)) (ds := []) #[false, false, false, false, false, false, false, false, false, false, false, false, false, false, false, false, false, false, false] (by kernel_rfl) rfl rfl ⟨(zA7 BK205.out 0).trans rfl, (zA7 BK205.out 1).trans rfl, (zA7 BK207.out 0).trans rfl, (zA7 BK207.out 1).trans rfl⟩ (fun hHeld => ?_); refine with_tabW zAm.tab12 zAm.bits12 (fun HT_ HW_ => ?_)
          generalize w20.drew = w21 at HO_7 BK205 BK207 HB hHeld ⊢
          refine take_ (i := 0) (N := some 32) (v := ?_) (a' := ?_) #[true, false, false, false, false, false, false, false, false, false, false, false, false, false, false, false, false, false, false] rfl rfl (zC0 HT_.out HW_.out (by kernel_rfl)) (fun _ _ _ h => h) (Or.inl ⟨by rfl, ?_⟩) hHeld ?_ ?_
          rotate_left
          ·rintro w' ⟨s0, s1, s2, s3⟩
           go_simp
           with_reducible rfl
          rotate_left
          ·simp only [Act.put, List.setIfInBounds_toArray, List.set_cons_zero, List.set_cons_succ, i64_w, i32_w]
           rfl
          refine take_ (i := 1) (N := some 33) (v := ?_) (a' := ?_) #[true, true, false, false, false, false, false, false, false, false, false, false, false, false, false, false, false, false, false] rfl rfl (zC0 HT_.out HW_.out (by kernel_rfl)) (fun _ _ _ h => h) (Or.inl ⟨by rfl, ?_⟩) hHeld ?_ ?_
          rotate_left
          ·rintro w' ⟨s0, s1, s2, s3⟩
           go_simp
           with_reducible rfl
          rotate_left
          ·simp only [Act.put, List.setIfInBounds_toArray, List.set_cons_zero, List.set_cons_succ, i64_w, i32_w]
           rfl
          refine one_ (i := 2) (N := some 34) #[true, true, true, false, false, false, false, false, false, false, false, false, false, false, false, false, false, false, false] rfl rfl (one_of HT_.out (by kernel_rfl)) (by decide) (fun K hK => ?_)
          refine goes_ Tryz.func48 (by kernel_rfl) rfl #[.agg #[.string ((zAo l0 x21_1).f0), .slice A204_1 ((zAo l0 x21_1).f1).length c204_1], .agg #[.string ((zAo l0 x27_2).f0), .slice A206_1 ((zAo l0 x27_2).f1).length c206_1]] (by rfl) rfl rfl (by (try simp only [List.map_toArray, List.map_cons, List.map_nil]); first | done | rfl | (simp only [List.length_drop, List.length_take]; rfl)) ?_
          with_reducible refine (zC9.calls k2 ((zAo l0 x21_1).f0) _ _ ((zAo l0 x21_1).f1) ((zAo l0 x27_2).f0) _ _ ((zAo l0 x27_2).f1) true _ ?side1 ?side2 ?side3 ?side4 A14.out).mono ?_
          (case side1 => repeat (first | exact (Kd.zAk HR204_1.out HB.out) | (with_reducible refine Kd.zAj ?_ _) | (with_reducible refine Kd.zAs ?_ _) | (with_reducible refine Kd.zB2 ?_)))
          (case side2 => exact HC204_1.out)
          (case side3 => repeat (first | exact (Kd.zAk HR206_1.out HB.out) | (with_reducible refine Kd.zAj ?_ _) | (with_reducible refine Kd.zAs ?_ _) | (with_reducible refine Kd.zB2 ?_)))
          (case side4 => exact HC206_1.out)
          rintro e w22 ⟨rfl, hb⟩
          refine ⟨_, rfl, ?_⟩
          have n0_ := zA2.mk (Kd.R_below (by (with_reducible repeat (first | apply Kd.zB6 | apply Kd.zB5 | apply Kd.zBf)); exact HO_7.out) hb)
          have n1_ := zA2.mk (zAl (g := gb205) (o := .cells #[.string ((zAo l0 x21_1).f0), .slice A204_1 ((zAo l0 x21_1).f1).length c204_1] 60 (0, 0)) (by (with_reducible repeat (first | refine zA6 ?_ _ | refine zA8 ?_ | refine zA5 ?_ _)); exact BK205.out) hb)
          have n2_ := zA2.mk (zAl (g := gb207) (o := .cells #[.string ((zAo l0 x27_2).f0), .slice A206_1 ((zAo l0 x27_2).f1).length c206_1] 60 (0, 0)) (by (with_reducible repeat (first | refine zA6 ?_ _ | refine zA8 ?_ | refine zA5 ?_ _)); exact BK207.out) hb)
          have n3_ := zA2.mk (zAe (by repeat (first | (with_reducible first | exact HB.out | apply zA1 | apply zA0 | apply zA3 | refine zA4 ?_ GE205.out | refine zA4 ?_ GE207.out) | exact HB.out)) hb)
          clear HO_7
          clear BK205
          clear BK207
          clear HB
          have HO_7 := n0_
          have BK205 := n1_
          have BK207 := n2_
          have HB := n3_
          clear n0_ n1_ n2_ n3_
          (try clear hb)
          (try clear hb2)
          (try clear hk)
          (try clear hi)
          refine hK.out _ _ ⟨(zA7 BK205.out 0).trans rfl, (zA7 BK205.out 1).trans rfl, (zA7 BK207.out 0).trans rfl, (zA7 BK207.out 1).trans rfl⟩ (fun hHeld => ?_)
          clear hK K
          refine norm_ (a' := ?_) ?_ ?_
          rotate_left
          ·show Act.put _ (some 34) _ = _
           simp only [Act.put, List.setIfInBounds_toArray, List.set_cons_zero, List.set_cons_succ, i64_w, i32_w]
           rfl
          refine pure_ (i := 3) (N := some 35) (v := ?_) (a' := ?_) #[true, true, true, true, false, false, false, false, false, false, false, false, false, false, false, false, false, false, false] rfl rfl (zBe HT_.out (by kernel_rfl)) (fun _ _ _ h => h) (Or.inl ⟨by rfl, ?_⟩) ?_ ?_
          rotate_left
          ·intro w'
           go_simp
           with_reducible rfl
          rotate_left
          ·simp only [Act.put, List.setIfInBounds_toArray, List.set_cons_zero, List.set_cons_succ, i64_w, i32_w]
           rfl
          refine pure_ (i := 4) (N := some 36) (v := ?_) (a' := ?_) #[true, true, true, true, true, false, false, false, false, false, false, false, false, false, false, false, false, false, false] rfl rfl (zBe HT_.out (by kernel_rfl)) (fun _ _ _ h => h) (Or.inl ⟨by rfl, ?_⟩) ?_ ?_
          rotate_left
          ·intro w'
           go_simp
           with_reducible rfl
          rotate_left
          ·simp only [Act.put, List.setIfInBounds_toArray, List.set_cons_zero, List.set_cons_succ, i64_w, i32_w]
           rfl
          refine pure_ (i := 5) (N := some 37) (v := ?_) (a' := ?_) #[true, true, true, true, true, true, false, false, false, false, false, false, false, false, false, false, false, false, false] rfl rfl (zBe HT_.out (by kernel_rfl)) (fun _ _ _ h => h) (Or.inl ⟨by rfl, ?_⟩) ?_ ?_
          rotate_left
          ·intro w'
           go_simp
           with_reducible rfl
          rotate_left
          ·simp only [Act.put, List.setIfInBounds_toArray, List.set_cons_zero, List.set_cons_succ, i64_w, i32_w]
           rfl
          refine pure_ (i := 6) (N := some 38) (v := ?_) (a' := ?_) #[true, true, true, true, true, true, true, false, false, false, false, false, false, false, false, false, false, false, false] rfl rfl (zBe HT_.out (by kernel_rfl)) (fun _ _ _ h => h) (Or.inl ⟨by rfl, ?_⟩) ?_ ?_
          rotate_left
          ·intro w'
           go_simp
           with_reducible rfl
          rotate_left
          ·simp only [Act.put, List.setIfInBounds_toArray, List.set_cons_zero, List.set_cons_succ, i64_w, i32_w]
           rfl
          refine pure_ (i := 7) (N := some 39) (v := undef) (a' := ?_) #[true, true, true, true, true, true, true, true, false, false, false, false, false, false, false, false, false, false, false] rfl rfl (zBe HT_.out (by kernel_rfl)) (fun _ _ _ h => h) (Or.inr ⟨by rfl, rfl⟩) ?_ ?_
          rotate_left
          ·simp only [Act.put, List.setIfInBounds_toArray, List.set_cons_zero, List.set_cons_succ, i64_w, i32_w]
           rfl
          refine pure_ (i := 8) (N := some 40) (v := undef) (a' := ?_) #[true, true, true, true, true, true, true, true, true, false, false, false, false, false, false, false, false, false, false] rfl rfl (zBe HT_.out (by kernel_rfl)) (fun _ _ _ h => h) (Or.inr ⟨by rfl, rfl⟩) ?_ ?_
          rotate_left
          ·simp only [Act.put, List.setIfInBounds_toArray, List.set_cons_zero, List.set_cons_succ, i64_w, i32_w]
           rfl
          refine pure_ (i := 9) (N := some 41) (v := undef) (a' := ?_) #[true, true, true, true, true, true, true, true, true, true, false, false, false, false, false, false, false, false, false] rfl rfl (zBe HT_.out (by kernel_rfl)) (fun _ _ _ h => h) (Or.inr ⟨by rfl, rfl⟩) ?_ ?_
          rotate_left
          ·simp only [Act.put, List.setIfInBounds_toArray, List.set_cons_zero, List.set_cons_succ, i64_w, i32_w]
           rfl
          refine pure_ (i := 10) (N := some 42) (v := undef) (a' := ?_) #[true, true, true, true, true, true, true, true, true, true, true, false, false, false, false, false, false, false, false] rfl rfl (zBe HT_.out (by kernel_rfl)) (fun _ _ _ h => h) (Or.inr ⟨by rfl, rfl⟩) ?_ ?_
          rotate_left
          ·simp only [Act.put, List.setIfInBounds_toArray, List.set_cons_zero, List.set_cons_succ, i64_w, i32_w]
           rfl
          refine pure_ (i := 11) (N := some 43) (v := undef) (a' := ?_) #[true, true, true, true, true, true, true, true, true, true, true, true, false, false, false, false, false, false, false] rfl rfl (zBe HT_.out (by kernel_rfl)) (fun _ _ _ h => h) (Or.inr ⟨by rfl, rfl⟩) ?_ ?_
          rotate_left
          ·simp only [Act.put, List.setIfInBounds_toArray, List.set_cons_zero, List.set_cons_succ, i64_w, i32_w]
           rfl
          refine pure_ (i := 12) (N := some 44) (v := undef) (a' := ?_) #[true, true, true, true, true, true, true, true, true, true, true, true, true, false, false, false, false, false, false] rfl rfl (zBe HT_.out (by kernel_rfl)) (fun _ _ _ h => h) (Or.inr ⟨by rfl, rfl⟩) ?_ ?_
          rotate_left
          ·simp only [Act.put, List.setIfInBounds_toArray, List.set_cons_zero, List.set_cons_succ, i64_w, i32_w]
           rfl
          refine pure_ (i := 13) (N := some 45) (v := undef) (a' := ?_) #[true, true, true, true, true, true, true, true, true, true, true, true, true, true, false, false, false, false, false] rfl rfl (zBe HT_.out (by kernel_rfl)) (fun _ _ _ h => h) (Or.inr ⟨by rfl, rfl⟩) ?_ ?_
          rotate_left
          ·simp only [Act.put, List.setIfInBounds_toArray, List.set_cons_zero, List.set_cons_succ, i64_w, i32_w]
           rfl
          refine pure_ (i := 14) (N := some 46) (v := undef) (a' := ?_) #[true, true, true, true, true, true, true, true, true, true, true, true, true, true, true, false, false, false, false] rfl rfl (zBe HT_.out (by kernel_rfl)) (fun _ _ _ h => h) (Or.inr ⟨by rfl, rfl⟩) ?_ ?_
          rotate_left
          ·simp only [Act.put, List.setIfInBounds_toArray, List.set_cons_zero, List.set_cons_succ, i64_w, i32_w]
           rfl
          refine pure_ (i := 15) (N := some 47) (v := undef) (a' := ?_) #[true, true, true, true, true, true, true, true, true, true, true, true, true, true, true, true, false, false, false] rfl rfl (zBe HT_.out (by kernel_rfl)) (fun _ _ _ h => h) (Or.inr ⟨by rfl, rfl⟩) ?_ ?_
          rotate_left
          ·simp only [Act.put, List.setIfInBounds_toArray, List.set_cons_zero, List.set_cons_succ, i64_w, i32_w]
           rfl
          refine pure_ (i := 16) (N := some 48) (v := undef) (a' := ?_) #[true, true, true, true, true, true, true, true, true, true, true, true, true, true, true, true, true, false, false] rfl rfl (zBe HT_.out (by kernel_rfl)) (fun _ _ _ h => h) (Or.inr ⟨by rfl, rfl⟩) ?_ ?_
          rotate_left
          ·simp only [Act.put, List.setIfInBounds_toArray, List.set_cons_zero, List.set_cons_succ, i64_w, i32_w]
           rfl
          refine pure_ (i := 17) (N := some 49) (v := ?_) (a' := ?_) #[true, true, true, true, true, true, true, true, true, true, true, true, true, true, true, true, true, true, false] rfl rfl (zBe HT_.out (by kernel_rfl)) (fun _ _ _ h => h) (Or.inl ⟨by rfl, ?_⟩) ?_ ?_
          rotate_left
          ·intro w'
           go_simp
           with_reducible rfl
          rotate_left
          ·simp only [Act.put, List.setIfInBounds_toArray, List.set_cons_zero, List.set_cons_succ, i64_w, i32_w]
           rfl
          refine pure_ (i := 18) (N := some 50) (v := ?_) (a' := ?_) #[true, true, true, true, true, true, true, true, true, true, true, true, true, true, true, true, true, true, true] rfl rfl (zBe HT_.out (by kernel_rfl)) (fun _ _ _ h => h) (Or.inl ⟨by rfl, ?_⟩) ?_ ?_
          rotate_left
          ·intro w'
           go_simp
           with_reducible rfl
          rotate_left
          ·simp only [Act.put, List.setIfInBounds_toArray, List.set_cons_zero, List.set_cons_succ, i64_w, i32_w]
           rfl
          refine done_ (done_of HT_.out (by kernel_rfl)) ?_
          try go_wp2
          go_roundg k2
          case measure => have := HK1.out; have := HK2.out; omega
          case rel => exact ⟨(x27_2), (wrap64 (x27_2 + 1)), (by first | rfl | (simp; done) | (simp [*]; done)), (by first | rfl | (simp; done) | (simp [*]; done)), H', ⟨by have := HK1.out; have := HK2.out; omega⟩, ⟨by (with_reducible repeat (first | apply Kd.zB6 | apply Kd.zB5 | apply Kd.zBf)); exact HO_7.out⟩, ⟨by (with_reducible repeat (first | refine zA6 ?_ _ | refine zA8 ?_ | refine zA5 ?_ _)); exact BK205.out⟩, ⟨by repeat (first | (with_reducible first | exact HB.out | apply zA1 | apply zA0 | apply zA3 | refine zA4 ?_ GE205.out | refine zA4 ?_ GE207.out) | exact HB.out)⟩⟩
         ·rw [if_neg c16] at H
          have c16b0 : decide (x10_2 < 0) = false := decide_eq_false c16
          clear c16
          by_cases c23 : 0 ≤ x10_2
          rotate_left
          ·rw [if_neg c23] at H
           exact absurd H (by simp)
          rw [if_pos c23] at H
          have c23b0 : decide (0 ≤ x10_2) = true := decide_eq_true c23
          clear c23
          by_cases c24 : x10_2 < (l0.length : Int)
          rotate_left
          ·rw [if_neg c24] at H
           exact absurd H (by simp)
          rw [if_pos c24] at H
          have c24b0 : decide (x10_2 < (l0.length : Int)) = true := decide_eq_true c24
          clear c24
          by_cases c25 : (((zAo l0 x27_2).f1).length : Int) < (((zAo l0 x10_2).f1).length : Int)
          ·rw [if_pos c25] at H
           have c25b0 : decide ((((zAo l0 x27_2).f1).length : Int) < (((zAo l0 x10_2).f1).length : Int)) = true := decide_eq_true c25
           have c25b1 : decide (((zAo l0 x27_2).f1).length < ((zAo l0 x10_2).f1).length) = true := decide_eq_true (Int.ofNat_lt.mp c25)
           clear c25
           have H' := zA2.mk H
           clear H
           have p206 : 0 ≤ (x27_2 : Int) := of_decide_eq_true (by first | (with_reducible assumption) | assumption)
           have q206 : x27_2 < (l0.length : Int) := of_decide_eq_true (by first | (with_reducible assumption) | assumption)
           obtain ⟨ad206, A206_1, c206_1, e206, hx206_0, hx206_1, hl206_1, hi206_1⟩ := at_T60 HR0.out x27_2 p206 q206
           obtain rfl : ad204 = ad206 := (by injection e206)
           replace hx206_0 := (HB.out.cell (World.block_lt_of_cell? w _ hx206_0)).trans hx206_0
           replace hx206_1 := (HB.out.cell (World.block_lt_of_cell? w _ hx206_1)).trans hx206_1
           have HR206_1 := zA2.mk hi206_1
           have HC206_1 := zA2.mk hl206_1
           clear hi206_1 hl206_1
           replace p206 := eq_true p206
           replace q206 := eq_true q206
           try go_wp2_with (first | ((with_reducible refine zBl (N := 12) rfl ?_); (try (refine gate_guard (by rfl) ?_; dsimp only)); refine zBj ?hg (N := 12) ?hd (cs := #[.string (⟨#[]⟩ : ByteArray), .slice none 0 0]) (t := 60) ?hr ?_; (case hd => rfl); (case hg => rfl); (case hr => first | (go_simp; done) | (go_simp; rfl)); intro gb207 hg w26 hbox hb; have n0_ := zA2.mk (Kd.R_below (by (with_reducible repeat (first | apply Kd.zB6 | apply Kd.zB5 | apply Kd.zBf)); exact HO_7.out) hb); have n1_ := zA2.mk (zAl (g := gb205) (o := .cells #[.string ((zAo l0 x21_1).f0), .slice A204_1 ((zAo l0 x21_1).f1).length c204_1] 60 (0, 0)) (by (with_reducible repeat (first | refine zA6 ?_ _ | refine zA8 ?_ | refine zA5 ?_ _)); exact BK205.out) hb); have n2_ := zA2.mk (zAe (by repeat (first | (with_reducible first | exact HB.out | apply zA1 | apply zA0 | apply zA3 | refine zA4 ?_ GE205.out) | exact HB.out)) hb); have n3_ := zA2.mk (hbox); have n4_ := zA2.mk ((by rw [hg]; exact (zAb (by repeat (first | (with_reducible first | exact HB.out | apply zA1 | apply zA0 | apply zA3 | refine zA4 ?_ GE205.out) | exact HB.out))) : w.heap.size ≤ gb207)); have n5_ := zA2.mk ((by rw [hg]; exact (zAb (by repeat (first | (with_reducible first | exact HB.out | apply zA1 | apply zA0 | apply zA3 | refine zA4 ?_ GE205.out) | exact HB.out))) : w.heap.size ≤ gb207)); have n6_ := zA2.mk ((by rw [hg]; exact Nat.ne_of_lt (zC8 (g := gb205) (o := .cells #[.string ((zAo l0 x21_1).f0), .slice A204_1 ((zAo l0 x21_1).f1).length c204_1] 60 (0, 0)) (by (with_reducible repeat (first | refine zA6 ?_ _ | refine zA8 ?_ | refine zA5 ?_ _)); exact BK205.out)) : gb205 ≠ gb207)); have n7_ := zA2.mk ((by rw [hg]; exact Nat.ne_of_gt (zC8 (g := gb205) (o := .cells #[.string ((zAo l0 x21_1).f0), .slice A204_1 ((zAo l0 x21_1).f1).length c204_1] 60 (0, 0)) (by (with_reducible repeat (first | refine zA6 ?_ _ | refine zA8 ?_ | refine zA5 ?_ _)); exact BK205.out)) : gb207 ≠ gb205)); clear HO_7; clear BK205; clear HB; have HO_7 := n0_; have BK205 := n1_; have HB := n2_; have BK207 := n3_; have GW207 := n4_; have GE207 := n5_; have NB205_207 := n6_; have NB207_205 := n7_; clear n0_ n1_ n2_ n3_ n4_ n5_ n6_ n7_; clear hb hbox hg; have hnb27 := NB207_205.out; have hnc27 := NB205_207.out; have hcz28_0 : w26.cell? ⟨gb207, 0, none⟩ = some (.string (⟨#[]⟩ : ByteArray)) := (zA7 BK207.out 0).trans rfl; have hcz28_1 : w26.cell? ⟨gb207, 1, none⟩ = some (.slice none 0 0) := (zA7 BK207.out 1).trans rfl; have hfz28_0 := zA9 BK207.out 0; have hfz28_1 := zA9 BK207.out 1))
           have n0_ : zA2 (Kd.R (Kd.int .i64) 3 ((w26.setCell ⟨gb207, 0, none⟩ (.string ((zAo l0 x27_2).f0))).setCell ⟨gb207, 1, none⟩ (.slice A206_1 ((zAo l0 x27_2).f1).length c206_1)) w.heap.size (fun _ => True) u7 x7_1) := ⟨by (with_reducible repeat (first | apply Kd.zB6 | apply Kd.zB5 | apply Kd.zBf)); exact Kd.R_mono (Kd.R_far (p := ⟨gb207, 1, none⟩) (Kd.R_far (p := ⟨gb207, 0, none⟩) (Kd.R_types HO_7.out BK207.out (by decide)) (fun _ hk => hk.2) (.string ((zAo l0 x27_2).f0))) (fun _ hk => hk.2) (.slice A206_1 ((zAo l0 x27_2).f1).length c206_1)) (fun _ hk => trivial)⟩
           have n1_ : zA2 (((w26.setCell ⟨gb207, 0, none⟩ (.string ((zAo l0 x27_2).f0))).setCell ⟨gb207, 1, none⟩ (.slice A206_1 ((zAo l0 x27_2).f1).length c206_1)).heap[gb205]? = some (.cells #[.string ((zAo l0 x21_1).f0), .slice A204_1 ((zAo l0 x21_1).f1).length c204_1] 60 (0, 0))) := ⟨by (with_reducible repeat (first | refine zA6 ?_ _ | refine zA8 ?_ | refine zA5 ?_ _)); refine blk_far ?_ NB205_207.out _; (with_reducible repeat (first | refine zA6 ?_ _ | refine zA8 ?_ | refine zA5 ?_ _)); refine blk_far ?_ NB205_207.out _; (with_reducible repeat (first | refine zA6 ?_ _ | refine zA8 ?_ | refine zA5 ?_ _)); exact BK205.out⟩
           have n2_ : zA2 (((w26.setCell ⟨gb207, 0, none⟩ (.string ((zAo l0 x27_2).f0))).setCell ⟨gb207, 1, none⟩ (.slice A206_1 ((zAo l0 x27_2).f1).length c206_1)).heap[gb207]? = some (.cells #[.string ((zAo l0 x27_2).f0), .slice A206_1 ((zAo l0 x27_2).f1).length c206_1] 60 (0, 0))) := ⟨by (with_reducible repeat (first | refine zA6 ?_ _ | refine zA8 ?_ | refine zA5 ?_ _)); refine blk_put (cs := #[.string ((zAo l0 x27_2).f0), .slice none 0 0]) ?_ 1 _ rfl; (with_reducible repeat (first | refine zA6 ?_ _ | refine zA8 ?_ | refine zA5 ?_ _)); refine blk_put (cs := #[.string (⟨#[]⟩ : ByteArray), .slice none 0 0]) ?_ 0 _ rfl; (with_reducible repeat (first | refine zA6 ?_ _ | refine zA8 ?_ | refine zA5 ?_ _)); exact BK207.out⟩
           have n3_ : zA2 (Below w.heap.size w ((w26.setCell ⟨gb207, 0, none⟩ (.string ((zAo l0 x27_2).f0))).setCell ⟨gb207, 1, none⟩ (.slice A206_1 ((zAo l0 x27_2).f1).length c206_1))) := ⟨by repeat (first | (with_reducible first | exact HB.out | apply zA1 | apply zA0 | apply zA3 | refine zA4 ?_ GE205.out | refine zA4 ?_ GE207.out) | exact HB.out)⟩
           (try clear HO_7)
           (try clear BK205)
           (try clear BK207)
           (try clear HB)
           generalize ((w26.setCell ⟨gb207, 0, none⟩ (.string ((zAo l0 x27_2).f0))).setCell ⟨gb207, 1, none⟩ (.slice A206_1 ((zAo l0 x27_2).f1).length c206_1)) = w29 at n0_ n1_ n2_ n3_ ⊢
           have HO_7 := n0_
           have BK205 := n1_
           have BK207 := n2_
           have HB := n3_
           clear n0_ n1_ n2_ n3_
           have n0_ := zA2.mk (Kd.zBf HO_7.out)
           have n1_ := zA2.mk (zA8 BK205.out)
           have n2_ := zA2.mk (zA8 BK207.out)
           have n3_ := zA2.mk (zA3 HB.out)
           clear HO_7
           clear BK205
           clear BK207
           clear HB
           have HO_7 := n0_
           have BK205 := n1_
           have BK207 := n2_
           have HB := n3_
           clear n0_ n1_ n2_ n3_
           have p209 : 0 ≤ (x10_2 : Int) := of_decide_eq_true (by first | (with_reducible assumption) | assumption)
           have q209 : x10_2 < (l0.length : Int) := of_decide_eq_true (by first | (with_reducible assumption) | assumption)
           obtain ⟨ad209, A209_1, c209_1, e209, hx209_0, hx209_1, hl209_1, hi209_1⟩ := at_T60 HR0.out x10_2 p209 q209
           have hw209_1 := hx209_1
           have hw209_0 := hx209_0
           obtain rfl : ad204 = ad209 := (by injection e209)
           replace hx209_0 := (HB.out.cell (World.block_lt_of_cell? w _ hx209_0)).trans hx209_0
           replace hx209_1 := (HB.out.cell (World.block_lt_of_cell? w _ hx209_1)).trans hx209_1
           have HR209_1 := zA2.mk hi209_1
           have HC209_1 := zA2.mk hl209_1
           clear hi209_1 hl209_1
           replace p209 := eq_true p209
           replace q209 := eq_true q209
           refine start_ (n := 19) (S := fun w' => w'.cell? ⟨gb205, 0, none⟩ = some (.string ((zAo l0 x21_1).f0)) ∧ w'.cell? ⟨gb205, 1, none⟩ = some (.slice A204_1 ((zAo l0 x21_1).f1).length c204_1) ∧ w'.cell? ⟨gb207, 0, none⟩ = some (.string ((zAo l0 x27_2).f0)) ∧ w'.cell? ⟨gb207, 1, none⟩ = some (.slice A206_1 ((zAo l0 x27_2).f1).length c206_1) ∧ w'.cell? (ad204.add ((x10_2).toNat * 2)) = some (.string ((zAo l0 x10_2).f0)) ∧ w'.cell? ⟨(ad204.add ((x10_2).toNat * 2)).block, (ad204.add ((x10_2).toNat * 2)).off + 1, none⟩ = some (.slice A209_1 ((zAo l0 x10_2).f1).length c209_1)) (ds := []) #[false, false, false, false, false, false, false, false, false, false, false, false, false, false, false, false, false, false, false] (by kernel_rfl) rfl rfl ⟨(zA7 BK205.out 0).trans rfl, (zA7 BK205.out 1).trans rfl, (zA7 BK207.out 0).trans rfl, (zA7 BK207.out 1).trans rfl, ((HB.out.cell (World.block_lt_of_cell? w _ hw209_0)).trans hw209_0), ((HB.out.cell (World.block_lt_of_cell? w _ hw209_1)).trans hw209_1)⟩ (fun hHeld => ?_); refine with_tabW zAm.tab12 zAm.bits12 (fun HT_ HW_ => ?_)
           generalize w29.drew = w30 at HO_7 BK205 BK207 HB HR209_1 hx209_0 hx209_1 hHeld ⊢
           refine take_ (i := 0) (N := some 32) (v := ?_) (a' := ?_) #[true, false, false, false, false, false, false, false, false, false, false, false, false, false, false, false, false, false, false] rfl rfl (zC0 HT_.out HW_.out (by kernel_rfl)) (fun _ _ _ h => h) (Or.inl ⟨by rfl, ?_⟩) hHeld ?_ ?_
           rotate_left
           ·rintro w' ⟨s0, s1, s2, s3, s4, s5⟩
            go_simp
            with_reducible rfl
           rotate_left
           ·simp only [Act.put, List.setIfInBounds_toArray, List.set_cons_zero, List.set_cons_succ, i64_w, i32_w]
            rfl
           refine take_ (i := 1) (N := some 33) (v := ?_) (a' := ?_) #[true, true, false, false, false, false, false, false, false, false, false, false, false, false, false, false, false, false, false] rfl rfl (zC0 HT_.out HW_.out (by kernel_rfl)) (fun _ _ _ h => h) (Or.inl ⟨by rfl, ?_⟩) hHeld ?_ ?_
           rotate_left
           ·rintro w' ⟨s0, s1, s2, s3, s4, s5⟩
            go_simp
            with_reducible rfl
           rotate_left
           ·simp only [Act.put, List.setIfInBounds_toArray, List.set_cons_zero, List.set_cons_succ, i64_w, i32_w]
            rfl
           refine one_ (i := 2) (N := some 34) #[true, true, true, false, false, false, false, false, false, false, false, false, false, false, false, false, false, false, false] rfl rfl (one_of HT_.out (by kernel_rfl)) (by decide) (fun K hK => ?_)
           refine goes_ Tryz.func48 (by kernel_rfl) rfl #[.agg #[.string ((zAo l0 x21_1).f0), .slice A204_1 ((zAo l0 x21_1).f1).length c204_1], .agg #[.string ((zAo l0 x27_2).f0), .slice A206_1 ((zAo l0 x27_2).f1).length c206_1]] (by rfl) rfl rfl (by (try simp only [List.map_toArray, List.map_cons, List.map_nil]); first | done | rfl | (simp only [List.length_drop, List.length_take]; rfl)) ?_
           with_reducible refine (zC9.calls k2 ((zAo l0 x21_1).f0) _ _ ((zAo l0 x21_1).f1) ((zAo l0 x27_2).f0) _ _ ((zAo l0 x27_2).f1) true _ ?side1 ?side2 ?side3 ?side4 A14.out).mono ?_
           (case side1 => repeat (first | exact (Kd.zAk HR204_1.out HB.out) | (with_reducible refine Kd.zAj ?_ _) | (with_reducible refine Kd.zAs ?_ _) | (with_reducible refine Kd.zB2 ?_)))
           (case side2 => exact HC204_1.out)
           (case side3 => repeat (first | exact (Kd.zAk HR206_1.out HB.out) | (with_reducible refine Kd.zAj ?_ _) | (with_reducible refine Kd.zAs ?_ _) | (with_reducible refine Kd.zB2 ?_)))
           (case side4 => exact HC206_1.out)
           rintro e w31 ⟨rfl, hb⟩
           refine ⟨_, rfl, ?_⟩
           have n0_ := zA2.mk (Kd.R_below (by (with_reducible repeat (first | apply Kd.zB6 | apply Kd.zB5 | apply Kd.zBf)); exact HO_7.out) hb)
           have n1_ := zA2.mk (zAl (g := gb205) (o := .cells #[.string ((zAo l0 x21_1).f0), .slice A204_1 ((zAo l0 x21_1).f1).length c204_1] 60 (0, 0)) (by (with_reducible repeat (first | refine zA6 ?_ _ | refine zA8 ?_ | refine zA5 ?_ _)); exact BK205.out) hb)
           have n2_ := zA2.mk (zAl (g := gb207) (o := .cells #[.string ((zAo l0 x27_2).f0), .slice A206_1 ((zAo l0 x27_2).f1).length c206_1] 60 (0, 0)) (by (with_reducible repeat (first | refine zA6 ?_ _ | refine zA8 ?_ | refine zA5 ?_ _)); exact BK207.out) hb)
           have n3_ := zA2.mk (zAe (by repeat (first | (with_reducible first | exact HB.out | apply zA1 | apply zA0 | apply zA3 | refine zA4 ?_ GE205.out | refine zA4 ?_ GE207.out) | exact HB.out)) hb)
           clear HO_7
           clear BK205
           clear BK207
           clear HB
           have HO_7 := n0_
           have BK205 := n1_
           have BK207 := n2_
           have HB := n3_
           clear n0_ n1_ n2_ n3_
           (try clear hb)
           (try clear hb2)
           (try clear hk)
           (try clear hi)
           refine hK.out _ _ ⟨(zA7 BK205.out 0).trans rfl, (zA7 BK205.out 1).trans rfl, (zA7 BK207.out 0).trans rfl, (zA7 BK207.out 1).trans rfl, ((HB.out.cell (World.block_lt_of_cell? w _ hw209_0)).trans hw209_0), ((HB.out.cell (World.block_lt_of_cell? w _ hw209_1)).trans hw209_1)⟩ (fun hHeld => ?_)
           clear hK K
           refine norm_ (a' := ?_) ?_ ?_
           rotate_left
           ·show Act.put _ (some 34) _ = _
            simp only [Act.put, List.setIfInBounds_toArray, List.set_cons_zero, List.set_cons_succ, i64_w, i32_w]
            rfl
           refine pure_ (i := 3) (N := some 35) (v := ?_) (a' := ?_) #[true, true, true, true, false, false, false, false, false, false, false, false, false, false, false, false, false, false, false] rfl rfl (zBe HT_.out (by kernel_rfl)) (fun _ _ _ h => h) (Or.inl ⟨by rfl, ?_⟩) ?_ ?_
           rotate_left
           ·intro w'
            go_simp
            with_reducible rfl
           rotate_left
           ·simp only [Act.put, List.setIfInBounds_toArray, List.set_cons_zero, List.set_cons_succ, i64_w, i32_w]
            rfl
           refine pure_ (i := 4) (N := some 36) (v := ?_) (a' := ?_) #[true, true, true, true, true, false, false, false, false, false, false, false, false, false, false, false, false, false, false] rfl rfl (zBe HT_.out (by kernel_rfl)) (fun _ _ _ h => h) (Or.inl ⟨by rfl, ?_⟩) ?_ ?_
           rotate_left
           ·intro w'
            go_simp
            with_reducible rfl
           rotate_left
           ·simp only [Act.put, List.setIfInBounds_toArray, List.set_cons_zero, List.set_cons_succ, i64_w, i32_w]
            rfl
           refine pure_ (i := 5) (N := some 37) (v := ?_) (a' := ?_) #[true, true, true, true, true, true, false, false, false, false, false, false, false, false, false, false, false, false, false] rfl rfl (zBe HT_.out (by kernel_rfl)) (fun _ _ _ h => h) (Or.inl ⟨by rfl, ?_⟩) ?_ ?_
           rotate_left
           ·intro w'
            go_simp
            with_reducible rfl
           rotate_left
           ·simp only [Act.put, List.setIfInBounds_toArray, List.set_cons_zero, List.set_cons_succ, i64_w, i32_w]
            rfl
           refine pure_ (i := 6) (N := some 38) (v := ?_) (a' := ?_) #[true, true, true, true, true, true, true, false, false, false, false, false, false, false, false, false, false, false, false] rfl rfl (zBe HT_.out (by kernel_rfl)) (fun _ _ _ h => h) (Or.inl ⟨by rfl, ?_⟩) ?_ ?_
           rotate_left
           ·intro w'
            go_simp
            with_reducible rfl
           rotate_left
           ·simp only [Act.put, List.setIfInBounds_toArray, List.set_cons_zero, List.set_cons_succ, i64_w, i32_w]
            rfl
           refine pure_ (i := 7) (N := some 39) (v := ?_) (a' := ?_) #[true, true, true, true, true, true, true, true, false, false, false, false, false, false, false, false, false, false, false] rfl rfl (zBe HT_.out (by kernel_rfl)) (fun _ _ _ h => h) (Or.inl ⟨by rfl, ?_⟩) ?_ ?_
           rotate_left
           ·intro w'
            go_simp
            with_reducible rfl
           rotate_left
           ·simp only [Act.put, List.setIfInBounds_toArray, List.set_cons_zero, List.set_cons_succ, i64_w, i32_w]
            rfl
           refine pure_ (i := 10) (N := some 42) (v := ?_) (a' := ?_) #[true, true, true, true, true, true, true, true, false, false, true, false, false, false, false, false, false, false, false] rfl rfl (zBe HT_.out (by kernel_rfl)) (fun _ _ _ h => h) (Or.inl ⟨by rfl, ?_⟩) ?_ ?_
           rotate_left
           ·intro w'
            go_simp
            with_reducible rfl
           rotate_left
           ·simp only [Act.put, List.setIfInBounds_toArray, List.set_cons_zero, List.set_cons_succ, i64_w, i32_w]
            rfl
           refine pure_ (i := 11) (N := some 43) (v := ?_) (a' := ?_) #[true, true, true, true, true, true, true, true, false, false, true, true, false, false, false, false, false, false, false] rfl rfl (zBe HT_.out (by kernel_rfl)) (fun _ _ _ h => h) (Or.inl ⟨by rfl, ?_⟩) ?_ ?_
           rotate_left
           ·intro w'
            go_simp
            with_reducible rfl
           rotate_left
           ·simp only [Act.put, List.setIfInBounds_toArray, List.set_cons_zero, List.set_cons_succ, i64_w, i32_w]
            rfl
           refine pure_ (i := 12) (N := some 44) (v := ?_) (a' := ?_) #[true, true, true, true, true, true, true, true, false, false, true, true, true, false, false, false, false, false, false] rfl rfl (zBe HT_.out (by kernel_rfl)) (fun _ _ _ h => h) (Or.inl ⟨by rfl, ?_⟩) ?_ ?_
           rotate_left
           ·intro w'
            go_simp
            with_reducible rfl
           rotate_left
           ·simp only [Act.put, List.setIfInBounds_toArray, List.set_cons_zero, List.set_cons_succ, i64_w, i32_w]
            rfl
           refine pure_ (i := 13) (N := some 45) (v := ?_) (a' := ?_) #[true, true, true, true, true, true, true, true, false, false, true, true, true, true, false, false, false, false, false] rfl rfl (zBe HT_.out (by kernel_rfl)) (fun _ _ _ h => h) (Or.inl ⟨by rfl, ?_⟩) ?_ ?_
           rotate_left
           ·intro w'
            go_simp
            with_reducible rfl
           rotate_left
           ·simp only [Act.put, List.setIfInBounds_toArray, List.set_cons_zero, List.set_cons_succ, i64_w, i32_w]
            rfl
           refine take_ (i := 8) (N := some 40) (v := ?_) (a' := ?_) #[true, true, true, true, true, true, true, true, true, false, true, true, true, true, false, false, false, false, false] rfl rfl (zC0 HT_.out HW_.out (by kernel_rfl)) (fun _ _ _ h => h) (Or.inl ⟨by rfl, ?_⟩) hHeld ?_ ?_
           rotate_left
           ·rintro w' ⟨s0, s1, s2, s3, s4, s5⟩
            go_simp
            with_reducible rfl
           rotate_left
           ·simp only [Act.put, List.setIfInBounds_toArray, List.set_cons_zero, List.set_cons_succ, i64_w, i32_w]
            rfl
           refine pure_ (i := 9) (N := some 41) (v := ?_) (a' := ?_) #[true, true, true, true, true, true, true, true, true, true, true, true, true, true, false, false, false, false, false] rfl rfl (zBe HT_.out (by kernel_rfl)) (fun _ _ _ h => h) (Or.inl ⟨by rfl, ?_⟩) ?_ ?_
           rotate_left
           ·intro w'
            go_simp
            with_reducible rfl
           rotate_left
           ·simp only [Act.put, List.setIfInBounds_toArray, List.set_cons_zero, List.set_cons_succ, i64_w, i32_w]
            rfl
           refine take_ (i := 14) (N := some 46) (v := ?_) (a' := ?_) #[true, true, true, true, true, true, true, true, true, true, true, true, true, true, true, false, false, false, false] rfl rfl (zC0 HT_.out HW_.out (by kernel_rfl)) (fun _ _ _ h => h) (Or.inl ⟨by rfl, ?_⟩) hHeld ?_ ?_
           rotate_left
           ·rintro w' ⟨s0, s1, s2, s3, s4, s5⟩
            go_simp
            with_reducible rfl
           rotate_left
           ·simp only [Act.put, List.setIfInBounds_toArray, List.set_cons_zero, List.set_cons_succ, i64_w, i32_w]
            rfl
           refine pure_ (i := 15) (N := some 47) (v := ?_) (a' := ?_) #[true, true, true, true, true, true, true, true, true, true, true, true, true, true, true, true, false, false, false] rfl rfl (zBe HT_.out (by kernel_rfl)) (fun _ _ _ h => h) (Or.inl ⟨by rfl, ?_⟩) ?_ ?_
           rotate_left
           ·intro w'
            go_simp
            with_reducible rfl
           rotate_left
           ·simp only [Act.put, List.setIfInBounds_toArray, List.set_cons_zero, List.set_cons_succ, i64_w, i32_w]
            rfl
           refine pure_ (i := 16) (N := some 48) (v := ?_) (a' := ?_) #[true, true, true, true, true, true, true, true, true, true, true, true, true, true, true, true, true, false, false] rfl rfl (zBe HT_.out (by kernel_rfl)) (fun _ _ _ h => h) (Or.inl ⟨by rfl, ?_⟩) ?_ ?_
           rotate_left
           ·intro w'
            go_simp
            with_reducible rfl
           rotate_left
           ·simp only [Act.put, List.setIfInBounds_toArray, List.set_cons_zero, List.set_cons_succ, i64_w, i32_w]
            rfl
           refine pure_ (i := 17) (N := some 49) (v := ?_) (a' := ?_) #[true, true, true, true, true, true, true, true, true, true, true, true, true, true, true, true, true, true, false] rfl rfl (zBe HT_.out (by kernel_rfl)) (fun _ _ _ h => h) (Or.inl ⟨by rfl, ?_⟩) ?_ ?_
           rotate_left
           ·intro w'
            go_simp
            with_reducible rfl
           rotate_left
           ·simp only [Act.put, List.setIfInBounds_toArray, List.set_cons_zero, List.set_cons_succ, i64_w, i32_w]
            rfl
           refine pure_ (i := 18) (N := some 50) (v := ?_) (a' := ?_) #[true, true, true, true, true, true, true, true, true, true, true, true, true, true, true, true, true, true, true] rfl rfl (zBe HT_.out (by kernel_rfl)) (fun _ _ _ h => h) (Or.inl ⟨by rfl, ?_⟩) ?_ ?_
           rotate_left
           ·intro w'
            go_simp
            with_reducible rfl
           rotate_left
           ·simp only [Act.put, List.setIfInBounds_toArray, List.set_cons_zero, List.set_cons_succ, i64_w, i32_w]
            rfl
           refine done_ (done_of HT_.out (by kernel_rfl)) ?_
           try go_wp2
           go_roundg k2
           case measure => have := HK1.out; have := HK2.out; omega
           case rel => exact ⟨(x27_2), (wrap64 (x27_2 + 1)), (by first | rfl | (simp; done) | (simp [*]; done)), (by first | rfl | (simp; done) | (simp [*]; done)), H', ⟨by have := HK1.out; have := HK2.out; omega⟩, ⟨by (with_reducible repeat (first | apply Kd.zB6 | apply Kd.zB5 | apply Kd.zBf)); exact HO_7.out⟩, ⟨by (with_reducible repeat (first | refine zA6 ?_ _ | refine zA8 ?_ | refine zA5 ?_ _)); exact BK205.out⟩, ⟨by repeat (first | (with_reducible first | exact HB.out | apply zA1 | apply zA0 | apply zA3 | refine zA4 ?_ GE205.out | refine zA4 ?_ GE207.out) | exact HB.out)⟩⟩
          ·rw [if_neg c25] at H
           have c25b0 : decide ((((zAo l0 x27_2).f1).length : Int) < (((zAo l0 x10_2).f1).length : Int)) = false := decide_eq_false c25
           have c25b1 : decide (((zAo l0 x27_2).f1).length < ((zAo l0 x10_2).f1).length) = false := decide_eq_false (fun h => c25 (Int.ofNat_lt.mpr h))
           clear c25
           have H' := zA2.mk H
           clear H
           have p206 : 0 ≤ (x27_2 : Int) := of_decide_eq_true (by first | (with_reducible assumption) | assumption)
           have q206 : x27_2 < (l0.length : Int) := of_decide_eq_true (by first | (with_reducible assumption) | assumption)
           obtain ⟨ad206, A206_1, c206_1, e206, hx206_0, hx206_1, hl206_1, hi206_1⟩ := at_T60 HR0.out x27_2 p206 q206
           obtain rfl : ad204 = ad206 := (by injection e206)
           replace hx206_0 := (HB.out.cell (World.block_lt_of_cell? w _ hx206_0)).trans hx206_0
           replace hx206_1 := (HB.out.cell (World.block_lt_of_cell? w _ hx206_1)).trans hx206_1
           have HR206_1 := zA2.mk hi206_1
           have HC206_1 := zA2.mk hl206_1
           clear hi206_1 hl206_1
           replace p206 := eq_true p206
           replace q206 := eq_true q206
           try go_wp2_with (first | ((with_reducible refine zBl (N := 12) rfl ?_); (try (refine gate_guard (by rfl) ?_; dsimp only)); refine zBj ?hg (N := 12) ?hd (cs := #[.string (⟨#[]⟩ : ByteArray), .slice none 0 0]) (t := 60) ?hr ?_; (case hd => rfl); (case hg => rfl); (case hr => first | (go_simp; done) | (go_simp; rfl)); intro gb207 hg w32 hbox hb; have n0_ := zA2.mk (Kd.R_below (by (with_reducible repeat (first | apply Kd.zB6 | apply Kd.zB5 | apply Kd.zBf)); exact HO_7.out) hb); have n1_ := zA2.mk (zAl (g := gb205) (o := .cells #[.string ((zAo l0 x21_1).f0), .slice A204_1 ((zAo l0 x21_1).f1).length c204_1] 60 (0, 0)) (by (with_reducible repeat (first | refine zA6 ?_ _ | refine zA8 ?_ | refine zA5 ?_ _)); exact BK205.out) hb); have n2_ := zA2.mk (zAe (by repeat (first | (with_reducible first | exact HB.out | apply zA1 | apply zA0 | apply zA3 | refine zA4 ?_ GE205.out) | exact HB.out)) hb); have n3_ := zA2.mk (hbox); have n4_ := zA2.mk ((by rw [hg]; exact (zAb (by repeat (first | (with_reducible first | exact HB.out | apply zA1 | apply zA0 | apply zA3 | refine zA4 ?_ GE205.out) | exact HB.out))) : w.heap.size ≤ gb207)); have n5_ := zA2.mk ((by rw [hg]; exact (zAb (by repeat (first | (with_reducible first | exact HB.out | apply zA1 | apply zA0 | apply zA3 | refine zA4 ?_ GE205.out) | exact HB.out))) : w.heap.size ≤ gb207)); have n6_ := zA2.mk ((by rw [hg]; exact Nat.ne_of_lt (zC8 (g := gb205) (o := .cells #[.string ((zAo l0 x21_1).f0), .slice A204_1 ((zAo l0 x21_1).f1).length c204_1] 60 (0, 0)) (by (with_reducible repeat (first | refine zA6 ?_ _ | refine zA8 ?_ | refine zA5 ?_ _)); exact BK205.out)) : gb205 ≠ gb207)); have n7_ := zA2.mk ((by rw [hg]; exact Nat.ne_of_gt (zC8 (g := gb205) (o := .cells #[.string ((zAo l0 x21_1).f0), .slice A204_1 ((zAo l0 x21_1).f1).length c204_1] 60 (0, 0)) (by (with_reducible repeat (first | refine zA6 ?_ _ | refine zA8 ?_ | refine zA5 ?_ _)); exact BK205.out)) : gb207 ≠ gb205)); clear HO_7; clear BK205; clear HB; have HO_7 := n0_; have BK205 := n1_; have HB := n2_; have BK207 := n3_; have GW207 := n4_; have GE207 := n5_; have NB205_207 := n6_; have NB207_205 := n7_; clear n0_ n1_ n2_ n3_ n4_ n5_ n6_ n7_; clear hb hbox hg; have hnb33 := NB207_205.out; have hnc33 := NB205_207.out; have hcz34_0 : w32.cell? ⟨gb207, 0, none⟩ = some (.string (⟨#[]⟩ : ByteArray)) := (zA7 BK207.out 0).trans rfl; have hcz34_1 : w32.cell? ⟨gb207, 1, none⟩ = some (.slice none 0 0) := (zA7 BK207.out 1).trans rfl; have hfz34_0 := zA9 BK207.out 0; have hfz34_1 := zA9 BK207.out 1))
           have n0_ : zA2 (Kd.R (Kd.int .i64) 3 ((w32.setCell ⟨gb207, 0, none⟩ (.string ((zAo l0 x27_2).f0))).setCell ⟨gb207, 1, none⟩ (.slice A206_1 ((zAo l0 x27_2).f1).length c206_1)) w.heap.size (fun _ => True) u7 x7_1) := ⟨by (with_reducible repeat (first | apply Kd.zB6 | apply Kd.zB5 | apply Kd.zBf)); exact Kd.R_mono (Kd.R_far (p := ⟨gb207, 1, none⟩) (Kd.R_far (p := ⟨gb207, 0, none⟩) (Kd.R_types HO_7.out BK207.out (by decide)) (fun _ hk => hk.2) (.string ((zAo l0 x27_2).f0))) (fun _ hk => hk.2) (.slice A206_1 ((zAo l0 x27_2).f1).length c206_1)) (fun _ hk => trivial)⟩
           have n1_ : zA2 (((w32.setCell ⟨gb207, 0, none⟩ (.string ((zAo l0 x27_2).f0))).setCell ⟨gb207, 1, none⟩ (.slice A206_1 ((zAo l0 x27_2).f1).length c206_1)).heap[gb205]? = some (.cells #[.string ((zAo l0 x21_1).f0), .slice A204_1 ((zAo l0 x21_1).f1).length c204_1] 60 (0, 0))) := ⟨by (with_reducible repeat (first | refine zA6 ?_ _ | refine zA8 ?_ | refine zA5 ?_ _)); refine blk_far ?_ NB205_207.out _; (with_reducible repeat (first | refine zA6 ?_ _ | refine zA8 ?_ | refine zA5 ?_ _)); refine blk_far ?_ NB205_207.out _; (with_reducible repeat (first | refine zA6 ?_ _ | refine zA8 ?_ | refine zA5 ?_ _)); exact BK205.out⟩
           have n2_ : zA2 (((w32.setCell ⟨gb207, 0, none⟩ (.string ((zAo l0 x27_2).f0))).setCell ⟨gb207, 1, none⟩ (.slice A206_1 ((zAo l0 x27_2).f1).length c206_1)).heap[gb207]? = some (.cells #[.string ((zAo l0 x27_2).f0), .slice A206_1 ((zAo l0 x27_2).f1).length c206_1] 60 (0, 0))) := ⟨by (with_reducible repeat (first | refine zA6 ?_ _ | refine zA8 ?_ | refine zA5 ?_ _)); refine blk_put (cs := #[.string ((zAo l0 x27_2).f0), .slice none 0 0]) ?_ 1 _ rfl; (with_reducible repeat (first | refine zA6 ?_ _ | refine zA8 ?_ | refine zA5 ?_ _)); refine blk_put (cs := #[.string (⟨#[]⟩ : ByteArray), .slice none 0 0]) ?_ 0 _ rfl; (with_reducible repeat (first | refine zA6 ?_ _ | refine zA8 ?_ | refine zA5 ?_ _)); exact BK207.out⟩
           have n3_ : zA2 (Below w.heap.size w ((w32.setCell ⟨gb207, 0, none⟩ (.string ((zAo l0 x27_2).f0))).setCell ⟨gb207, 1, none⟩ (.slice A206_1 ((zAo l0 x27_2).f1).length c206_1))) := ⟨by repeat (first | (with_reducible first | exact HB.out | apply zA1 | apply zA0 | apply zA3 | refine zA4 ?_ GE205.out | refine zA4 ?_ GE207.out) | exact HB.out)⟩
           (try clear HO_7)
           (try clear BK205)
           (try clear BK207)
           (try clear HB)
           generalize ((w32.setCell ⟨gb207, 0, none⟩ (.string ((zAo l0 x27_2).f0))).setCell ⟨gb207, 1, none⟩ (.slice A206_1 ((zAo l0 x27_2).f1).length c206_1)) = w35 at n0_ n1_ n2_ n3_ ⊢
           have HO_7 := n0_
           have BK205 := n1_
           have BK207 := n2_
           have HB := n3_
           clear n0_ n1_ n2_ n3_
           have n0_ := zA2.mk (Kd.zBf HO_7.out)
           have n1_ := zA2.mk (zA8 BK205.out)
           have n2_ := zA2.mk (zA8 BK207.out)
           have n3_ := zA2.mk (zA3 HB.out)
           clear HO_7
           clear BK205
           clear BK207
           clear HB
           have HO_7 := n0_
           have BK205 := n1_
           have BK207 := n2_
           have HB := n3_
           clear n0_ n1_ n2_ n3_
           have p209 : 0 ≤ (x10_2 : Int) := of_decide_eq_true (by first | (with_reducible assumption) | assumption)
           have q209 : x10_2 < (l0.length : Int) := of_decide_eq_true (by first | (with_reducible assumption) | assumption)
           obtain ⟨ad209, A209_1, c209_1, e209, hx209_0, hx209_1, hl209_1, hi209_1⟩ := at_T60 HR0.out x10_2 p209 q209
           have hw209_1 := hx209_1
           have hw209_0 := hx209_0
           obtain rfl : ad204 = ad209 := (by injection e209)
           replace hx209_0 := (HB.out.cell (World.block_lt_of_cell? w _ hx209_0)).trans hx209_0
           replace hx209_1 := (HB.out.cell (World.block_lt_of_cell? w _ hx209_1)).trans hx209_1
           have HR209_1 := zA2.mk hi209_1
           have HC209_1 := zA2.mk hl209_1
           clear hi209_1 hl209_1
           replace p209 := eq_true p209
           replace q209 := eq_true q209
           refine start_ (n := 19) (S := fun w' => w'.cell? ⟨gb205, 0, none⟩ = some (.string ((zAo l0 x21_1).f0)) ∧ w'.cell? ⟨gb205, 1, none⟩ = some (.slice A204_1 ((zAo l0 x21_1).f1).length c204_1) ∧ w'.cell? ⟨gb207, 0, none⟩ = some (.string ((zAo l0 x27_2).f0)) ∧ w'.cell? ⟨gb207, 1, none⟩ = some (.slice A206_1 ((zAo l0 x27_2).f1).length c206_1) ∧ w'.cell? (ad204.add ((x10_2).toNat * 2)) = some (.string ((zAo l0 x10_2).f0)) ∧ w'.cell? ⟨(ad204.add ((x10_2).toNat * 2)).block, (ad204.add ((x10_2).toNat * 2)).off + 1, none⟩ = some (.slice A209_1 ((zAo l0 x10_2).f1).length c209_1)) (ds := []) #[false, false, false, false, false, false, false, false, false, false, false, false, false, false, false, false, false, false, false] (by kernel_rfl) rfl rfl ⟨(zA7 BK205.out 0).trans rfl, (zA7 BK205.out 1).trans rfl, (zA7 BK207.out 0).trans rfl, (zA7 BK207.out 1).trans rfl, ((HB.out.cell (World.block_lt_of_cell? w _ hw209_0)).trans hw209_0), ((HB.out.cell (World.block_lt_of_cell? w _ hw209_1)).trans hw209_1)⟩ (fun hHeld => ?_); refine with_tabW zAm.tab12 zAm.bits12 (fun HT_ HW_ => ?_)
           generalize w35.drew = w36 at HO_7 BK205 BK207 HB HR209_1 hx209_0 hx209_1 hHeld ⊢
           refine take_ (i := 0) (N := some 32) (v := ?_) (a' := ?_) #[true, false, false, false, false, false, false, false, false, false, false, false, false, false, false, false, false, false, false] rfl rfl (zC0 HT_.out HW_.out (by kernel_rfl)) (fun _ _ _ h => h) (Or.inl ⟨by rfl, ?_⟩) hHeld ?_ ?_
           rotate_left
           ·rintro w' ⟨s0, s1, s2, s3, s4, s5⟩
            go_simp
            with_reducible rfl
           rotate_left
           ·simp only [Act.put, List.setIfInBounds_toArray, List.set_cons_zero, List.set_cons_succ, i64_w, i32_w]
            rfl
           refine take_ (i := 1) (N := some 33) (v := ?_) (a' := ?_) #[true, true, false, false, false, false, false, false, false, false, false, false, false, false, false, false, false, false, false] rfl rfl (zC0 HT_.out HW_.out (by kernel_rfl)) (fun _ _ _ h => h) (Or.inl ⟨by rfl, ?_⟩) hHeld ?_ ?_
           rotate_left
           ·rintro w' ⟨s0, s1, s2, s3, s4, s5⟩
            go_simp
            with_reducible rfl
           rotate_left
           ·simp only [Act.put, List.setIfInBounds_toArray, List.set_cons_zero, List.set_cons_succ, i64_w, i32_w]
            rfl
           refine one_ (i := 2) (N := some 34) #[true, true, true, false, false, false, false, false, false, false, false, false, false, false, false, false, false, false, false] rfl rfl (one_of HT_.out (by kernel_rfl)) (by decide) (fun K hK => ?_)
           refine goes_ Tryz.func48 (by kernel_rfl) rfl #[.agg #[.string ((zAo l0 x21_1).f0), .slice A204_1 ((zAo l0 x21_1).f1).length c204_1], .agg #[.string ((zAo l0 x27_2).f0), .slice A206_1 ((zAo l0 x27_2).f1).length c206_1]] (by rfl) rfl rfl (by (try simp only [List.map_toArray, List.map_cons, List.map_nil]); first | done | rfl | (simp only [List.length_drop, List.length_take]; rfl)) ?_
           with_reducible refine (zC9.calls k2 ((zAo l0 x21_1).f0) _ _ ((zAo l0 x21_1).f1) ((zAo l0 x27_2).f0) _ _ ((zAo l0 x27_2).f1) true _ ?side1 ?side2 ?side3 ?side4 A14.out).mono ?_
           (case side1 => repeat (first | exact (Kd.zAk HR204_1.out HB.out) | (with_reducible refine Kd.zAj ?_ _) | (with_reducible refine Kd.zAs ?_ _) | (with_reducible refine Kd.zB2 ?_)))
           (case side2 => exact HC204_1.out)
           (case side3 => repeat (first | exact (Kd.zAk HR206_1.out HB.out) | (with_reducible refine Kd.zAj ?_ _) | (with_reducible refine Kd.zAs ?_ _) | (with_reducible refine Kd.zB2 ?_)))
           (case side4 => exact HC206_1.out)
           rintro e w37 ⟨rfl, hb⟩
           refine ⟨_, rfl, ?_⟩
           have n0_ := zA2.mk (Kd.R_below (by (with_reducible repeat (first | apply Kd.zB6 | apply Kd.zB5 | apply Kd.zBf)); exact HO_7.out) hb)
           have n1_ := zA2.mk (zAl (g := gb205) (o := .cells #[.string ((zAo l0 x21_1).f0), .slice A204_1 ((zAo l0 x21_1).f1).length c204_1] 60 (0, 0)) (by (with_reducible repeat (first | refine zA6 ?_ _ | refine zA8 ?_ | refine zA5 ?_ _)); exact BK205.out) hb)
           have n2_ := zA2.mk (zAl (g := gb207) (o := .cells #[.string ((zAo l0 x27_2).f0), .slice A206_1 ((zAo l0 x27_2).f1).length c206_1] 60 (0, 0)) (by (with_reducible repeat (first | refine zA6 ?_ _ | refine zA8 ?_ | refine zA5 ?_ _)); exact BK207.out) hb)
           have n3_ := zA2.mk (zAe (by repeat (first | (with_reducible first | exact HB.out | apply zA1 | apply zA0 | apply zA3 | refine zA4 ?_ GE205.out | refine zA4 ?_ GE207.out) | exact HB.out)) hb)
           clear HO_7
           clear BK205
           clear BK207
           clear HB
           have HO_7 := n0_
           have BK205 := n1_
           have BK207 := n2_
           have HB := n3_
           clear n0_ n1_ n2_ n3_
           (try clear hb)
           (try clear hb2)
           (try clear hk)
           (try clear hi)
           refine hK.out _ _ ⟨(zA7 BK205.out 0).trans rfl, (zA7 BK205.out 1).trans rfl, (zA7 BK207.out 0).trans rfl, (zA7 BK207.out 1).trans rfl, ((HB.out.cell (World.block_lt_of_cell? w _ hw209_0)).trans hw209_0), ((HB.out.cell (World.block_lt_of_cell? w _ hw209_1)).trans hw209_1)⟩ (fun hHeld => ?_)
           clear hK K
           refine norm_ (a' := ?_) ?_ ?_
           rotate_left
           ·show Act.put _ (some 34) _ = _
            simp only [Act.put, List.setIfInBounds_toArray, List.set_cons_zero, List.set_cons_succ, i64_w, i32_w]
            rfl
           refine pure_ (i := 3) (N := some 35) (v := ?_) (a' := ?_) #[true, true, true, true, false, false, false, false, false, false, false, false, false, false, false, false, false, false, false] rfl rfl (zBe HT_.out (by kernel_rfl)) (fun _ _ _ h => h) (Or.inl ⟨by rfl, ?_⟩) ?_ ?_
           rotate_left
           ·intro w'
            go_simp
            with_reducible rfl
           rotate_left
           ·simp only [Act.put, List.setIfInBounds_toArray, List.set_cons_zero, List.set_cons_succ, i64_w, i32_w]
            rfl
           refine pure_ (i := 4) (N := some 36) (v := ?_) (a' := ?_) #[true, true, true, true, true, false, false, false, false, false, false, false, false, false, false, false, false, false, false] rfl rfl (zBe HT_.out (by kernel_rfl)) (fun _ _ _ h => h) (Or.inl ⟨by rfl, ?_⟩) ?_ ?_
           rotate_left
           ·intro w'
            go_simp
            with_reducible rfl
           rotate_left
           ·simp only [Act.put, List.setIfInBounds_toArray, List.set_cons_zero, List.set_cons_succ, i64_w, i32_w]
            rfl
           refine pure_ (i := 5) (N := some 37) (v := ?_) (a' := ?_) #[true, true, true, true, true, true, false, false, false, false, false, false, false, false, false, false, false, false, false] rfl rfl (zBe HT_.out (by kernel_rfl)) (fun _ _ _ h => h) (Or.inl ⟨by rfl, ?_⟩) ?_ ?_
           rotate_left
           ·intro w'
            go_simp
            with_reducible rfl
           rotate_left
           ·simp only [Act.put, List.setIfInBounds_toArray, List.set_cons_zero, List.set_cons_succ, i64_w, i32_w]
            rfl
           refine pure_ (i := 6) (N := some 38) (v := ?_) (a' := ?_) #[true, true, true, true, true, true, true, false, false, false, false, false, false, false, false, false, false, false, false] rfl rfl (zBe HT_.out (by kernel_rfl)) (fun _ _ _ h => h) (Or.inl ⟨by rfl, ?_⟩) ?_ ?_
           rotate_left
           ·intro w'
            go_simp
            with_reducible rfl
           rotate_left
           ·simp only [Act.put, List.setIfInBounds_toArray, List.set_cons_zero, List.set_cons_succ, i64_w, i32_w]
            rfl
           refine pure_ (i := 7) (N := some 39) (v := ?_) (a' := ?_) #[true, true, true, true, true, true, true, true, false, false, false, false, false, false, false, false, false, false, false] rfl rfl (zBe HT_.out (by kernel_rfl)) (fun _ _ _ h => h) (Or.inl ⟨by rfl, ?_⟩) ?_ ?_
           rotate_left
           ·intro w'
            go_simp
            with_reducible rfl
           rotate_left
           ·simp only [Act.put, List.setIfInBounds_toArray, List.set_cons_zero, List.set_cons_succ, i64_w, i32_w]
            rfl
           refine pure_ (i := 10) (N := some 42) (v := ?_) (a' := ?_) #[true, true, true, true, true, true, true, true, false, false, true, false, false, false, false, false, false, false, false] rfl rfl (zBe HT_.out (by kernel_rfl)) (fun _ _ _ h => h) (Or.inl ⟨by rfl, ?_⟩) ?_ ?_
           rotate_left
           ·intro w'
            go_simp
            with_reducible rfl
           rotate_left
           ·simp only [Act.put, List.setIfInBounds_toArray, List.set_cons_zero, List.set_cons_succ, i64_w, i32_w]
            rfl
           refine pure_ (i := 11) (N := some 43) (v := ?_) (a' := ?_) #[true, true, true, true, true, true, true, true, false, false, true, true, false, false, false, false, false, false, false] rfl rfl (zBe HT_.out (by kernel_rfl)) (fun _ _ _ h => h) (Or.inl ⟨by rfl, ?_⟩) ?_ ?_
           rotate_left
           ·intro w'
            go_simp
            with_reducible rfl
           rotate_left
           ·simp only [Act.put, List.setIfInBounds_toArray, List.set_cons_zero, List.set_cons_succ, i64_w, i32_w]
            rfl
           refine pure_ (i := 12) (N := some 44) (v := ?_) (a' := ?_) #[true, true, true, true, true, true, true, true, false, false, true, true, true, false, false, false, false, false, false] rfl rfl (zBe HT_.out (by kernel_rfl)) (fun _ _ _ h => h) (Or.inl ⟨by rfl, ?_⟩) ?_ ?_
           rotate_left
           ·intro w'
            go_simp
            with_reducible rfl
           rotate_left
           ·simp only [Act.put, List.setIfInBounds_toArray, List.set_cons_zero, List.set_cons_succ, i64_w, i32_w]
            rfl
           refine pure_ (i := 13) (N := some 45) (v := ?_) (a' := ?_) #[true, true, true, true, true, true, true, true, false, false, true, true, true, true, false, false, false, false, false] rfl rfl (zBe HT_.out (by kernel_rfl)) (fun _ _ _ h => h) (Or.inl ⟨by rfl, ?_⟩) ?_ ?_
           rotate_left
           ·intro w'
            go_simp
            with_reducible rfl
           rotate_left
           ·simp only [Act.put, List.setIfInBounds_toArray, List.set_cons_zero, List.set_cons_succ, i64_w, i32_w]
            rfl
           refine take_ (i := 8) (N := some 40) (v := ?_) (a' := ?_) #[true, true, true, true, true, true, true, true, true, false, true, true, true, true, false, false, false, false, false] rfl rfl (zC0 HT_.out HW_.out (by kernel_rfl)) (fun _ _ _ h => h) (Or.inl ⟨by rfl, ?_⟩) hHeld ?_ ?_
           rotate_left
           ·rintro w' ⟨s0, s1, s2, s3, s4, s5⟩
            go_simp
            with_reducible rfl
           rotate_left
           ·simp only [Act.put, List.setIfInBounds_toArray, List.set_cons_zero, List.set_cons_succ, i64_w, i32_w]
            rfl
           refine pure_ (i := 9) (N := some 41) (v := ?_) (a' := ?_) #[true, true, true, true, true, true, true, true, true, true, true, true, true, true, false, false, false, false, false] rfl rfl (zBe HT_.out (by kernel_rfl)) (fun _ _ _ h => h) (Or.inl ⟨by rfl, ?_⟩) ?_ ?_
           rotate_left
           ·intro w'
            go_simp
            with_reducible rfl
           rotate_left
           ·simp only [Act.put, List.setIfInBounds_toArray, List.set_cons_zero, List.set_cons_succ, i64_w, i32_w]
            rfl
           refine take_ (i := 14) (N := some 46) (v := ?_) (a' := ?_) #[true, true, true, true, true, true, true, true, true, true, true, true, true, true, true, false, false, false, false] rfl rfl (zC0 HT_.out HW_.out (by kernel_rfl)) (fun _ _ _ h => h) (Or.inl ⟨by rfl, ?_⟩) hHeld ?_ ?_
           rotate_left
           ·rintro w' ⟨s0, s1, s2, s3, s4, s5⟩
            go_simp
            with_reducible rfl
           rotate_left
           ·simp only [Act.put, List.setIfInBounds_toArray, List.set_cons_zero, List.set_cons_succ, i64_w, i32_w]
            rfl
           refine pure_ (i := 15) (N := some 47) (v := ?_) (a' := ?_) #[true, true, true, true, true, true, true, true, true, true, true, true, true, true, true, true, false, false, false] rfl rfl (zBe HT_.out (by kernel_rfl)) (fun _ _ _ h => h) (Or.inl ⟨by rfl, ?_⟩) ?_ ?_
           rotate_left
           ·intro w'
            go_simp
            with_reducible rfl
           rotate_left
           ·simp only [Act.put, List.setIfInBounds_toArray, List.set_cons_zero, List.set_cons_succ, i64_w, i32_w]
            rfl
           refine pure_ (i := 16) (N := some 48) (v := ?_) (a' := ?_) #[true, true, true, true, true, true, true, true, true, true, true, true, true, true, true, true, true, false, false] rfl rfl (zBe HT_.out (by kernel_rfl)) (fun _ _ _ h => h) (Or.inl ⟨by rfl, ?_⟩) ?_ ?_
           rotate_left
           ·intro w'
            go_simp
            with_reducible rfl
           rotate_left
           ·simp only [Act.put, List.setIfInBounds_toArray, List.set_cons_zero, List.set_cons_succ, i64_w, i32_w]
            rfl
           refine pure_ (i := 17) (N := some 49) (v := ?_) (a' := ?_) #[true, true, true, true, true, true, true, true, true, true, true, true, true, true, true, true, true, true, false] rfl rfl (zBe HT_.out (by kernel_rfl)) (fun _ _ _ h => h) (Or.inl ⟨by rfl, ?_⟩) ?_ ?_
           rotate_left
           ·intro w'
            go_simp
            with_reducible rfl
           rotate_left
           ·simp only [Act.put, List.setIfInBounds_toArray, List.set_cons_zero, List.set_cons_succ, i64_w, i32_w]
            rfl
           refine pure_ (i := 18) (N := some 50) (v := ?_) (a' := ?_) #[true, true, true, true, true, true, true, true, true, true, true, true, true, true, true, true, true, true, true] rfl rfl (zBe HT_.out (by kernel_rfl)) (fun _ _ _ h => h) (Or.inl ⟨by rfl, ?_⟩) ?_ ?_
           rotate_left
           ·intro w'
            go_simp
            with_reducible rfl
           rotate_left
           ·simp only [Act.put, List.setIfInBounds_toArray, List.set_cons_zero, List.set_cons_succ, i64_w, i32_w]
            rfl
           refine done_ (done_of HT_.out (by kernel_rfl)) ?_
           try go_wp2
           go_roundg k2
           case measure => have := HK1.out; have := HK2.out; omega
           case rel => exact ⟨(x10_2), (wrap64 (x27_2 + 1)), (by first | rfl | (simp; done) | (simp [*]; done)), (by first | rfl | (simp; done) | (simp [*]; done)), H', ⟨by have := HK1.out; have := HK2.out; omega⟩, ⟨by (with_reducible repeat (first | apply Kd.zB6 | apply Kd.zB5 | apply Kd.zBf)); exact HO_7.out⟩, ⟨by (with_reducible repeat (first | refine zA6 ?_ _ | refine zA8 ?_ | refine zA5 ?_ _)); exact BK205.out⟩, ⟨by repeat (first | (with_reducible first | exact HB.out | apply zA1 | apply zA0 | apply zA3 | refine zA4 ?_ GE205.out | refine zA4 ?_ GE207.out) | exact HB.out)⟩⟩
        ·replace c15 := Bool.eq_false_iff.mpr c15
         subst c15
         have H1 : (zAm.l1 k2 l0 x7_1 x10_2 l0 (l0.length : Int) x21_1 l0 (l0.length : Int) (wrap64 (x27_2 + 1)) ((zAo l0 x21_1).f0) ((zAo l0 x21_1).f1)) = some (r1, r2) := by rw [if_neg (show ¬ (false = true) by decide)] at H; exact H
         clear H
         have H := H1
         clear H1
         have H' := zA2.mk H
         clear H
         have p206 : 0 ≤ (x27_2 : Int) := of_decide_eq_true (by first | (with_reducible assumption) | assumption)
         have q206 : x27_2 < (l0.length : Int) := of_decide_eq_true (by first | (with_reducible assumption) | assumption)
         obtain ⟨ad206, A206_1, c206_1, e206, hx206_0, hx206_1, hl206_1, hi206_1⟩ := at_T60 HR0.out x27_2 p206 q206
         obtain rfl : ad204 = ad206 := (by injection e206)
         replace hx206_0 := (HB.out.cell (World.block_lt_of_cell? w _ hx206_0)).trans hx206_0
         replace hx206_1 := (HB.out.cell (World.block_lt_of_cell? w _ hx206_1)).trans hx206_1
         have HR206_1 := zA2.mk hi206_1
         have HC206_1 := zA2.mk hl206_1
         clear hi206_1 hl206_1
         replace p206 := eq_true p206
         replace q206 := eq_true q206
         try go_wp2_with (first | ((with_reducible refine zBl (N := 12) rfl ?_); (try (refine gate_guard (by rfl) ?_; dsimp only)); refine zBj ?hg (N := 12) ?hd (cs := #[.string (⟨#[]⟩ : ByteArray), .slice none 0 0]) (t := 60) ?hr ?_; (case hd => rfl); (case hg => rfl); (case hr => first | (go_simp; done) | (go_simp; rfl)); intro gb207 hg w38 hbox hb; have n0_ := zA2.mk (Kd.R_below (by (with_reducible repeat (first | apply Kd.zB6 | apply Kd.zB5 | apply Kd.zBf)); exact HO_7.out) hb); have n1_ := zA2.mk (zAl (g := gb205) (o := .cells #[.string ((zAo l0 x21_1).f0), .slice A204_1 ((zAo l0 x21_1).f1).length c204_1] 60 (0, 0)) (by (with_reducible repeat (first | refine zA6 ?_ _ | refine zA8 ?_ | refine zA5 ?_ _)); exact BK205.out) hb); have n2_ := zA2.mk (zAe (by repeat (first | (with_reducible first | exact HB.out | apply zA1 | apply zA0 | apply zA3 | refine zA4 ?_ GE205.out) | exact HB.out)) hb); have n3_ := zA2.mk (hbox); have n4_ := zA2.mk ((by rw [hg]; exact (zAb (by repeat (first | (with_reducible first | exact HB.out | apply zA1 | apply zA0 | apply zA3 | refine zA4 ?_ GE205.out) | exact HB.out))) : w.heap.size ≤ gb207)); have n5_ := zA2.mk ((by rw [hg]; exact (zAb (by repeat (first | (with_reducible first | exact HB.out | apply zA1 | apply zA0 | apply zA3 | refine zA4 ?_ GE205.out) | exact HB.out))) : w.heap.size ≤ gb207)); have n6_ := zA2.mk ((by rw [hg]; exact Nat.ne_of_lt (zC8 (g := gb205) (o := .cells #[.string ((zAo l0 x21_1).f0), .slice A204_1 ((zAo l0 x21_1).f1).length c204_1] 60 (0, 0)) (by (with_reducible repeat (first | refine zA6 ?_ _ | refine zA8 ?_ | refine zA5 ?_ _)); exact BK205.out)) : gb205 ≠ gb207)); have n7_ := zA2.mk ((by rw [hg]; exact Nat.ne_of_gt (zC8 (g := gb205) (o := .cells #[.string ((zAo l0 x21_1).f0), .slice A204_1 ((zAo l0 x21_1).f1).length c204_1] 60 (0, 0)) (by (with_reducible repeat (first | refine zA6 ?_ _ | refine zA8 ?_ | refine zA5 ?_ _)); exact BK205.out)) : gb207 ≠ gb205)); clear HO_7; clear BK205; clear HB; have HO_7 := n0_; have BK205 := n1_; have HB := n2_; have BK207 := n3_; have GW207 := n4_; have GE207 := n5_; have NB205_207 := n6_; have NB207_205 := n7_; clear n0_ n1_ n2_ n3_ n4_ n5_ n6_ n7_; clear hb hbox hg; have hnb39 := NB207_205.out; have hnc39 := NB205_207.out; have hcz40_0 : w38.cell? ⟨gb207, 0, none⟩ = some (.string (⟨#[]⟩ : ByteArray)) := (zA7 BK207.out 0).trans rfl; have hcz40_1 : w38.cell? ⟨gb207, 1, none⟩ = some (.slice none 0 0) := (zA7 BK207.out 1).trans rfl; have hfz40_0 := zA9 BK207.out 0; have hfz40_1 := zA9 BK207.out 1))
         have n0_ : zA2 (Kd.R (Kd.int .i64) 3 ((w38.setCell ⟨gb207, 0, none⟩ (.string ((zAo l0 x27_2).f0))).setCell ⟨gb207, 1, none⟩ (.slice A206_1 ((zAo l0 x27_2).f1).length c206_1)) w.heap.size (fun _ => True) u7 x7_1) := ⟨by (with_reducible repeat (first | apply Kd.zB6 | apply Kd.zB5 | apply Kd.zBf)); exact Kd.R_mono (Kd.R_far (p := ⟨gb207, 1, none⟩) (Kd.R_far (p := ⟨gb207, 0, none⟩) (Kd.R_types HO_7.out BK207.out (by decide)) (fun _ hk => hk.2) (.string ((zAo l0 x27_2).f0))) (fun _ hk => hk.2) (.slice A206_1 ((zAo l0 x27_2).f1).length c206_1)) (fun _ hk => trivial)⟩
         have n1_ : zA2 (((w38.setCell ⟨gb207, 0, none⟩ (.string ((zAo l0 x27_2).f0))).setCell ⟨gb207, 1, none⟩ (.slice A206_1 ((zAo l0 x27_2).f1).length c206_1)).heap[gb205]? = some (.cells #[.string ((zAo l0 x21_1).f0), .slice A204_1 ((zAo l0 x21_1).f1).length c204_1] 60 (0, 0))) := ⟨by (with_reducible repeat (first | refine zA6 ?_ _ | refine zA8 ?_ | refine zA5 ?_ _)); refine blk_far ?_ NB205_207.out _; (with_reducible repeat (first | refine zA6 ?_ _ | refine zA8 ?_ | refine zA5 ?_ _)); refine blk_far ?_ NB205_207.out _; (with_reducible repeat (first | refine zA6 ?_ _ | refine zA8 ?_ | refine zA5 ?_ _)); exact BK205.out⟩
         have n2_ : zA2 (((w38.setCell ⟨gb207, 0, none⟩ (.string ((zAo l0 x27_2).f0))).setCell ⟨gb207, 1, none⟩ (.slice A206_1 ((zAo l0 x27_2).f1).length c206_1)).heap[gb207]? = some (.cells #[.string ((zAo l0 x27_2).f0), .slice A206_1 ((zAo l0 x27_2).f1).length c206_1] 60 (0, 0))) := ⟨by (with_reducible repeat (first | refine zA6 ?_ _ | refine zA8 ?_ | refine zA5 ?_ _)); refine blk_put (cs := #[.string ((zAo l0 x27_2).f0), .slice none 0 0]) ?_ 1 _ rfl; (with_reducible repeat (first | refine zA6 ?_ _ | refine zA8 ?_ | refine zA5 ?_ _)); refine blk_put (cs := #[.string (⟨#[]⟩ : ByteArray), .slice none 0 0]) ?_ 0 _ rfl; (with_reducible repeat (first | refine zA6 ?_ _ | refine zA8 ?_ | refine zA5 ?_ _)); exact BK207.out⟩
         have n3_ : zA2 (Below w.heap.size w ((w38.setCell ⟨gb207, 0, none⟩ (.string ((zAo l0 x27_2).f0))).setCell ⟨gb207, 1, none⟩ (.slice A206_1 ((zAo l0 x27_2).f1).length c206_1))) := ⟨by repeat (first | (with_reducible first | exact HB.out | apply zA1 | apply zA0 | apply zA3 | refine zA4 ?_ GE205.out | refine zA4 ?_ GE207.out) | exact HB.out)⟩
         (try clear HO_7)
         (try clear BK205)
         (try clear BK207)
         (try clear HB)
         generalize ((w38.setCell ⟨gb207, 0, none⟩ (.string ((zAo l0 x27_2).f0))).setCell ⟨gb207, 1, none⟩ (.slice A206_1 ((zAo l0 x27_2).f1).length c206_1)) = w41 at n0_ n1_ n2_ n3_ ⊢
         have HO_7 := n0_
         have BK205 := n1_
         have BK207 := n2_
         have HB := n3_
         clear n0_ n1_ n2_ n3_
         have n0_ := zA2.mk (Kd.zBf HO_7.out)
         have n1_ := zA2.mk (zA8 BK205.out)
         have n2_ := zA2.mk (zA8 BK207.out)
         have n3_ := zA2.mk (zA3 HB.out)
         clear HO_7
         clear BK205
         clear BK207
         clear HB
         have HO_7 := n0_
         have BK205 := n1_
         have BK207 := n2_
         have HB := n3_
         clear n0_ n1_ n2_ n3_
         refine start_ (n := 19) (S := fun w' => w'.cell? ⟨gb205, 0, none⟩ = some (.string ((zAo l0 x21_1).f0)) ∧ w'.cell? ⟨gb205, 1, none⟩ = some (.slice A204_1 ((zAo l0 x21_1).f1).length c204_1) ∧ w'.cell? ⟨gb207, 0, none⟩ = some (.string ((zAo l0 x27_2).f0)) ∧ w'.cell? ⟨gb207, 1, none⟩ = some (.slice A206_1 ((zAo l0 x27_2).f1).length c206_1)) (ds := []) #[false, false, false, false, false, false, false, false, false, false, false, false, false, false, false, false, false, false, false] (by kernel_rfl) rfl rfl ⟨(zA7 BK205.out 0).trans rfl, (zA7 BK205.out 1).trans rfl, (zA7 BK207.out 0).trans rfl, (zA7 BK207.out 1).trans rfl⟩ (fun hHeld => ?_); refine with_tabW zAm.tab12 zAm.bits12 (fun HT_ HW_ => ?_)
         generalize w41.drew = w42 at HO_7 BK205 BK207 HB hHeld ⊢
         refine take_ (i := 0) (N := some 32) (v := ?_) (a' := ?_) #[true, false, false, false, false, false, false, false, false, false, false, false, false, false, false, false, false, false, false] rfl rfl (zC0 HT_.out HW_.out (by kernel_rfl)) (fun _ _ _ h => h) (Or.inl ⟨by rfl, ?_⟩) hHeld ?_ ?_
         rotate_left
         ·rintro w' ⟨s0, s1, s2, s3⟩
          go_simp
          with_reducible rfl
         rotate_left
         ·simp only [Act.put, List.setIfInBounds_toArray, List.set_cons_zero, List.set_cons_succ, i64_w, i32_w]
          rfl
         refine take_ (i := 1) (N := some 33) (v := ?_) (a' := ?_) #[true, true, false, false, false, false, false, false, false, false, false, false, false, false, false, false, false, false, false] rfl rfl (zC0 HT_.out HW_.out (by kernel_rfl)) (fun _ _ _ h => h) (Or.inl ⟨by rfl, ?_⟩) hHeld ?_ ?_
         rotate_left
         ·rintro w' ⟨s0, s1, s2, s3⟩
          go_simp
          with_reducible rfl
         rotate_left
         ·simp only [Act.put, List.setIfInBounds_toArray, List.set_cons_zero, List.set_cons_succ, i64_w, i32_w]
          rfl
         refine one_ (i := 2) (N := some 34) #[true, true, true, false, false, false, false, false, false, false, false, false, false, false, false, false, false, false, false] rfl rfl (one_of HT_.out (by kernel_rfl)) (by decide) (fun K hK => ?_)
         refine goes_ Tryz.func48 (by kernel_rfl) rfl #[.agg #[.string ((zAo l0 x21_1).f0), .slice A204_1 ((zAo l0 x21_1).f1).length c204_1], .agg #[.string ((zAo l0 x27_2).f0), .slice A206_1 ((zAo l0 x27_2).f1).length c206_1]] (by rfl) rfl rfl (by (try simp only [List.map_toArray, List.map_cons, List.map_nil]); first | done | rfl | (simp only [List.length_drop, List.length_take]; rfl)) ?_
         with_reducible refine (zC9.calls k2 ((zAo l0 x21_1).f0) _ _ ((zAo l0 x21_1).f1) ((zAo l0 x27_2).f0) _ _ ((zAo l0 x27_2).f1) false _ ?side1 ?side2 ?side3 ?side4 A14.out).mono ?_
         (case side1 => repeat (first | exact (Kd.zAk HR204_1.out HB.out) | (with_reducible refine Kd.zAj ?_ _) | (with_reducible refine Kd.zAs ?_ _) | (with_reducible refine Kd.zB2 ?_)))
         (case side2 => exact HC204_1.out)
         (case side3 => repeat (first | exact (Kd.zAk HR206_1.out HB.out) | (with_reducible refine Kd.zAj ?_ _) | (with_reducible refine Kd.zAs ?_ _) | (with_reducible refine Kd.zB2 ?_)))
         (case side4 => exact HC206_1.out)
         rintro e w43 ⟨rfl, hb⟩
         refine ⟨_, rfl, ?_⟩
         have n0_ := zA2.mk (Kd.R_below (by (with_reducible repeat (first | apply Kd.zB6 | apply Kd.zB5 | apply Kd.zBf)); exact HO_7.out) hb)
         have n1_ := zA2.mk (zAl (g := gb205) (o := .cells #[.string ((zAo l0 x21_1).f0), .slice A204_1 ((zAo l0 x21_1).f1).length c204_1] 60 (0, 0)) (by (with_reducible repeat (first | refine zA6 ?_ _ | refine zA8 ?_ | refine zA5 ?_ _)); exact BK205.out) hb)
         have n2_ := zA2.mk (zAl (g := gb207) (o := .cells #[.string ((zAo l0 x27_2).f0), .slice A206_1 ((zAo l0 x27_2).f1).length c206_1] 60 (0, 0)) (by (with_reducible repeat (first | refine zA6 ?_ _ | refine zA8 ?_ | refine zA5 ?_ _)); exact BK207.out) hb)
         have n3_ := zA2.mk (zAe (by repeat (first | (with_reducible first | exact HB.out | apply zA1 | apply zA0 | apply zA3 | refine zA4 ?_ GE205.out | refine zA4 ?_ GE207.out) | exact HB.out)) hb)
         clear HO_7
         clear BK205
         clear BK207
         clear HB
         have HO_7 := n0_
         have BK205 := n1_
         have BK207 := n2_
         have HB := n3_
         clear n0_ n1_ n2_ n3_
         (try clear hb)
         (try clear hb2)
         (try clear hk)
         (try clear hi)
         refine hK.out _ _ ⟨(zA7 BK205.out 0).trans rfl, (zA7 BK205.out 1).trans rfl, (zA7 BK207.out 0).trans rfl, (zA7 BK207.out 1).trans rfl⟩ (fun hHeld => ?_)
         clear hK K
         refine norm_ (a' := ?_) ?_ ?_
         rotate_left
         ·show Act.put _ (some 34) _ = _
          simp only [Act.put, List.setIfInBounds_toArray, List.set_cons_zero, List.set_cons_succ, i64_w, i32_w]
          rfl
         refine pure_ (i := 3) (N := some 35) (v := ?_) (a' := ?_) #[true, true, true, true, false, false, false, false, false, false, false, false, false, false, false, false, false, false, false] rfl rfl (zBe HT_.out (by kernel_rfl)) (fun _ _ _ h => h) (Or.inl ⟨by rfl, ?_⟩) ?_ ?_
         rotate_left
         ·intro w'
          go_simp
          with_reducible rfl
         rotate_left
         ·simp only [Act.put, List.setIfInBounds_toArray, List.set_cons_zero, List.set_cons_succ, i64_w, i32_w]
          rfl
         refine pure_ (i := 4) (N := some 36) (v := undef) (a' := ?_) #[true, true, true, true, true, false, false, false, false, false, false, false, false, false, false, false, false, false, false] rfl rfl (zBe HT_.out (by kernel_rfl)) (fun _ _ _ h => h) (Or.inr ⟨by rfl, rfl⟩) ?_ ?_
         rotate_left
         ·simp only [Act.put, List.setIfInBounds_toArray, List.set_cons_zero, List.set_cons_succ, i64_w, i32_w]
          rfl
         refine pure_ (i := 5) (N := some 37) (v := undef) (a' := ?_) #[true, true, true, true, true, true, false, false, false, false, false, false, false, false, false, false, false, false, false] rfl rfl (zBe HT_.out (by kernel_rfl)) (fun _ _ _ h => h) (Or.inr ⟨by rfl, rfl⟩) ?_ ?_
         rotate_left
         ·simp only [Act.put, List.setIfInBounds_toArray, List.set_cons_zero, List.set_cons_succ, i64_w, i32_w]
          rfl
         refine pure_ (i := 6) (N := some 38) (v := undef) (a' := ?_) #[true, true, true, true, true, true, true, false, false, false, false, false, false, false, false, false, false, false, false] rfl rfl (zBe HT_.out (by kernel_rfl)) (fun _ _ _ h => h) (Or.inr ⟨by rfl, rfl⟩) ?_ ?_
         rotate_left
         ·simp only [Act.put, List.setIfInBounds_toArray, List.set_cons_zero, List.set_cons_succ, i64_w, i32_w]
          rfl
         refine pure_ (i := 7) (N := some 39) (v := undef) (a' := ?_) #[true, true, true, true, true, true, true, true, false, false, false, false, false, false, false, false, false, false, false] rfl rfl (zBe HT_.out (by kernel_rfl)) (fun _ _ _ h => h) (Or.inr ⟨by rfl, rfl⟩) ?_ ?_
         rotate_left
         ·simp only [Act.put, List.setIfInBounds_toArray, List.set_cons_zero, List.set_cons_succ, i64_w, i32_w]
          rfl
         refine pure_ (i := 8) (N := some 40) (v := undef) (a' := ?_) #[true, true, true, true, true, true, true, true, true, false, false, false, false, false, false, false, false, false, false] rfl rfl (zBe HT_.out (by kernel_rfl)) (fun _ _ _ h => h) (Or.inr ⟨by rfl, rfl⟩) ?_ ?_
         rotate_left
         ·simp only [Act.put, List.setIfInBounds_toArray, List.set_cons_zero, List.set_cons_succ, i64_w, i32_w]
          rfl
         refine pure_ (i := 9) (N := some 41) (v := undef) (a' := ?_) #[true, true, true, true, true, true, true, true, true, true, false, false, false, false, false, false, false, false, false] rfl rfl (zBe HT_.out (by kernel_rfl)) (fun _ _ _ h => h) (Or.inr ⟨by rfl, rfl⟩) ?_ ?_
         rotate_left
         ·simp only [Act.put, List.setIfInBounds_toArray, List.set_cons_zero, List.set_cons_succ, i64_w, i32_w]
          rfl
         refine pure_ (i := 10) (N := some 42) (v := undef) (a' := ?_) #[true, true, true, true, true, true, true, true, true, true, true, false, false, false, false, false, false, false, false] rfl rfl (zBe HT_.out (by kernel_rfl)) (fun _ _ _ h => h) (Or.inr ⟨by rfl, rfl⟩) ?_ ?_
         rotate_left
         ·simp only [Act.put, List.setIfInBounds_toArray, List.set_cons_zero, List.set_cons_succ, i64_w, i32_w]
          rfl
         refine pure_ (i := 11) (N := some 43) (v := undef) (a' := ?_) #[true, true, true, true, true, true, true, true, true, true, true, true, false, false, false, false, false, false, false] rfl rfl (zBe HT_.out (by kernel_rfl)) (fun _ _ _ h => h) (Or.inr ⟨by rfl, rfl⟩) ?_ ?_
         rotate_left
         ·simp only [Act.put, List.setIfInBounds_toArray, List.set_cons_zero, List.set_cons_succ, i64_w, i32_w]
          rfl
         refine pure_ (i := 12) (N := some 44) (v := undef) (a' := ?_) #[true, true, true, true, true, true, true, true, true, true, true, true, true, false, false, false, false, false, false] rfl rfl (zBe HT_.out (by kernel_rfl)) (fun _ _ _ h => h) (Or.inr ⟨by rfl, rfl⟩) ?_ ?_
         rotate_left
         ·simp only [Act.put, List.setIfInBounds_toArray, List.set_cons_zero, List.set_cons_succ, i64_w, i32_w]
          rfl
         refine pure_ (i := 13) (N := some 45) (v := undef) (a' := ?_) #[true, true, true, true, true, true, true, true, true, true, true, true, true, true, false, false, false, false, false] rfl rfl (zBe HT_.out (by kernel_rfl)) (fun _ _ _ h => h) (Or.inr ⟨by rfl, rfl⟩) ?_ ?_
         rotate_left
         ·simp only [Act.put, List.setIfInBounds_toArray, List.set_cons_zero, List.set_cons_succ, i64_w, i32_w]
          rfl
         refine pure_ (i := 14) (N := some 46) (v := undef) (a' := ?_) #[true, true, true, true, true, true, true, true, true, true, true, true, true, true, true, false, false, false, false] rfl rfl (zBe HT_.out (by kernel_rfl)) (fun _ _ _ h => h) (Or.inr ⟨by rfl, rfl⟩) ?_ ?_
         rotate_left
         ·simp only [Act.put, List.setIfInBounds_toArray, List.set_cons_zero, List.set_cons_succ, i64_w, i32_w]
          rfl
         refine pure_ (i := 15) (N := some 47) (v := undef) (a' := ?_) #[true, true, true, true, true, true, true, true, true, true, true, true, true, true, true, true, false, false, false] rfl rfl (zBe HT_.out (by kernel_rfl)) (fun _ _ _ h => h) (Or.inr ⟨by rfl, rfl⟩) ?_ ?_
         rotate_left
         ·simp only [Act.put, List.setIfInBounds_toArray, List.set_cons_zero, List.set_cons_succ, i64_w, i32_w]
          rfl
         refine pure_ (i := 16) (N := some 48) (v := undef) (a' := ?_) #[true, true, true, true, true, true, true, true, true, true, true, true, true, true, true, true, true, false, false] rfl rfl (zBe HT_.out (by kernel_rfl)) (fun _ _ _ h => h) (Or.inr ⟨by rfl, rfl⟩) ?_ ?_
         rotate_left
         ·simp only [Act.put, List.setIfInBounds_toArray, List.set_cons_zero, List.set_cons_succ, i64_w, i32_w]
          rfl
         refine pure_ (i := 17) (N := some 49) (v := undef) (a' := ?_) #[true, true, true, true, true, true, true, true, true, true, true, true, true, true, true, true, true, true, false] rfl rfl (zBe HT_.out (by kernel_rfl)) (fun _ _ _ h => h) (Or.inr ⟨by rfl, rfl⟩) ?_ ?_
         rotate_left
         ·simp only [Act.put, List.setIfInBounds_toArray, List.set_cons_zero, List.set_cons_succ, i64_w, i32_w]
          rfl
         refine pure_ (i := 18) (N := some 50) (v := ?_) (a' := ?_) #[true, true, true, true, true, true, true, true, true, true, true, true, true, true, true, true, true, true, true] rfl rfl (zBe HT_.out (by kernel_rfl)) (fun _ _ _ h => h) (Or.inl ⟨by rfl, ?_⟩) ?_ ?_
         rotate_left
         ·intro w'
          go_simp
          with_reducible rfl
         rotate_left
         ·simp only [Act.put, List.setIfInBounds_toArray, List.set_cons_zero, List.set_cons_succ, i64_w, i32_w]
          rfl
         refine done_ (done_of HT_.out (by kernel_rfl)) ?_
         try go_wp2
         go_roundg k2
         case measure => have := HK1.out; have := HK2.out; omega
         case rel => exact ⟨(x10_2), (wrap64 (x27_2 + 1)), (by first | rfl | (simp; done) | (simp [*]; done)), (by first | rfl | (simp; done) | (simp [*]; done)), H', ⟨by have := HK1.out; have := HK2.out; omega⟩, ⟨by (with_reducible repeat (first | apply Kd.zB6 | apply Kd.zB5 | apply Kd.zBf)); exact HO_7.out⟩, ⟨by (with_reducible repeat (first | refine zA6 ?_ _ | refine zA8 ?_ | refine zA5 ?_ _)); exact BK205.out⟩, ⟨by repeat (first | (with_reducible first | exact HB.out | apply zA1 | apply zA0 | apply zA3 | refine zA4 ?_ GE205.out | refine zA4 ?_ GE207.out) | exact HB.out)⟩⟩
       ·rw [if_neg c11] at H
        have c11b0 : decide (x27_2 < (l0.length : Int)) = false := decide_eq_false c11
        clear c11
        by_cases c44 : x7_1.length < 17592186044416
        rotate_left
        ·rw [if_neg c44] at H
         exact absurd H (by simp)
        rw [if_pos c44] at H
        have LMc44 := zA2.mk c44
        clear c44
        obtain ⟨y210, hy210⟩ : ∃ y_ : List Int, y_ = (x7_1 ++ [x10_2]) := ⟨_, rfl⟩
        replace H : (zAm.l0 k2 l0 y210 l0 (l0.length : Int) (wrap64 (x21_1 + 1))) = some (r1, r2) := by first | (rw [hy210]; with_reducible exact H) | (have H2_ := (Option.bind_some _ _).symm.trans H; rw [hy210]; with_reducible exact H2_) | (have H2_ := (Option.bind_some _ _).symm.trans H; with_reducible exact H2_) | with_reducible exact H | (rw [hy210]; exact H) | exact H
        have Ny210 := zA2.mk hy210
        clear hy210
        have H' := zA2.mk H
        clear H
        go_wp2_with (first | ((with_reducible refine zCe (b := .append) (xs := #[.tmp 53, .tmp 55]) rfl ?_); (try (refine gate_guard (by rfl) ?_; dsimp only)); at_builtin; refine Kd.R_append (Kd.int .i64) (w0 := w) w.heap.size rfl (.tmp 53) (.tmp 55) 23 3 (.int .i64 0) 8 rfl Tryz.underlying23 info3 rfl (by decide) (by omega) u7 x7_1 x10_2 [.int .i64 x10_2] (fun _ => True) (fun _ => False) rfl rfl ?aP (fun _ hk => hk.elim) ?aF ?aO ?aB ?aS ?aL ?_; (case aP => exact rfl); (case aB => exact (by repeat (first | (with_reducible first | exact HB.out | apply zA1 | apply zA0 | apply zA3 | refine zA4 ?_ GE205.out) | exact HB.out))); (case aF => exact (fun _ _ => trivial)); (case aO => exact (by (with_reducible repeat (first | apply Kd.zB6 | apply Kd.zB5 | apply Kd.zBf)); exact HO_7.out)); (case aS => exact (zAb (by repeat (first | (with_reducible first | exact HB.out | apply zA1 | apply zA0 | apply zA3 | refine zA4 ?_ GE205.out) | exact HB.out)))); (case aL => have := LMc44.out; omega); intro v211 w45 ho hb hg hat; rw [← Ny210.out] at ho; have n0_ := zA2.mk (blk_grown (g := gb205) (o := .cells #[.string ((zAo l0 x21_1).f0), .slice A204_1 ((zAo l0 x21_1).f1).length c204_1] 60 (0, 0)) (by (with_reducible repeat (first | refine zA6 ?_ _ | refine zA8 ?_ | refine zA5 ?_ _)); exact BK205.out) hg (Kd.R_ne HO_7.out BK205.out (by decide))); have n1_ := zA2.mk (hb); have n2_ := zA2.mk (ho); clear BK205; clear HB; clear HO_7; have BK205 := n0_; have HB := n1_; have HO212 := n2_; clear n0_ n1_ n2_; clear ho hb hg hat))
        go_roundg k2
        case measure => have := HK1.out; have := HK2.out; omega
        case rel => exact ⟨(y210), (wrap64 (x21_1 + 1)), (by first | rfl | (simp; done) | (simp [*]; done)), H', ⟨by have := HK1.out; have := HK2.out; omega⟩, ⟨by (with_reducible repeat (first | apply Kd.zB6 | apply Kd.zB5 | apply Kd.zBf)); exact HO212.out⟩, ⟨by repeat (first | (with_reducible first | exact HB.out | apply zA1 | apply zA0 | apply zA3 | refine zA4 ?_ GE205.out) | exact HB.out)⟩⟩
    ·rw [if_neg c6] at H
     have c6b0 : decide (x21_1 < (l0.length : Int)) = false := decide_eq_false c6
     clear c6
     simp only [Option.some.injEq, Prod.mk.injEq] at H
     obtain ⟨rfl, rfl⟩ := H
     go_wp2
     go_ret2
     exact ⟨_, by first | rfl | (simp [zAr, zAq] <;> rfl) | (simp [*, zAr, zAq] <;> rfl), by (with_reducible repeat (first | apply Kd.zB6 | apply Kd.zB5 | apply Kd.zBf)); exact HO_7.out, by repeat (first | (with_reducible first | exact HB.out | apply zA1 | apply zA0 | apply zA3) | exact HB.out)⟩
 ·rw [if_neg c4] at H
  have c4b0 : (t203 == 0) = false := beq_eq_false_iff_ne.mpr c4
  have c4b1 : (t203 != 0) = true := bne_iff_ne.mpr c4
  simp only [Option.some.injEq, Prod.mk.injEq] at H
  obtain ⟨rfl, rfl⟩ := H
  go_enter Tryz.func25, Tryz.ntmps25
  go_wp2_with (first | ((with_reducible refine zAp (f := 47) rfl ?_); refine zBq (some 15) rfl rfl Tryz.func47 (by kernel_rfl) rfl #[.slice A0 l0.length c0, .int .i64 a1] rfl (by (try simp only [List.map_toArray, List.map_cons, List.map_nil]); first | done | rfl | (simp only [List.length_drop, List.length_take]; rfl)) ?_; (with_reducible refine (liaison_CheckGroups.calls _ _ l0 a1 t203 _ ?side1 ?side2 A3.out).mono ?_); (case side1 => repeat (first | exact HR0.out | (with_reducible refine Kd.zAj ?_ _) | (with_reducible refine Kd.zAs ?_ _) | (with_reducible refine Kd.zB2 ?_))); (case side2 => exact HC0.out); rintro e w46 ⟨rfl, hb⟩; refine ⟨_, rfl, ?_⟩; have n0_ := zA2.mk (zAe (by repeat (first | (with_reducible first | exact HB.out | apply zA1 | apply zA0 | apply zA3) | exact HB.out)) hb); clear HB; have HB := n0_; clear n0_; (try clear hb); (try clear hb2); (try clear hk); (try clear hi)))
  go_ret2
  exact ⟨_, by first | rfl | (simp [zAr, zAq] <;> rfl) | (simp [*, zAr, zAq] <;> rfl), by first | exact Kd.R_nil _ _ _ _ _ | exact Kd.N_nil _ _ _ _ _ | exact Kd.V_nil _ _ _ _ _ | exact Kd.Q_nil _ _ _ _ _ | exact Kd.S_nil _ _ _ _ _, by repeat (first | (with_reducible first | exact HB.out | apply zA1 | apply zA0 | apply zA3) | exact HB.out)⟩
end
end Go.Proofs.YtbghfbhlbfcloaaGreatDoor.PL
namespace Go.Proofs.YtbghfbhlbfcloaaGreatDoor.PL
section
open Go.RowKit Go.Proofs.YtbghfbhlbfcloaaGreatDoorW.PrintWords Go.Proofs.YtbghfbhlbfcloaaGreatDoorW.PrintLast Go.Proofs.YtbghfbhlbfcloaaGreatDoorW.PrintMore
attribute [local go_sem] zBu zBs zC3 zC2 zBn zBm zBt zBr   -- for this text's walks alone
set_option linter.unusedVariables false
set_option linter.unusedSimpArgs false
def liaison_Cuts.f (a0_0 : Int) (l0_1 : List (S58)) (l1 : List Int) : Option ((List (S46)) × Int) := CU.f a0_0 l0_1 l1
theorem liaison_Cuts.calls (a0_0 : Int) (A0_1 : Option Addr) (c0_1 : Nat) (l0_1 : List (S58)) (A1 : Option Addr) (c1 : Nat) (l1 : List Int) (r1 : List (S46)) (r2 : Int) (w : World) (hr0_1 : Kd.C k58 w A0_1 l0_1.length l0_1) (hc0_1 : l0_1.length ≤ c0_1) (hr1 : Kd.C (Kd.int .i64) w A1 l1.length l1) (hc1 : l1.length ≤ c1) (hG : Kd.C (Kd.int .u8) w (some tabA) tabL.length tabL) (h : liaison_Cuts.f a0_0 l0_1 l1 = some (r1, r2)) :
  Calls Tryz.prog 14 #[.agg #[.int .i64 a0_0, .slice A0_1 l0_1.length c0_1], .slice A1 l1.length c1] w fun e w' => ∃ v0_ : Value, e = .returned (.tuple #[v0_, .int .i64 r2]) ∧ Kd.S k46 46 w' w.heap.size (fun _ => True) v0_ r1 ∧ Below w.heap.size w w' :=
  CU.calls a0_0 A0_1 c0_1 l0_1 A1 c1 l1 r1 r2 w hr0_1 hc0_1 hr1 hc1 hG h
end
end Go.Proofs.YtbghfbhlbfcloaaGreatDoor.PL
namespace Go.Proofs.YtbghfbhlbfcloaaGreatDoor.PL
section
open Go.RowKit Go.Proofs.YtbghfbhlbfcloaaGreatDoorW.PrintWords Go.Proofs.YtbghfbhlbfcloaaGreatDoorW.PrintLast Go.Proofs.YtbghfbhlbfcloaaGreatDoorW.PrintMore
attribute [local go_sem] zBu zBs zC3 zC2 zBn zBm zBt zBr   -- for this text's walks alone
set_option linter.unusedVariables false
set_option linter.unusedSimpArgs false
def zBh.l0 : Nat → List Int → List Int → Int → List Int → List Int → Int → Int → Option (List Int × Int)
 | 0, _, _, _, _, _, _, _ => none
 | k + 1, x1, x6, x7, x9, x26, x27, x28 => if x28 < x27 then (if 0 ≤ x28 then (if x28 < (x26.length : Int) then (if (x1.length : Int) > 2 then (if 0 ≤ (rd x26 x28) then ((zAg.f k x6 (Go.bits .andNot .u64 x7 (shl .u64 1 (rd x26 x28)))).bind fun t193 => (if t193 = true then (zBh.l0 k x1 x6 x7 x9 x26 x27 (wrap64 (x28 + 1))) else (if x9.length < 17592186044416 then (zBh.l0 k x1 x6 x7 (x9 ++ [rd x26 x28]) x26 x27 (wrap64 (x28 + 1))) else (none)))) else (none)) else (zBh.l0 k x1 x6 x7 x9 x26 x27 (wrap64 (x28 + 1)))) else (none)) else (none)) else (some (x9, 0))
def zBh.f (k : Nat) (a0_0 : Int) (l0_1 : List (S58)) (l1 : List Int) : Option (List Int × Int) := (zB3.f k a0_0 l0_1 l1).bind fun bt186 => (if bt186.2.2 = 0 then ((zAg.f k bt186.1 bt186.2.1).bind fun t191 => (if t191 = true then (zBh.l0 k l1 bt186.1 bt186.2.1 ([] : List Int) l1 (l1.length : Int) 0) else (some (([] : List Int), 17)))) else (some (([] : List Int), bt186.2.2)))
theorem zBh.zBv : ∀ k, (∀ y0 y1 y2 y3 y4 y5 y6, LeO (zBh.l0 k y0 y1 y2 y3 y4 y5 y6) (zBh.l0 (k + 1) y0 y1 y2 y3 y4 y5 y6))
 | 0 => fun _ _ _ _ _ _ _ r h => by simp [zBh.l0] at h
 | k + 1 => by
  have ih0 := zBh.zBv k
  ·intro y0 y1 y2 y3 y4 y5 y6
   unfold zBh.l0
   repeat' first
   | (with_reducible exact ih0 _ _ _ _ _ _ _)
   | (with_reducible exact zAg.mono _ _ _)
   | (with_reducible exact zB3.mono _ _ _ _)
   | (with_reducible exact LeO.refl _)
   | (with_reducible exact LeO.none _)
   | (with_reducible refine LeO.ite ?_ ?_)
   | (with_reducible refine LeO.bind ?_ (fun _ => ?_))
theorem zBh.mono : ∀ a0 a1 a2 k, LeO (zBh.f k a0 a1 a2) (zBh.f (k + 1) a0 a1 a2) := by
 intro a0 a1 a2 k
 have ih0 := zBh.zBv k
 unfold zBh.f
 repeat' first
   | (with_reducible exact ih0 _ _ _ _ _ _ _)
   | (with_reducible exact zAg.mono _ _ _)
   | (with_reducible exact zB3.mono _ _ _ _)
   | (with_reducible exact LeO.refl _)
   | (with_reducible exact LeO.none _)
   | (with_reducible refine LeO.ite ?_ ?_)
   | (with_reducible refine LeO.bind ?_ (fun _ => ?_))
set_option maxHeartbeats 8000000 in
set_option maxRecDepth 100000 in
theorem zBh.calls (k : Nat) (a0_0 : Int) (A0_1 : Option Addr) (c0_1 : Nat) (l0_1 : List (S58)) (A1 : Option Addr) (c1 : Nat) (l1 : List Int) (r1 : List Int) (r2 : Int) (w : World) (hr0_1 : Kd.C k58 w A0_1 l0_1.length l0_1) (hc0_1 : l0_1.length ≤ c0_1) (hr1 : Kd.C (Kd.int .i64) w A1 l1.length l1) (hc1 : l1.length ≤ c1) (hG : Kd.C (Kd.int .u8) w (some tabA) tabL.length tabL) (h : zBh.f k a0_0 l0_1 l1 = some (r1, r2)) :
  Calls Tryz.prog 15 #[.agg #[.int .i64 a0_0, .slice A0_1 l0_1.length c0_1], .slice A1 l1.length c1] w fun e w' => ∃ v0_ : Value, e = .returned (.tuple #[v0_, .int .i64 r2]) ∧ Kd.R (Kd.int .i64) 3 w' w.heap.size (fun _ => True) v0_ r1 ∧ Below w.heap.size w w' := by
 have hu28 := Tryz.underlying28
 have HR0_1 := zA2.mk hr0_1
 have HC0_1 := zA2.mk hc0_1
 clear hr0_1 hc0_1
 have HR1 := zA2.mk hr1
 have HC1 := zA2.mk hc1
 clear hr1 hc1
 have HB := zA2.mk (Below.refl w.heap.size w)
 have HG := zA2.mk hG
 clear hG
 have H : ((zB3.f k a0_0 l0_1 l1).bind fun bt186 => (if bt186.2.2 = 0 then ((zAg.f k bt186.1 bt186.2.1).bind fun t191 => (if t191 = true then (zBh.l0 k l1 bt186.1 bt186.2.1 ([] : List Int) l1 (l1.length : Int) 0) else (some (([] : List Int), 17)))) else (some (([] : List Int), bt186.2.2)))) = some (r1, r2) := h
 clear h
 replace H := Option.bind_eq_some_iff.mp H
 obtain ⟨⟨t186, t189, t190⟩, A30, H⟩ := H
 replace H : (if t190 = 0 then ((zAg.f k t186 t189).bind fun t191 => (if t191 = true then (zBh.l0 k l1 t186 t189 ([] : List Int) l1 (l1.length : Int) 0) else (some (([] : List Int), 17)))) else (some (([] : List Int), t190))) = some (r1, r2) := H
 have A3 := zA2.mk A30
 clear A30
 by_cases c4 : t190 = 0
 ·rw [if_pos c4] at H
  have c4b0 : (t190 == 0) = true := beq_iff_eq.mpr c4
  have c4b1 : (t190 != 0) = false := bne_eq_false_iff_eq.mpr c4
  clear c4
  replace H := Option.bind_eq_some_iff.mp H
  obtain ⟨t191, A50, H⟩ := H
  replace H : (if t191 = true then (zBh.l0 k l1 t186 t189 ([] : List Int) l1 (l1.length : Int) 0) else (some (([] : List Int), 17))) = some (r1, r2) := H
  have A5 := zA2.mk A50
  clear A50
  by_cases c6 : t191 = true
  ·subst c6
   have H1 : (zBh.l0 k l1 t186 t189 ([] : List Int) l1 (l1.length : Int) 0) = some (r1, r2) := by rw [if_pos rfl] at H; exact H
   clear H
   have H := H1
   clear H1
   have H' := zA2.mk H
   clear H
   go_enter Tryz.func15, Tryz.ntmps15
   go_wp2_with (first | ((with_reducible refine zBl (N := 2) rfl ?_); refine zBj ?hg (N := 2) ?hd (cs := #[.int .i64 a0_0, .slice A0_1 l0_1.length c0_1]) (t := 28) ?hr ?_; (case hd => rfl); (case hg => rfl); (case hr => first | (go_simp; done) | (go_simp; rfl)); intro gb185 hg w7 hbox hb; have n0_ := zA2.mk (zAe (by repeat (first | (with_reducible first | exact HB.out | apply zA1 | apply zA0 | apply zA3) | exact HB.out)) hb); have n1_ := zA2.mk (hbox); have n2_ := zA2.mk ((by rw [hg]; exact (zAb (by repeat (first | (with_reducible first | exact HB.out | apply zA1 | apply zA0 | apply zA3) | exact HB.out))) : w.heap.size ≤ gb185)); have n3_ := zA2.mk ((by rw [hg]; exact (zAb (by repeat (first | (with_reducible first | exact HB.out | apply zA1 | apply zA0 | apply zA3) | exact HB.out))) : w.heap.size ≤ gb185)); clear HB; have HB := n0_; have BK185 := n1_; have GW185 := n2_; have GE185 := n3_; clear n0_ n1_ n2_ n3_; clear hb hbox hg; have hcz8_0 : w7.cell? ⟨gb185, 0, none⟩ = some (.int .i64 a0_0) := (zA7 BK185.out 0).trans rfl; have hcz8_1 : w7.cell? ⟨gb185, 1, none⟩ = some (.slice A0_1 l0_1.length c0_1) := (zA7 BK185.out 1).trans rfl; have hfz8_0 := zA9 BK185.out 0; have hfz8_1 := zA9 BK185.out 1) | ((with_reducible refine zAp (f := 27) rfl ?_); refine zBq (some 15) rfl rfl Tryz.func27 (by kernel_rfl) rfl #[.agg #[.int .i64 a0_0, .slice A0_1 l0_1.length c0_1], .slice A1 l1.length c1] rfl (by (try simp only [List.map_toArray, List.map_cons, List.map_nil]); first | done | rfl | (simp only [List.length_drop, List.length_take]; rfl)) ?_; (with_reducible refine (zB3.calls k a0_0 _ _ l0_1 _ _ l1 t186 t189 t190 _ ?side1 ?side2 ?side3 ?side4 A3.out).mono ?_); (case side1 => repeat (first | exact (Kd.zAk HR0_1.out HB.out) | (with_reducible refine Kd.zAj ?_ _) | (with_reducible refine Kd.zAs ?_ _) | (with_reducible refine Kd.zB2 ?_))); (case side2 => exact HC0_1.out); (case side3 => repeat (first | exact (Kd.zAk HR1.out HB.out) | (with_reducible refine Kd.zAj ?_ _) | (with_reducible refine Kd.zAs ?_ _) | (with_reducible refine Kd.zB2 ?_))); (case side4 => exact HC1.out); rintro e w9 ⟨v187, rfl, ho0, hb⟩; refine ⟨_, rfl, ?_⟩; have n0_ := zA2.mk (Kd.R_lower ho0 (zAb (by repeat (first | (with_reducible first | exact HB.out | apply zA1 | apply zA0 | apply zA3 | refine zA4 ?_ GE185.out) | exact HB.out)))); have n1_ := zA2.mk (zAl (g := gb185) (o := .cells #[.int .i64 a0_0, .slice A0_1 l0_1.length c0_1] 28 (0, 0)) (by (with_reducible repeat (first | refine zA6 ?_ _ | refine zA8 ?_ | refine zA5 ?_ _)); exact BK185.out) hb); have n2_ := zA2.mk (zAe (by repeat (first | (with_reducible first | exact HB.out | apply zA1 | apply zA0 | apply zA3 | refine zA4 ?_ GE185.out) | exact HB.out)) hb); clear BK185; clear HB; have HO188 := n0_; have BK185 := n1_; have HB := n2_; clear n0_ n1_ n2_; (try clear hb); (try clear hb2); (try clear hk); (try clear hi); (try clear ho0); obtain ⟨Ao10, co10, eo10⟩ := Kd.zCa HO188.out; subst eo10) | ((with_reducible refine zAp (f := 35) rfl ?_); refine zBq (some 24) rfl rfl Tryz.func35 (by kernel_rfl) rfl #[.slice Ao10 t186.length co10, .int .u64 t189] rfl (by (try simp only [List.map_toArray, List.map_cons, List.map_nil]); first | done | rfl | (simp only [List.length_drop, List.length_take]; rfl)) ?_; (with_reducible refine (zAg.calls k _ _ t186 t189 true _ ?side1 ?side2 ?side3 A5.out).mono ?_); (case side1 => repeat (first | exact (Kd.zBp HO188.out).2.2 | (with_reducible refine Kd.zAj ?_ _) | (with_reducible refine Kd.zAs ?_ _) | (with_reducible refine Kd.zB2 ?_))); (case side2 => exact (Kd.zBp HO188.out).2.1); (case side3 => repeat (first | exact (Kd.zAk HG.out HB.out) | (with_reducible refine Kd.zAj ?_ _) | (with_reducible refine Kd.zAs ?_ _) | (with_reducible refine Kd.zB2 ?_))); rintro e w11 ⟨rfl, hb⟩; refine ⟨_, rfl, ?_⟩; have n0_ := zA2.mk (Kd.R_below (by (with_reducible repeat (first | apply Kd.zB6 | apply Kd.zB5 | apply Kd.zBf)); exact HO188.out) hb); have n1_ := zA2.mk (zAl (g := gb185) (o := .cells #[.int .i64 a0_0, .slice A0_1 l0_1.length c0_1] 28 (0, 0)) (by (with_reducible repeat (first | refine zA6 ?_ _ | refine zA8 ?_ | refine zA5 ?_ _)); exact BK185.out) hb); have n2_ := zA2.mk (zAe (by repeat (first | (with_reducible first | exact HB.out | apply zA1 | apply zA0 | apply zA3 | refine zA4 ?_ GE185.out) | exact HB.out)) hb); clear HO188; clear BK185; clear HB; have HO188 := n0_; have BK185 := n1_; have HB := n2_; clear n0_ n1_ n2_; (try clear hb); (try clear hb2); (try clear hk); (try clear hi)))
   go_loopg [9, 28] k (fun kq v9 v28 w' => ∃ (x9_1 : List Int) (x28_1 : Int), v28 = .int .i64 x28_1 ∧ zA2 (zBh.l0 kq l1 t186 t189 x9_1 l1 (l1.length : Int) x28_1 = some (r1, r2)) ∧ zA2 (kq ≤ k) ∧ zA2 (Kd.R (Kd.int .u64) 65 w' w.heap.size (fun _ => True) (.slice Ao10 t186.length co10) t186) ∧ zA2 (Kd.R (Kd.int .i64) 3 w' w.heap.size (fun _ => True) v9 x9_1) ∧ zA2 (w'.heap[gb185]? = some (.cells #[.int .i64 a0_0, (.slice A0_1 l0_1.length c0_1)] 28 (0, 0))) ∧ zA2 (Below w.heap.size w w'))
   case atStart => exact ⟨(([] : List Int)), (0), (by first | rfl | (simp; done) | (simp [*]; done)), H', ⟨Nat.le_refl _⟩, ⟨by (with_reducible repeat (first | apply Kd.zB6 | apply Kd.zB5 | apply Kd.zBf)); exact HO188.out⟩, ⟨by first | exact Kd.R_nil _ _ _ _ _ | exact Kd.N_nil _ _ _ _ _ | exact Kd.V_nil _ _ _ _ _ | exact Kd.Q_nil _ _ _ _ _ | exact Kd.S_nil _ _ _ _ _⟩, ⟨by (with_reducible repeat (first | refine zA6 ?_ _ | refine zA8 ?_ | refine zA5 ?_ _)); exact BK185.out⟩, ⟨by repeat (first | (with_reducible first | exact HB.out | apply zA1 | apply zA0 | apply zA3 | refine zA4 ?_ GE185.out) | exact HB.out)⟩⟩
   case round =>
    clear H'
    try clear c1
    try clear c2
    try clear p2
    try clear c3
    try clear c4
    try clear c4b0
    try clear c4b1
    try clear c6
    try clear hcz8_0
    try clear hcz8_1
    try clear hfz8_0
    try clear hfz8_1
    obtain ⟨x9_1, x28_1, rfl, HA, HK1, HO_6, HO_9, BK185, HB⟩ := hrel
    cases gk with
    | zero => exact absurd HA.out (by simp [zBh.l0])
    | succ k1 =>
     have H := HA.out
     clear HA
     simp only [zBh.l0] at H
     by_cases c12 : x28_1 < (l1.length : Int)
     ·rw [if_pos c12] at H
      have c12b0 : decide (x28_1 < (l1.length : Int)) = true := decide_eq_true c12
      clear c12
      by_cases c13 : 0 ≤ x28_1
      rotate_left
      ·rw [if_neg c13] at H
       exact absurd H (by simp)
      rw [if_pos c13] at H
      have c13b0 : decide (0 ≤ x28_1) = true := decide_eq_true c13
      clear c13
      by_cases c14 : x28_1 < (l1.length : Int)
      rotate_left
      ·rw [if_neg c14] at H
       exact absurd H (by simp)
      rw [if_pos c14] at H
      have c14b0 : decide (x28_1 < (l1.length : Int)) = true := decide_eq_true c14
      clear c14
      by_cases c15 : (l1.length : Int) > 2
      ·rw [if_pos c15] at H
       have c15b0 : decide (2 < (l1.length : Int)) = true := decide_eq_true c15
       have c15b1 : decide (2 < l1.length) = true := decide_eq_true (by omega)
       clear c15
       by_cases c16 : 0 ≤ (rd l1 x28_1)
       rotate_left
       ·rw [if_neg c16] at H
        exact absurd H (by simp)
       rw [if_pos c16] at H
       have c16b0 := eq_true c16
       have c16b1 : decide (0 ≤ (rd l1 x28_1)) = true := decide_eq_true c16
       clear c16
       obtain ⟨ji17, hji17⟩ : ∃ j_ : Int, (shl .u64 1 (rd l1 x28_1)) = j_ := ⟨_, rfl⟩
       replace H : ((zAg.f k1 t186 (Go.bits .andNot .u64 t189 (ji17))).bind fun t193 => (if t193 = true then (zBh.l0 k1 l1 t186 t189 x9_1 l1 (l1.length : Int) (wrap64 (x28_1 + 1))) else (if x9_1.length < 17592186044416 then (zBh.l0 k1 l1 t186 t189 (x9_1 ++ [rd l1 x28_1]) l1 (l1.length : Int) (wrap64 (x28_1 + 1))) else (none)))) = some (r1, r2) := by first | (rw [hji17] at H; exact H) | (simp only [hji17] at H ⊢; exact H)
       have hji17_ : (IntKind.u64.wrap (1 * 2 ^ min (rd l1 x28_1).toNat 64)) = ji17 := hji17
       have hji17z : (rd l1 x28_1) ≤ 64 → (IntKind.u64.wrap (1 * 2 ^ (rd l1 x28_1).toNat)) = ji17 := shl_small hji17
       have hji17u : (IntKind.u64.wrap (2 ^ min (rd l1 x28_1).toNat 64)) = ji17 := by have h_ := hji17_; rw [Int.one_mul] at h_; exact h_
       have hji17v : (rd l1 x28_1) ≤ 64 → (IntKind.u64.wrap (2 ^ (rd l1 x28_1).toNat)) = ji17 := fun hle_ => by have h_ := hji17z hle_; rw [Int.one_mul] at h_; exact h_
       replace H := Option.bind_eq_some_iff.mp H
       obtain ⟨t193, A180, H⟩ := H
       replace H : (if t193 = true then (zBh.l0 k1 l1 t186 t189 x9_1 l1 (l1.length : Int) (wrap64 (x28_1 + 1))) else (if x9_1.length < 17592186044416 then (zBh.l0 k1 l1 t186 t189 (x9_1 ++ [rd l1 x28_1]) l1 (l1.length : Int) (wrap64 (x28_1 + 1))) else (none))) = some (r1, r2) := H
       have A18 := zA2.mk A180
       clear A180
       by_cases c19 : t193 = true
       ·subst c19
        have H1 : (zBh.l0 k1 l1 t186 t189 x9_1 l1 (l1.length : Int) (wrap64 (x28_1 + 1))) = some (r1, r2) := by rw [if_pos rfl] at H; exact H
        clear H
        have H := H1
        clear H1
        have H' := zA2.mk H
        clear H
        have p192 : 0 ≤ (x28_1 : Int) := of_decide_eq_true (by first | (with_reducible assumption) | assumption)
        have q192 : x28_1 < (l1.length : Int) := of_decide_eq_true (by first | (with_reducible assumption) | assumption)
        obtain ⟨ad192, e192, hx192_0⟩ := Kd.zC6 HR1.out x28_1 p192 q192
        cases e192
        replace hx192_0 := (HB.out.cell (World.block_lt_of_cell? w _ hx192_0)).trans hx192_0
        replace p192 := eq_true p192
        replace q192 := eq_true q192
        go_wp2_with (first | (go_at_call 35; (with_reducible refine (zAg.calls k1 _ _ t186 (Go.bits .andNot .u64 t189 (ji17)) true _ ?side1 ?side2 ?side3 A18.out).mono ?_); (case side1 => repeat (first | exact (Kd.zBp HO_6.out).2.2 | (with_reducible refine Kd.zAj ?_ _) | (with_reducible refine Kd.zAs ?_ _) | (with_reducible refine Kd.zB2 ?_))); (case side2 => exact (Kd.zBp HO_6.out).2.1); (case side3 => repeat (first | exact (Kd.zAk HG.out HB.out) | (with_reducible refine Kd.zAj ?_ _) | (with_reducible refine Kd.zAs ?_ _) | (with_reducible refine Kd.zB2 ?_))); rintro e w20 ⟨rfl, hb⟩; have n0_ := zA2.mk (Kd.R_below (by (with_reducible repeat (first | apply Kd.zB6 | apply Kd.zB5 | apply Kd.zBf)); exact HO_6.out) hb); have n1_ := zA2.mk (Kd.R_below (by (with_reducible repeat (first | apply Kd.zB6 | apply Kd.zB5 | apply Kd.zBf)); exact HO_9.out) hb); have n2_ := zA2.mk (zAl (g := gb185) (o := .cells #[.int .i64 a0_0, .slice A0_1 l0_1.length c0_1] 28 (0, 0)) (by (with_reducible repeat (first | refine zA6 ?_ _ | refine zA8 ?_ | refine zA5 ?_ _)); exact BK185.out) hb); have n3_ := zA2.mk (zAe (by repeat (first | (with_reducible first | exact HB.out | apply zA1 | apply zA0 | apply zA3 | refine zA4 ?_ GE185.out) | exact HB.out)) hb); clear HO_6; clear HO_9; clear BK185; clear HB; have HO_6 := n0_; have HO_9 := n1_; have BK185 := n2_; have HB := n3_; clear n0_ n1_ n2_ n3_; (try clear hb); (try clear hb2); (try clear hk); (try clear hi)))
        go_roundg k1
        case measure => have := HK1.out; omega
        case rel => exact ⟨(x9_1), (wrap64 (x28_1 + 1)), (by first | rfl | (simp; done) | (simp [*]; done)), H', ⟨by have := HK1.out; omega⟩, ⟨by (with_reducible repeat (first | apply Kd.zB6 | apply Kd.zB5 | apply Kd.zBf)); exact HO_6.out⟩, ⟨by (with_reducible repeat (first | apply Kd.zB6 | apply Kd.zB5 | apply Kd.zBf)); exact HO_9.out⟩, ⟨by (with_reducible repeat (first | refine zA6 ?_ _ | refine zA8 ?_ | refine zA5 ?_ _)); exact BK185.out⟩, ⟨by repeat (first | (with_reducible first | exact HB.out | apply zA1 | apply zA0 | apply zA3 | refine zA4 ?_ GE185.out) | exact HB.out)⟩⟩
       ·replace c19 := Bool.eq_false_iff.mpr c19
        subst c19
        have H1 : (if x9_1.length < 17592186044416 then (zBh.l0 k1 l1 t186 t189 (x9_1 ++ [rd l1 x28_1]) l1 (l1.length : Int) (wrap64 (x28_1 + 1))) else (none)) = some (r1, r2) := by rw [if_neg (show ¬ (false = true) by decide)] at H; exact H
        clear H
        have H := H1
        clear H1
        by_cases c21 : x9_1.length < 17592186044416
        rotate_left
        ·rw [if_neg c21] at H
         exact absurd H (by simp)
        rw [if_pos c21] at H
        have LMc21 := zA2.mk c21
        clear c21
        obtain ⟨y194, hy194⟩ : ∃ y_ : List Int, y_ = (x9_1 ++ [rd l1 x28_1]) := ⟨_, rfl⟩
        replace H : (zBh.l0 k1 l1 t186 t189 y194 l1 (l1.length : Int) (wrap64 (x28_1 + 1))) = some (r1, r2) := by first | (rw [hy194]; with_reducible exact H) | (have H2_ := (Option.bind_some _ _).symm.trans H; rw [hy194]; with_reducible exact H2_) | (have H2_ := (Option.bind_some _ _).symm.trans H; with_reducible exact H2_) | with_reducible exact H | (rw [hy194]; exact H) | exact H
        have Ny194 := zA2.mk hy194
        clear hy194
        have H' := zA2.mk H
        clear H
        have p192 : 0 ≤ (x28_1 : Int) := of_decide_eq_true (by first | (with_reducible assumption) | assumption)
        have q192 : x28_1 < (l1.length : Int) := of_decide_eq_true (by first | (with_reducible assumption) | assumption)
        obtain ⟨ad192, e192, hx192_0⟩ := Kd.zC6 HR1.out x28_1 p192 q192
        cases e192
        replace hx192_0 := (HB.out.cell (World.block_lt_of_cell? w _ hx192_0)).trans hx192_0
        replace p192 := eq_true p192
        replace q192 := eq_true q192
        go_wp2_with (first | (go_at_call 35; (with_reducible refine (zAg.calls k1 _ _ t186 (Go.bits .andNot .u64 t189 (ji17)) false _ ?side1 ?side2 ?side3 A18.out).mono ?_); (case side1 => repeat (first | exact (Kd.zBp HO_6.out).2.2 | (with_reducible refine Kd.zAj ?_ _) | (with_reducible refine Kd.zAs ?_ _) | (with_reducible refine Kd.zB2 ?_))); (case side2 => exact (Kd.zBp HO_6.out).2.1); (case side3 => repeat (first | exact (Kd.zAk HG.out HB.out) | (with_reducible refine Kd.zAj ?_ _) | (with_reducible refine Kd.zAs ?_ _) | (with_reducible refine Kd.zB2 ?_))); rintro e w22 ⟨rfl, hb⟩; have n0_ := zA2.mk (Kd.R_below (by (with_reducible repeat (first | apply Kd.zB6 | apply Kd.zB5 | apply Kd.zBf)); exact HO_6.out) hb); have n1_ := zA2.mk (Kd.R_below (by (with_reducible repeat (first | apply Kd.zB6 | apply Kd.zB5 | apply Kd.zBf)); exact HO_9.out) hb); have n2_ := zA2.mk (zAl (g := gb185) (o := .cells #[.int .i64 a0_0, .slice A0_1 l0_1.length c0_1] 28 (0, 0)) (by (with_reducible repeat (first | refine zA6 ?_ _ | refine zA8 ?_ | refine zA5 ?_ _)); exact BK185.out) hb); have n3_ := zA2.mk (zAe (by repeat (first | (with_reducible first | exact HB.out | apply zA1 | apply zA0 | apply zA3 | refine zA4 ?_ GE185.out) | exact HB.out)) hb); clear HO_6; clear HO_9; clear BK185; clear HB; have HO_6 := n0_; have HO_9 := n1_; have BK185 := n2_; have HB := n3_; clear n0_ n1_ n2_ n3_; (try clear hb); (try clear hb2); (try clear hk); (try clear hi)) | ((with_reducible refine zCe (b := .append) (xs := #[.tmp 44, .tmp 46]) rfl ?_); at_builtin; refine Kd.R_append (Kd.int .i64) (w0 := w) w.heap.size rfl (.tmp 44) (.tmp 46) 23 3 (.int .i64 0) 8 rfl Tryz.underlying23 info3 rfl (by decide) (by omega) u9 x9_1 (rd l1 x28_1) [.int .i64 (rd l1 x28_1)] (fun _ => True) (fun _ => False) rfl rfl ?aP (fun _ hk => hk.elim) ?aF ?aO ?aB ?aS ?aL ?_; (case aP => exact rfl); (case aB => exact (by repeat (first | (with_reducible first | exact HB.out | apply zA1 | apply zA0 | apply zA3 | refine zA4 ?_ GE185.out) | exact HB.out))); (case aF => exact (fun _ _ => trivial)); (case aO => exact (by (with_reducible repeat (first | apply Kd.zB6 | apply Kd.zB5 | apply Kd.zBf)); exact HO_9.out)); (case aS => exact (zAb (by repeat (first | (with_reducible first | exact HB.out | apply zA1 | apply zA0 | apply zA3 | refine zA4 ?_ GE185.out) | exact HB.out)))); (case aL => have := LMc21.out; omega); intro v195 w23 ho hb hg hat; rw [← Ny194.out] at ho; have n0_ := zA2.mk (Kd.R_over' (by (with_reducible repeat (first | apply Kd.zB6 | apply Kd.zB5 | apply Kd.zBf)); exact HO_6.out) (Kd.R_typed (by (with_reducible repeat (first | apply Kd.zB6 | apply Kd.zB5 | apply Kd.zBf)); exact HO_9.out)) (by decide) hg); have n1_ := zA2.mk (blk_grown (g := gb185) (o := .cells #[.int .i64 a0_0, .slice A0_1 l0_1.length c0_1] 28 (0, 0)) (by (with_reducible repeat (first | refine zA6 ?_ _ | refine zA8 ?_ | refine zA5 ?_ _)); exact BK185.out) hg (Kd.R_ne HO_9.out BK185.out (by decide))); have n2_ := zA2.mk (hb); have n3_ := zA2.mk (ho); clear HO_6; clear BK185; clear HB; clear HO_9; have HO_6 := n0_; have BK185 := n1_; have HB := n2_; have HO196 := n3_; clear n0_ n1_ n2_ n3_; clear ho hb hg hat))
        go_roundg k1
        case measure => have := HK1.out; omega
        case rel => exact ⟨(y194), (wrap64 (x28_1 + 1)), (by first | rfl | (simp; done) | (simp [*]; done)), H', ⟨by have := HK1.out; omega⟩, ⟨by (with_reducible repeat (first | apply Kd.zB6 | apply Kd.zB5 | apply Kd.zBf)); exact HO_6.out⟩, ⟨by (with_reducible repeat (first | apply Kd.zB6 | apply Kd.zB5 | apply Kd.zBf)); exact HO196.out⟩, ⟨by (with_reducible repeat (first | refine zA6 ?_ _ | refine zA8 ?_ | refine zA5 ?_ _)); exact BK185.out⟩, ⟨by repeat (first | (with_reducible first | exact HB.out | apply zA1 | apply zA0 | apply zA3 | refine zA4 ?_ GE185.out) | exact HB.out)⟩⟩
      ·rw [if_neg c15] at H
       have c15b0 : decide (2 < (l1.length : Int)) = false := decide_eq_false c15
       have c15b1 : decide (2 < l1.length) = false := decide_eq_false (by omega)
       clear c15
       have H' := zA2.mk H
       clear H
       have p192 : 0 ≤ (x28_1 : Int) := of_decide_eq_true (by first | (with_reducible assumption) | assumption)
       have q192 : x28_1 < (l1.length : Int) := of_decide_eq_true (by first | (with_reducible assumption) | assumption)
       obtain ⟨ad192, e192, hx192_0⟩ := Kd.zC6 HR1.out x28_1 p192 q192
       cases e192
       replace hx192_0 := (HB.out.cell (World.block_lt_of_cell? w _ hx192_0)).trans hx192_0
       replace p192 := eq_true p192
       replace q192 := eq_true q192
       go_wp2
       go_roundg k1
       case measure => have := HK1.out; omega
       case rel => exact ⟨(x9_1), (wrap64 (x28_1 + 1)), (by first | rfl | (simp; done) | (simp [*]; done)), H', ⟨by have := HK1.out; omega⟩, ⟨by (with_reducible repeat (first | apply Kd.zB6 | apply Kd.zB5 | apply Kd.zBf)); exact HO_6.out⟩, ⟨by (with_reducible repeat (first | apply Kd.zB6 | apply Kd.zB5 | apply Kd.zBf)); exact HO_9.out⟩, ⟨by (with_reducible repeat (first | refine zA6 ?_ _ | refine zA8 ?_ | refine zA5 ?_ _)); exact BK185.out⟩, ⟨by repeat (first | (with_reducible first | exact HB.out | apply zA1 | apply zA0 | apply zA3 | refine zA4 ?_ GE185.out) | exact HB.out)⟩⟩
     ·rw [if_neg c12] at H
      have c12b0 : decide (x28_1 < (l1.length : Int)) = false := decide_eq_false c12
      clear c12
      simp only [Option.some.injEq, Prod.mk.injEq] at H
      obtain ⟨rfl, rfl⟩ := H
      go_wp2
      go_ret2
      exact ⟨_, by first | rfl | (simp [zAr, zAq] <;> rfl) | (simp [*, zAr, zAq] <;> rfl), by (with_reducible repeat (first | apply Kd.zB6 | apply Kd.zB5 | apply Kd.zBf)); exact HO_9.out, by repeat (first | (with_reducible first | exact HB.out | apply zA1 | apply zA0 | apply zA3 | refine zA4 ?_ GE185.out) | exact HB.out)⟩
  ·replace c6 := Bool.eq_false_iff.mpr c6
   subst c6
   have H1 : (some (([] : List Int), 17)) = some (r1, r2) := by rw [if_neg (show ¬ (false = true) by decide)] at H; exact H
   clear H
   have H := H1
   clear H1
   simp only [Option.some.injEq, Prod.mk.injEq] at H
   obtain ⟨rfl, rfl⟩ := H
   go_enter Tryz.func15, Tryz.ntmps15
   go_wp2_with (first | ((with_reducible refine zBl (N := 2) rfl ?_); refine zBj ?hg (N := 2) ?hd (cs := #[.int .i64 a0_0, .slice A0_1 l0_1.length c0_1]) (t := 28) ?hr ?_; (case hd => rfl); (case hg => rfl); (case hr => first | (go_simp; done) | (go_simp; rfl)); intro gb185 hg w24 hbox hb; have n0_ := zA2.mk (zAe (by repeat (first | (with_reducible first | exact HB.out | apply zA1 | apply zA0 | apply zA3) | exact HB.out)) hb); have n1_ := zA2.mk (hbox); have n2_ := zA2.mk ((by rw [hg]; exact (zAb (by repeat (first | (with_reducible first | exact HB.out | apply zA1 | apply zA0 | apply zA3) | exact HB.out))) : w.heap.size ≤ gb185)); have n3_ := zA2.mk ((by rw [hg]; exact (zAb (by repeat (first | (with_reducible first | exact HB.out | apply zA1 | apply zA0 | apply zA3) | exact HB.out))) : w.heap.size ≤ gb185)); clear HB; have HB := n0_; have BK185 := n1_; have GW185 := n2_; have GE185 := n3_; clear n0_ n1_ n2_ n3_; clear hb hbox hg; have hcz25_0 : w24.cell? ⟨gb185, 0, none⟩ = some (.int .i64 a0_0) := (zA7 BK185.out 0).trans rfl; have hcz25_1 : w24.cell? ⟨gb185, 1, none⟩ = some (.slice A0_1 l0_1.length c0_1) := (zA7 BK185.out 1).trans rfl; have hfz25_0 := zA9 BK185.out 0; have hfz25_1 := zA9 BK185.out 1) | ((with_reducible refine zAp (f := 27) rfl ?_); refine zBq (some 15) rfl rfl Tryz.func27 (by kernel_rfl) rfl #[.agg #[.int .i64 a0_0, .slice A0_1 l0_1.length c0_1], .slice A1 l1.length c1] rfl (by (try simp only [List.map_toArray, List.map_cons, List.map_nil]); first | done | rfl | (simp only [List.length_drop, List.length_take]; rfl)) ?_; (with_reducible refine (zB3.calls k a0_0 _ _ l0_1 _ _ l1 t186 t189 t190 _ ?side1 ?side2 ?side3 ?side4 A3.out).mono ?_); (case side1 => repeat (first | exact (Kd.zAk HR0_1.out HB.out) | (with_reducible refine Kd.zAj ?_ _) | (with_reducible refine Kd.zAs ?_ _) | (with_reducible refine Kd.zB2 ?_))); (case side2 => exact HC0_1.out); (case side3 => repeat (first | exact (Kd.zAk HR1.out HB.out) | (with_reducible refine Kd.zAj ?_ _) | (with_reducible refine Kd.zAs ?_ _) | (with_reducible refine Kd.zB2 ?_))); (case side4 => exact HC1.out); rintro e w26 ⟨v187, rfl, ho0, hb⟩; refine ⟨_, rfl, ?_⟩; have n0_ := zA2.mk (Kd.R_lower ho0 (zAb (by repeat (first | (with_reducible first | exact HB.out | apply zA1 | apply zA0 | apply zA3 | refine zA4 ?_ GE185.out) | exact HB.out)))); have n1_ := zA2.mk (zAl (g := gb185) (o := .cells #[.int .i64 a0_0, .slice A0_1 l0_1.length c0_1] 28 (0, 0)) (by (with_reducible repeat (first | refine zA6 ?_ _ | refine zA8 ?_ | refine zA5 ?_ _)); exact BK185.out) hb); have n2_ := zA2.mk (zAe (by repeat (first | (with_reducible first | exact HB.out | apply zA1 | apply zA0 | apply zA3 | refine zA4 ?_ GE185.out) | exact HB.out)) hb); clear BK185; clear HB; have HO188 := n0_; have BK185 := n1_; have HB := n2_; clear n0_ n1_ n2_; (try clear hb); (try clear hb2); (try clear hk); (try clear hi); (try clear ho0); obtain ⟨Ao27, co27, eo27⟩ := Kd.zCa HO188.out; subst eo27) | ((with_reducible refine zAp (f := 35) rfl ?_); refine zBq (some 24) rfl rfl Tryz.func35 (by kernel_rfl) rfl #[.slice Ao27 t186.length co27, .int .u64 t189] rfl (by (try simp only [List.map_toArray, List.map_cons, List.map_nil]); first | done | rfl | (simp only [List.length_drop, List.length_take]; rfl)) ?_; (with_reducible refine (zAg.calls k _ _ t186 t189 false _ ?side1 ?side2 ?side3 A5.out).mono ?_); (case side1 => repeat (first | exact (Kd.zBp HO188.out).2.2 | (with_reducible refine Kd.zAj ?_ _) | (with_reducible refine Kd.zAs ?_ _) | (with_reducible refine Kd.zB2 ?_))); (case side2 => exact (Kd.zBp HO188.out).2.1); (case side3 => repeat (first | exact (Kd.zAk HG.out HB.out) | (with_reducible refine Kd.zAj ?_ _) | (with_reducible refine Kd.zAs ?_ _) | (with_reducible refine Kd.zB2 ?_))); rintro e w28 ⟨rfl, hb⟩; refine ⟨_, rfl, ?_⟩; have n0_ := zA2.mk (Kd.R_below (by (with_reducible repeat (first | apply Kd.zB6 | apply Kd.zB5 | apply Kd.zBf)); exact HO188.out) hb); have n1_ := zA2.mk (zAl (g := gb185) (o := .cells #[.int .i64 a0_0, .slice A0_1 l0_1.length c0_1] 28 (0, 0)) (by (with_reducible repeat (first | refine zA6 ?_ _ | refine zA8 ?_ | refine zA5 ?_ _)); exact BK185.out) hb); have n2_ := zA2.mk (zAe (by repeat (first | (with_reducible first | exact HB.out | apply zA1 | apply zA0 | apply zA3 | refine zA4 ?_ GE185.out) | exact HB.out)) hb); clear HO188; clear BK185; clear HB; have HO188 := n0_; have BK185 := n1_; have HB := n2_; clear n0_ n1_ n2_; (try clear hb); (try clear hb2); (try clear hk); (try clear hi)))
   go_ret2
   exact ⟨_, by first | rfl | (simp [zAr, zAq] <;> rfl) | (simp [*, zAr, zAq] <;> rfl), by first | exact Kd.R_nil _ _ _ _ _ | exact Kd.N_nil _ _ _ _ _ | exact Kd.V_nil _ _ _ _ _ | exact Kd.Q_nil _ _ _ _ _ | exact Kd.S_nil _ _ _ _ _, by repeat (first | (with_reducible first | exact HB.out | apply zA1 | apply zA0 | apply zA3 | refine zA4 ?_ GE185.out) | exact HB.out)⟩
 ·rw [if_neg c4] at H
  have c4b0 : (t190 == 0) = false := beq_eq_false_iff_ne.mpr c4
  have c4b1 : (t190 != 0) = true := bne_iff_ne.mpr c4
  simp only [Option.some.injEq, Prod.mk.injEq] at H
  obtain ⟨rfl, rfl⟩ := H
  go_enter Tryz.func15, Tryz.ntmps15
  go_wp2_with (first | ((with_reducible refine zBl (N := 2) rfl ?_); refine zBj ?hg (N := 2) ?hd (cs := #[.int .i64 a0_0, .slice A0_1 l0_1.length c0_1]) (t := 28) ?hr ?_; (case hd => rfl); (case hg => rfl); (case hr => first | (go_simp; done) | (go_simp; rfl)); intro gb185 hg w29 hbox hb; have n0_ := zA2.mk (zAe (by repeat (first | (with_reducible first | exact HB.out | apply zA1 | apply zA0 | apply zA3) | exact HB.out)) hb); have n1_ := zA2.mk (hbox); have n2_ := zA2.mk ((by rw [hg]; exact (zAb (by repeat (first | (with_reducible first | exact HB.out | apply zA1 | apply zA0 | apply zA3) | exact HB.out))) : w.heap.size ≤ gb185)); have n3_ := zA2.mk ((by rw [hg]; exact (zAb (by repeat (first | (with_reducible first | exact HB.out | apply zA1 | apply zA0 | apply zA3) | exact HB.out))) : w.heap.size ≤ gb185)); clear HB; have HB := n0_; have BK185 := n1_; have GW185 := n2_; have GE185 := n3_; clear n0_ n1_ n2_ n3_; clear hb hbox hg; have hcz30_0 : w29.cell? ⟨gb185, 0, none⟩ = some (.int .i64 a0_0) := (zA7 BK185.out 0).trans rfl; have hcz30_1 : w29.cell? ⟨gb185, 1, none⟩ = some (.slice A0_1 l0_1.length c0_1) := (zA7 BK185.out 1).trans rfl; have hfz30_0 := zA9 BK185.out 0; have hfz30_1 := zA9 BK185.out 1) | ((with_reducible refine zAp (f := 27) rfl ?_); refine zBq (some 15) rfl rfl Tryz.func27 (by kernel_rfl) rfl #[.agg #[.int .i64 a0_0, .slice A0_1 l0_1.length c0_1], .slice A1 l1.length c1] rfl (by (try simp only [List.map_toArray, List.map_cons, List.map_nil]); first | done | rfl | (simp only [List.length_drop, List.length_take]; rfl)) ?_; (with_reducible refine (zB3.calls k a0_0 _ _ l0_1 _ _ l1 t186 t189 t190 _ ?side1 ?side2 ?side3 ?side4 A3.out).mono ?_); (case side1 => repeat (first | exact (Kd.zAk HR0_1.out HB.out) | (with_reducible refine Kd.zAj ?_ _) | (with_reducible refine Kd.zAs ?_ _) | (with_reducible refine Kd.zB2 ?_))); (case side2 => exact HC0_1.out); (case side3 => repeat (first | exact (Kd.zAk HR1.out HB.out) | (with_reducible refine Kd.zAj ?_ _) | (with_reducible refine Kd.zAs ?_ _) | (with_reducible refine Kd.zB2 ?_))); (case side4 => exact HC1.out); rintro e w31 ⟨v187, rfl, ho0, hb⟩; refine ⟨_, rfl, ?_⟩; have n0_ := zA2.mk (Kd.R_lower ho0 (zAb (by repeat (first | (with_reducible first | exact HB.out | apply zA1 | apply zA0 | apply zA3 | refine zA4 ?_ GE185.out) | exact HB.out)))); have n1_ := zA2.mk (zAl (g := gb185) (o := .cells #[.int .i64 a0_0, .slice A0_1 l0_1.length c0_1] 28 (0, 0)) (by (with_reducible repeat (first | refine zA6 ?_ _ | refine zA8 ?_ | refine zA5 ?_ _)); exact BK185.out) hb); have n2_ := zA2.mk (zAe (by repeat (first | (with_reducible first | exact HB.out | apply zA1 | apply zA0 | apply zA3 | refine zA4 ?_ GE185.out) | exact HB.out)) hb); clear BK185; clear HB; have HO188 := n0_; have BK185 := n1_; have HB := n2_; clear n0_ n1_ n2_; (try clear hb); (try clear hb2); (try clear hk); (try clear hi); (try clear ho0)))
  go_ret2
  exact ⟨_, by first | rfl | (simp [zAr, zAq] <;> rfl) | (simp [*, zAr, zAq] <;> rfl), by first | exact Kd.R_nil _ _ _ _ _ | exact Kd.N_nil _ _ _ _ _ | exact Kd.V_nil _ _ _ _ _ | exact Kd.Q_nil _ _ _ _ _ | exact Kd.S_nil _ _ _ _ _, by repeat (first | (with_reducible first | exact HB.out | apply zA1 | apply zA0 | apply zA3 | refine zA4 ?_ GE185.out) | exact HB.out)⟩
end
end Go.Proofs.YtbghfbhlbfcloaaGreatDoor.PL
namespace Go.Proofs.YtbghfbhlbfcloaaGreatDoor.PL
section
open Go.RowKit Go.Proofs.YtbghfbhlbfcloaaGreatDoorW.PrintWords Go.Proofs.YtbghfbhlbfcloaaGreatDoorW.PrintLast Go.Proofs.YtbghfbhlbfcloaaGreatDoorW.PrintMore
set_option linter.unusedVariables false
set_option linter.unusedSimpArgs false
theorem flat_get {sz : Nat} : ∀ (cs : List (List Value)) (_ : ∀ c ∈ cs, c.length = sz) (j i : Nat) (c : List Value), cs[j]? = some c → i < sz → cs.flatten[j * sz + i]? = c[i]?
 | [], _, j, i, c, h, _ => by simp at h
 | a :: r, hl, j, i, c, h, hi => by
  have ha := hl a (by simp)
  cases j with
  | zero =>
   simp at h
   subst h
   rw [List.flatten_cons, Nat.zero_mul, Nat.zero_add, List.getElem?_append_left (by omega)]
  | succ j =>
   simp at h
   rw [List.flatten_cons, List.getElem?_append_right (by rw [ha, Nat.add_mul]; omega), ha]
   rw [show (j + 1) * sz + i - sz = j * sz + i by rw [Nat.add_mul]; omega]
   exact flat_get r (fun q hq => hl q (by simp [hq])) j i c h hi
theorem litC {α : Type} (d : Kd α) (W : World) (e : Nat) (xs : List α) (cs : List (List Value)) (inner : Array Value) (hin : inner = cs.flatten.toArray) (hl : cs.length = xs.length) (hm : xs.length ≤ 1000)
  (hsz : ∀ c ∈ cs, c.length = d.sz) (hK : ∀ (j : Nat) (x : α) (c : List Value), xs[j]? = some x → cs[j]? = some c → d.K (W.alloc (.cells inner e)) x c) :
  Kd.C d (W.alloc (.cells inner e)) (some ⟨W.heap.size, 0, none⟩) xs.length xs := by
 refine ⟨rfl, by omega, fun _ => ⟨_, rfl, fun j x hj => ?_⟩⟩
 have hjl := (List.getElem?_eq_some_iff.1 hj).1
 have hc : cs[j]? = some cs[j] := List.getElem?_eq_getElem (by omega)
 refine ⟨cs[j], hsz _ (List.getElem_mem _), hK j x _ hj hc, fun i u hu => ?_⟩
 have hi : i < d.sz := by rw [← hsz cs[j] (List.getElem_mem _)]; exact (List.getElem?_eq_some_iff.1 hu).1
 have h1 := flat_get cs hsz j i _ hc hi
 have h2 := zA7 (blk_new W (.cells inner e)) (j * d.sz + i)
 rw [hin] at h2 ⊢
 rw [List.getElem?_toArray, h1, hu] at h2
 rw [show (⟨W.heap.size, 0, none⟩ : Addr).add (j * d.sz + i) = ⟨W.heap.size, j * d.sz + i, none⟩ by simp [Addr.add]; omega]
 exact h2
theorem flat_one (f : Int → Value) : ∀ xs : List Int, (xs.map fun x => [f x]).flatten = xs.map f
 | [] => rfl
 | a :: r => by rw [List.map_cons, List.flatten_cons, flat_one f r]; rfl
theorem litI (W : World) (xs : List Int) (inner : Array Value) (hin : inner = (xs.map fun x => Value.int .i64 x).toArray) (hm : xs.length ≤ 1000) : Kd.C (Kd.int .i64) (W.alloc (.cells inner 3)) (some ⟨W.heap.size, 0, none⟩) xs.length xs := by
 refine litC (Kd.int .i64) W 3 xs (xs.map fun x => [Value.int .i64 x]) inner ?_ (by simp) hm ?_ ?_
 ·rw [hin, flat_one]
 ·intro c hc
  obtain ⟨x, _, rfl⟩ := List.mem_map.1 hc
  rfl
 ·intro j x c hx hc
  rw [List.getElem?_map, hx] at hc
  cases hc
  rfl
def KE : List S58 := [⟨0, 1⟩, ⟨1, 0⟩, ⟨1, 2⟩, ⟨2, 1⟩, ⟨2, 3⟩, ⟨3, 2⟩]
def KG : List S60 := [⟨⟨#[97]⟩, [0, 1]⟩, ⟨⟨#[98]⟩, [0, 1, 2]⟩, ⟨⟨#[99]⟩, [3, 4]⟩]
def KC : List S46 := [⟨[0], [1, 2, 3]⟩, ⟨[0, 1], [2, 3]⟩, ⟨[0, 1, 2], [3]⟩]
theorem kn_make : graph_Make.f 4 KE = some (4, KE, 0) := by kernel_rfl
theorem kn_pieces : zBb.f 100 4 KE [0, 1, 3] = some ([[0, 1], [3]], 0) := by kernel_rfl
theorem kn_cuts : liaison_Cuts.f 4 KE [0, 1, 2, 3] = some (KC, 0) := by kernel_rfl
theorem kn_joints : zBh.f 100 4 KE [0, 1, 2, 3] = some ([1, 2], 0) := by kernel_rfl
theorem kn_parents : zAm.f 100 KG 5 = some ([1, -1, -1], 0) := by kernel_rfl
theorem kn_same1 : zB9.f 100 [[0, 1], [3]] [[0, 1], [3]] = some true := by kernel_rfl
theorem kn_same2 : zB4.f 100 [0, 1] [0, 1] = some true := by kernel_rfl
theorem kn_same3 : zB4.f 100 [2, 3] [2, 3] = some true := by kernel_rfl
theorem kn_same4 : zB4.f 100 [1, 2] [1, 2] = some true := by kernel_rfl
theorem kn_same5 : zB4.f 100 [1, -1, -1] [1, -1, -1] = some true := by kernel_rfl
def oneE (e : S58) : List Value := [.int .i64 e.f0, .int .i64 e.f1]
theorem litE (W : World) : Kd.C k58 (W.alloc (.cells #[.int .i64 0, .int .i64 1, .int .i64 1, .int .i64 0, .int .i64 1, .int .i64 2, .int .i64 2, .int .i64 1, .int .i64 2, .int .i64 3, .int .i64 3, .int .i64 2] 58)) (some ⟨W.heap.size, 0, none⟩) KE.length KE := by
 refine litC k58 W 58 KE (KE.map oneE) _ rfl rfl (by decide) (fun c hc => ?_) (fun j x c hx hc => ?_)
 ·obtain ⟨x, _, rfl⟩ := List.mem_map.1 hc
  rfl
 ·rw [List.getElem?_map, hx] at hc
  cases hc
  exact k58_mk _ x
theorem litG (W : World) : Kd.C k60 ((((W.alloc (.cells #[.int .i64 0, .int .i64 1] 3)).alloc (.cells #[.int .i64 0, .int .i64 1, .int .i64 2] 3)).alloc (.cells #[.int .i64 3, .int .i64 4] 3)).alloc (.cells #[.string ⟨#[97]⟩, .slice (some ⟨W.heap.size, 0, none⟩) 2 2, .string ⟨#[98]⟩, .slice (some ⟨W.heap.size + 1, 0, none⟩) 3 3, .string ⟨#[99]⟩, .slice (some ⟨W.heap.size + 1 + 1, 0, none⟩) 2 2] 60)) (some ⟨W.heap.size + 1 + 1 + 1, 0, none⟩) KG.length KG := by
 have h1 : Kd.C (Kd.int .i64) (W.alloc (.cells #[.int .i64 0, .int .i64 1] 3)) (some ⟨W.heap.size, 0, none⟩) 2 [0, 1] := litI W [0, 1] _ rfl (by decide)
 have h2 := litI (W.alloc (.cells #[.int .i64 0, .int .i64 1] 3)) [0, 1, 2] _ rfl (by decide)
 have h3 := litI ((W.alloc (.cells #[.int .i64 0, .int .i64 1] 3)).alloc (.cells #[.int .i64 0, .int .i64 1, .int .i64 2] 3)) [3, 4] _ rfl (by decide)
 have h4 := litC k60 (((W.alloc (.cells #[.int .i64 0, .int .i64 1] 3)).alloc (.cells #[.int .i64 0, .int .i64 1, .int .i64 2] 3)).alloc (.cells #[.int .i64 3, .int .i64 4] 3)) 60 KG [[.string ⟨#[97]⟩, .slice (some ⟨W.heap.size, 0, none⟩) 2 2], [.string ⟨#[98]⟩, .slice (some ⟨W.heap.size + 1, 0, none⟩) 3 3], [.string ⟨#[99]⟩, .slice (some ⟨W.heap.size + 1 + 1, 0, none⟩) 2 2]] #[.string ⟨#[97]⟩, .slice (some ⟨W.heap.size, 0, none⟩) 2 2, .string ⟨#[98]⟩, .slice (some ⟨W.heap.size + 1, 0, none⟩) 3 3, .string ⟨#[99]⟩, .slice (some ⟨W.heap.size + 1 + 1, 0, none⟩) 2 2] rfl rfl (by decide) (fun c hc => ?_) (fun j x c hx hc => ?_)
 ·simp only [World.size_alloc] at h4
  exact h4
 ·simp only [List.mem_cons, List.not_mem_nil, or_false] at hc
  rcases hc with rfl | rfl | rfl <;> rfl
 ·rw [World.size_alloc] at h2
  rw [World.size_alloc, World.size_alloc] at h3
  rcases j with _ | _ | _ | j
  ·cases hx; cases hc
   exact k60_mk _ ⟨⟨#[97]⟩, [0, 1]⟩ (Nat.le_refl _) (Kd.zAj (Kd.zAj (Kd.zAj h1 _) _) _)
  ·cases hx; cases hc
   exact k60_mk _ ⟨⟨#[98]⟩, [0, 1, 2]⟩ (Nat.le_refl _) (Kd.zAj (Kd.zAj h2 _) _)
  ·cases hx; cases hc
   exact k60_mk _ ⟨⟨#[99]⟩, [3, 4]⟩ (Nat.le_refl _) (Kd.zAj h3 _)
  ·simp [KG] at hx
theorem kn33 (W : World) : Calls Tryz.prog 24 #[.int .i64 4, .slice (some ⟨W.heap.size, 0, none⟩) 6 6] (W.alloc (.cells #[.int .i64 0, .int .i64 1, .int .i64 1, .int .i64 0, .int .i64 1, .int .i64 2, .int .i64 2, .int .i64 1, .int .i64 2, .int .i64 3, .int .i64 3, .int .i64 2] 58)) fun e w' => ∃ A1 c1, e = .returned (.tuple #[.agg #[.int .i64 4, .slice A1 6 c1], .int .i64 0]) ∧ (6 ≤ c1 ∧ Kd.C k58 w' A1 6 KE) ∧ Below W.heap.size W w' := by
 refine (graph_Make.calls 4 _ _ KE 4 KE 0 _ (litE W) (Nat.le_refl _) kn_make).mono ?_
 rintro e w1 ⟨v1, rfl, hR1, hb1⟩
 obtain ⟨A1, c1, rfl⟩ := Kd.zCa hR1
 have h := Kd.zBp hR1
 exact ⟨A1, c1, rfl, ⟨h.2.1, h.2.2⟩, (zA1 (Below.refl W.heap.size W) _).trans (hb1.mono (by simp))⟩
theorem kn17 (W : World) (A1 : Option Addr) (c1 : Nat) (h1 : Kd.C k58 W A1 6 KE) (hc : 6 ≤ c1) (hG : Kd.C (Kd.int .u8) W (some tabA) tabL.length tabL) : Calls Tryz.prog 13 #[.agg #[.int .i64 4, .slice A1 6 c1], .slice (some ⟨W.heap.size + 1, 0, none⟩) 3 3] ((W.alloc (.cells #[.int .i64 4, .slice A1 6 c1] 28)).alloc (.cells #[.int .i64 0, .int .i64 1, .int .i64 3] 3)) fun e w' => ∃ A2 c2, e = .returned (.tuple #[.slice A2 2 c2, .int .i64 0]) ∧ (2 ≤ c2 ∧ Kd.C (Kd.slice 3 (Kd.int .i64)) w' A2 2 [[0, 1], [3]]) ∧ Below W.heap.size W w' ∧ w'.heap[W.heap.size]? = some (.cells #[.int .i64 4, .slice A1 6 c1] 28 (0, 0)) := by
 have hl := litI (W.alloc (.cells #[.int .i64 4, .slice A1 6 c1] 28)) [0, 1, 3] _ rfl (by decide)
 rw [World.size_alloc] at hl
 refine (zBb.calls 100 4 A1 c1 KE _ 3 [0, 1, 3] [[0, 1], [3]] 0 _ (Kd.zAj (Kd.zAj h1 _) _) hc hl (Nat.le_refl _) (Kd.zAj (Kd.zAj hG _) _) kn_pieces).mono ?_
 rintro e w2 ⟨v2, rfl, hS2, hb2⟩
 obtain ⟨A2, c2, rfl⟩ := Kd.S_slice hS2
 have h := Kd.S_reads' hS2
 exact ⟨A2, c2, rfl, ⟨h.2.1, h.2.2⟩, (zA1 (zA1 (Below.refl W.heap.size W) _) _).trans (hb2.mono (by simp; omega)), zAl (zA5 (blk_new W _) _) hb2⟩
theorem kn10 (W : World) (A1 : Option Addr) (c1 : Nat) (h1 : Kd.C k58 W A1 6 KE) (hc : 6 ≤ c1) (hG : Kd.C (Kd.int .u8) W (some tabA) tabL.length tabL) : Calls Tryz.prog 14 #[.agg #[.int .i64 4, .slice A1 6 c1], .slice (some ⟨W.heap.size, 0, none⟩) 4 4] (W.alloc (.cells #[.int .i64 0, .int .i64 1, .int .i64 2, .int .i64 3] 3)) fun e w' => ∃ A2 c2, e = .returned (.tuple #[.slice A2 3 c2, .int .i64 0]) ∧ (3 ≤ c2 ∧ Kd.C k46 w' A2 3 KC) ∧ Below W.heap.size W w' := by
 have hl := litI W [0, 1, 2, 3] _ rfl (by decide)
 refine (liaison_Cuts.calls 4 A1 c1 KE _ 4 [0, 1, 2, 3] KC 0 _ (Kd.zAj h1 _) hc hl (Nat.le_refl _) (Kd.zAj hG _) kn_cuts).mono ?_
 rintro e w2 ⟨v2, rfl, hS2, hb2⟩
 obtain ⟨A2, c2, rfl⟩ := Kd.S_slice hS2
 have h := Kd.S_reads' hS2
 exact ⟨A2, c2, rfl, ⟨h.2.1, h.2.2⟩, (zA1 (Below.refl W.heap.size W) _).trans (hb2.mono (by simp))⟩
theorem kn11 (W : World) (A1 : Option Addr) (c1 : Nat) (h1 : Kd.C k58 W A1 6 KE) (hc : 6 ≤ c1) (hG : Kd.C (Kd.int .u8) W (some tabA) tabL.length tabL) : Calls Tryz.prog 15 #[.agg #[.int .i64 4, .slice A1 6 c1], .slice (some ⟨W.heap.size, 0, none⟩) 4 4] (W.alloc (.cells #[.int .i64 0, .int .i64 1, .int .i64 2, .int .i64 3] 3)) fun e w' => ∃ A2 c2, e = .returned (.tuple #[.slice A2 2 c2, .int .i64 0]) ∧ (2 ≤ c2 ∧ Kd.C (Kd.int .i64) w' A2 2 [1, 2]) ∧ Below W.heap.size W w' := by
 have hl := litI W [0, 1, 2, 3] _ rfl (by decide)
 refine (zBh.calls 100 4 A1 c1 KE _ 4 [0, 1, 2, 3] [1, 2] 0 _ (Kd.zAj h1 _) hc hl (Nat.le_refl _) (Kd.zAj hG _) kn_joints).mono ?_
 rintro e w2 ⟨v2, rfl, hS2, hb2⟩
 obtain ⟨A2, c2, rfl⟩ := Kd.zCa hS2
 have h := Kd.zBp hS2
 exact ⟨A2, c2, rfl, ⟨h.2.1, h.2.2⟩, (zA1 (Below.refl W.heap.size W) _).trans (hb2.mono (by simp))⟩
theorem kn26 (W : World) : Calls Tryz.prog 25 #[.slice (some ⟨W.heap.size + 1 + 1 + 1, 0, none⟩) 3 3, .int .i64 5] ((((W.alloc (.cells #[.int .i64 0, .int .i64 1] 3)).alloc (.cells #[.int .i64 0, .int .i64 1, .int .i64 2] 3)).alloc (.cells #[.int .i64 3, .int .i64 4] 3)).alloc (.cells #[.string ⟨#[97]⟩, .slice (some ⟨W.heap.size, 0, none⟩) 2 2, .string ⟨#[98]⟩, .slice (some ⟨W.heap.size + 1, 0, none⟩) 3 3, .string ⟨#[99]⟩, .slice (some ⟨W.heap.size + 1 + 1, 0, none⟩) 2 2] 60)) fun e w' => ∃ A2 c2, e = .returned (.tuple #[.slice A2 3 c2, .int .i64 0]) ∧ (3 ≤ c2 ∧ Kd.C (Kd.int .i64) w' A2 3 [1, -1, -1]) ∧ Below W.heap.size W w' := by
 refine (zAm.calls 100 _ _ KG 5 [1, -1, -1] 0 _ (litG W) (Nat.le_refl _) kn_parents).mono ?_
 rintro e w2 ⟨v2, rfl, hS2, hb2⟩
 obtain ⟨A2, c2, rfl⟩ := Kd.zCa hS2
 have h := Kd.zBp hS2
 exact ⟨A2, c2, rfl, ⟨h.2.1, h.2.2⟩, (zA1 (zA1 (zA1 (zA1 (Below.refl W.heap.size W) _) _) _) _).trans (hb2.mono (by simp; omega))⟩
theorem kn21 (W : World) (A2 : Option Addr) (c2 : Nat) (h : Kd.C (Kd.slice 3 (Kd.int .i64)) W A2 2 [[0, 1], [3]]) (hc : 2 ≤ c2) : Calls Tryz.prog 10 #[.slice A2 2 c2, .slice (some ⟨W.heap.size + 1 + 1, 0, none⟩) 2 2] (((W.alloc (.cells #[.int .i64 0, .int .i64 1] 3)).alloc (.cells #[.int .i64 3] 3)).alloc (.cells #[.slice (some ⟨W.heap.size, 0, none⟩) 2 2, .slice (some ⟨W.heap.size + 1, 0, none⟩) 1 1] 23)) fun e w' => e = .returned (.bool true) ∧ Below W.heap.size W w' := by
 have h1 : Kd.C (Kd.int .i64) (W.alloc (.cells #[.int .i64 0, .int .i64 1] 3)) (some ⟨W.heap.size, 0, none⟩) 2 [0, 1] := litI W [0, 1] _ rfl (by decide)
 have h2 := litI (W.alloc (.cells #[.int .i64 0, .int .i64 1] 3)) [3] _ rfl (by decide)
 rw [World.size_alloc] at h2
 have h4 := litC (Kd.slice 3 (Kd.int .i64)) ((W.alloc (.cells #[.int .i64 0, .int .i64 1] 3)).alloc (.cells #[.int .i64 3] 3)) 23 [[0, 1], [3]] [[.slice (some ⟨W.heap.size, 0, none⟩) 2 2], [.slice (some ⟨W.heap.size + 1, 0, none⟩) 1 1]] #[.slice (some ⟨W.heap.size, 0, none⟩) 2 2, .slice (some ⟨W.heap.size + 1, 0, none⟩) 1 1] rfl rfl (by decide) (fun c hc => by simp only [List.mem_cons, List.not_mem_nil, or_false] at hc; rcases hc with rfl | rfl <;> rfl) (fun j x c hx hc => by
  rcases j with _ | _ | j
  ·cases hx; cases hc
   exact ⟨_, _, rfl, Nat.le_refl _, Kd.zAj (Kd.zAj h1 _) _⟩
  ·cases hx; cases hc
   exact ⟨_, _, rfl, Nat.le_refl _, Kd.zAj h2 _⟩
  ·simp at hx)
 simp only [World.size_alloc] at h4
 refine (zB9.calls 100 A2 c2 [[0, 1], [3]] _ 2 [[0, 1], [3]] true _ (Kd.zAj (Kd.zAj (Kd.zAj h _) _) _) hc h4 (Nat.le_refl _) kn_same1).mono ?_
 rintro e w2 ⟨rfl, ⟨n, rfl⟩⟩
 exact ⟨rfl, zA0 (zA1 (zA1 (zA1 (Below.refl _ _) _) _) _) n⟩
theorem kn14 (W : World) (A : Option Addr) (c : Nat) (a b : Int) (h : Kd.C (Kd.int .i64) W A 2 [a, b]) (hc : 2 ≤ c) (hs : zB4.f 100 [a, b] [a, b] = some true) : Calls Tryz.prog 26 #[.slice A 2 c, .slice (some ⟨W.heap.size, 0, none⟩) 2 2] (W.alloc (.cells #[.int .i64 a, .int .i64 b] 3)) fun e w' => e = .returned (.bool true) ∧ Below W.heap.size W w' := by
 have h1 := litI W [a, b] _ rfl (by simp)
 refine (zB4.calls 100 A c [a, b] _ 2 [a, b] true _ (Kd.zAj h _) hc h1 (Nat.le_refl _) hs).mono ?_
 rintro e w2 ⟨rfl, ⟨n, rfl⟩⟩
 exact ⟨rfl, zA0 (zA1 (Below.refl _ _) _) n⟩
theorem kn14c (W : World) (A : Option Addr) (c : Nat) (a b d : Int) (h : Kd.C (Kd.int .i64) W A 3 [a, b, d]) (hc : 3 ≤ c) (hs : zB4.f 100 [a, b, d] [a, b, d] = some true) : Calls Tryz.prog 26 #[.slice A 3 c, .slice (some ⟨W.heap.size, 0, none⟩) 3 3] (W.alloc (.cells #[.int .i64 a, .int .i64 b, .int .i64 d] 3)) fun e w' => e = .returned (.bool true) ∧ Below W.heap.size W w' := by
 have h1 := litI W [a, b, d] _ rfl (by simp)
 refine (zB4.calls 100 A c [a, b, d] _ 3 [a, b, d] true _ (Kd.zAj h _) hc h1 (Nat.le_refl _) hs).mono ?_
 rintro e w2 ⟨rfl, ⟨n, rfl⟩⟩
 exact ⟨rfl, zA0 (zA1 (Below.refl _ _) _) n⟩
theorem knRead (W : World) (A : Option Addr) (h : Kd.C k46 W A 3 KC) : ∃ ad B0 d0 B1 d1, A = some ad ∧ W.cell? ⟨ad.block, ad.off + 2, none⟩ = some (.slice B0 2 d0) ∧ W.cell? ⟨ad.block, ad.off + 2 + 1, none⟩ = some (.slice B1 2 d1) ∧ (2 ≤ d0 ∧ Kd.C (Kd.int .i64) W B0 2 [0, 1]) ∧ (2 ≤ d1 ∧ Kd.C (Kd.int .i64) W B1 2 [2, 3]) := by
 obtain ⟨ad, B0, d0, B1, d1, e, h0, h1, h2, h3, h4, h5⟩ := at_T46 h 1 (by decide) (by decide)
 exact ⟨ad, B0, d0, B1, d1, e, h0, h1, ⟨h2, h3⟩, ⟨h4, h5⟩⟩
def KN.f : Option Bool := some true
set_option maxRecDepth 100000 in
set_option maxHeartbeats 600000 in
theorem KN.calls (r : Bool) (w : World) (hG : Kd.C (Kd.int .u8) w (some tabA) tabL.length tabL) (h : KN.f = some r) :
  Calls Tryz.prog 7 #[] w fun e w' => e = .returned (.bool r) ∧ Below w.heap.size w w' := by
 have hu28 := Tryz.underlying28
 have hu41 := Tryz.underlying46
 have hu57 := Tryz.underlying60
 have hu68 := Tryz.underlying58
 obtain rfl : true = r := Option.some.inj h
 have HG := zA2.mk hG
 clear hG h
 go_enter Tryz.func7, Tryz.ntmps7
 go_wp2_with (first
  | (go_at_call 24; refine (kn33 w).mono ?_; rintro e w1 ⟨A1, c1, rfl, h1, hb1⟩; have H1 := zA2.mk h1; have HB1 := zA2.mk hb1; clear h1 hb1)
  | (go_at_call 13; refine (kn17 w1 A1 c1 H1.out.2 H1.out.1 (Kd.zAk HG.out HB1.out)).mono ?_; rintro e w2 ⟨A2, c2, rfl, h2, hb2, hk2⟩; have H2 := zA2.mk h2; have HB2 := zA2.mk hb2; have HK2 := zA2.mk hk2; have hz20 := (zA7 hk2 0).trans rfl; have hz21 := (zA7 hk2 1).trans rfl; clear h2 hb2 hk2)
  | (go_at_call 14; refine (kn10 w2 A1 c1 (Kd.zAk H1.out.2 HB2.out) H1.out.1 (Kd.zAk (Kd.zAk HG.out HB1.out) HB2.out)).mono ?_; rintro e w3 ⟨A3, c3, rfl, h3, hb3⟩; have H3 := zA2.mk h3; have HB3 := zA2.mk hb3; have hk3 := zAl HK2.out hb3; have HK3 := zA2.mk hk3; have hz30 := (zA7 hk3 0).trans rfl; have hz31 := (zA7 hk3 1).trans rfl; clear h3 hb3 hk3)
  | (go_at_call 15; refine (kn11 w3 A1 c1 (Kd.zAk (Kd.zAk H1.out.2 HB2.out) HB3.out) H1.out.1 (Kd.zAk (Kd.zAk (Kd.zAk HG.out HB1.out) HB2.out) HB3.out)).mono ?_; rintro e w4 ⟨A4, c4, rfl, h4, hb4⟩; have H4 := zA2.mk h4; have HB4 := zA2.mk hb4; clear h4 hb4)
  | (go_at_call 25; refine (kn26 w4).mono ?_; rintro e w5 ⟨A5, c5, rfl, h5, hb5⟩; have H5 := zA2.mk h5; have HB5 := zA2.mk hb5; clear h5 hb5)
  | (go_at_call 10; refine (kn21 w5 A2 c2 (Kd.zAk (Kd.zAk (Kd.zAk H2.out.2 HB3.out) HB4.out) HB5.out) H2.out.1).mono ?_; rintro e w6 ⟨rfl, hb6⟩; have HB6 := zA2.mk hb6; obtain ⟨ad, B0, d0, B1, d1, rfl, hy0, hy1, hL, hR⟩ := knRead w6 A3 (Kd.zAk (Kd.zAk (Kd.zAk H3.out.2 HB4.out) HB5.out) HB6.out); have HLL := zA2.mk hL; have HRR := zA2.mk hR; have HY1 := zA2.mk hy1; clear hb6 hL hR hy1)
  | (go_at_call 26; with_reducible refine (kn14 w6 B0 d0 0 1 HLL.out.2 HLL.out.1 kn_same2).mono ?_; rintro e w7 ⟨rfl, hb7⟩; have hy7 := (hb7.cell (World.block_lt_of_cell? w6 _ HY1.out)).trans HY1.out; have HB7 := zA2.mk hb7; clear hb7)
  | (go_at_call 26; with_reducible refine (kn14 w7 B1 d1 2 3 (Kd.zAk HRR.out.2 HB7.out) HRR.out.1 kn_same3).mono ?_; rintro e w8 ⟨rfl, hb8⟩; have HB8 := zA2.mk hb8; clear hb8)
  | (go_at_call 26; with_reducible refine (kn14 w8 A4 c4 1 2 (Kd.zAk (Kd.zAk (Kd.zAk (Kd.zAk H4.out.2 HB5.out) HB6.out) HB7.out) HB8.out) H4.out.1 kn_same4).mono ?_; rintro e w9 ⟨rfl, hb9⟩; have HB9 := zA2.mk hb9; clear hb9)
  | (go_at_call 26; with_reducible refine (kn14c w9 A5 c5 1 (-1) (-1) (Kd.zAk (Kd.zAk (Kd.zAk (Kd.zAk H5.out.2 HB6.out) HB7.out) HB8.out) HB9.out) H5.out.1 kn_same5).mono ?_; rintro e w10 ⟨rfl, hb10⟩; have HB10 := zA2.mk hb10; clear hb10))
 go_ret
 exact ⟨rfl, (zAe (zAe (zAe (zAe (zAe (zAe (zAe (zAe (zAe HB1.out HB2.out) HB3.out) HB4.out) HB5.out) HB6.out) HB7.out) HB8.out) HB9.out) HB10.out)⟩
end
end Go.Proofs.YtbghfbhlbfcloaaGreatDoor.PL
namespace Go.Proofs.YtbghfbhlbfcloaaGreatDoor.PL
section
open Go.RowKit Go.Proofs.YtbghfbhlbfcloaaGreatDoorW.PrintWords Go.Proofs.YtbghfbhlbfcloaaGreatDoorW.PrintLast Go.Proofs.YtbghfbhlbfcloaaGreatDoorW.PrintMore
attribute [local go_sem] zBu zBs zC3 zC2 zBn zBm zBt zBr   -- for this text's walks alone
set_option linter.unusedVariables false
set_option linter.unusedSimpArgs false
attribute [local go_sem high] eqA58
def zCc.f  : Option (Bool) := KN.f 
theorem zCc.calls  (r : Bool) (w : World) (hG : Kd.C (Kd.int .u8) w (some tabA) tabL.length tabL) (h : zCc.f  = some r) :
  Calls Tryz.prog 7 #[] w fun e w' => e = .returned (.bool r) ∧ Below w.heap.size w w' :=
  KN.calls r w hG h
end
end Go.Proofs.YtbghfbhlbfcloaaGreatDoor.PL
namespace Go.Proofs.YtbghfbhlbfcloaaGreatDoor.PL
section
open Go.RowKit Go.Proofs.YtbghfbhlbfcloaaGreatDoorW.PrintWords Go.Proofs.YtbghfbhlbfcloaaGreatDoorW.PrintLast Go.Proofs.YtbghfbhlbfcloaaGreatDoorW.PrintMore
attribute [local go_sem] zBu zBs zC3 zC2 zBn zBm zBt zBr   -- for this text's walks alone
set_option linter.unusedVariables false
set_option linter.unusedSimpArgs false
def zBw.f (k : Nat) (a0_0 : Int) (l0_1 : List (S58)) (l1 : List Int) : Option (Bool × Int) := (zB3.f k a0_0 l0_1 l1).bind fun bt329 => (if bt329.2.2 = 0 then ((zAg.f k bt329.1 bt329.2.1).bind fun t334 => (some (t334, bt329.2.2))) else (some (false, bt329.2.2)))
theorem zBw.mono : ∀ a0 a1 a2 k, LeO (zBw.f k a0 a1 a2) (zBw.f (k + 1) a0 a1 a2) := by
 intro a0 a1 a2 k
 unfold zBw.f
 repeat' first
   | (with_reducible exact zAg.mono _ _ _)
   | (with_reducible exact zB3.mono _ _ _ _)
   | (with_reducible exact LeO.refl _)
   | (with_reducible exact LeO.none _)
   | (with_reducible refine LeO.ite ?_ ?_)
   | (with_reducible refine LeO.bind ?_ (fun _ => ?_))
set_option maxHeartbeats 8000000 in
set_option maxRecDepth 100000 in
theorem zBw.calls (k : Nat) (a0_0 : Int) (A0_1 : Option Addr) (c0_1 : Nat) (l0_1 : List (S58)) (A1 : Option Addr) (c1 : Nat) (l1 : List Int) (r1 : Bool) (r2 : Int) (w : World) (hr0_1 : Kd.C k58 w A0_1 l0_1.length l0_1) (hc0_1 : l0_1.length ≤ c0_1) (hr1 : Kd.C (Kd.int .i64) w A1 l1.length l1) (hc1 : l1.length ≤ c1) (hG : Kd.C (Kd.int .u8) w (some tabA) tabL.length tabL) (h : zBw.f k a0_0 l0_1 l1 = some (r1, r2)) :
  Calls Tryz.prog 12 #[.agg #[.int .i64 a0_0, .slice A0_1 l0_1.length c0_1], .slice A1 l1.length c1] w fun e w' => e = .returned (.tuple #[.bool r1, .int .i64 r2]) ∧ Below w.heap.size w w' := by
 have hu28 := Tryz.underlying28
 have HR0_1 := zA2.mk hr0_1
 have HC0_1 := zA2.mk hc0_1
 clear hr0_1 hc0_1
 have HR1 := zA2.mk hr1
 have HC1 := zA2.mk hc1
 clear hr1 hc1
 have HB := zA2.mk (Below.refl w.heap.size w)
 have HG := zA2.mk hG
 clear hG
 have H : ((zB3.f k a0_0 l0_1 l1).bind fun bt329 => (if bt329.2.2 = 0 then ((zAg.f k bt329.1 bt329.2.1).bind fun t334 => (some (t334, bt329.2.2))) else (some (false, bt329.2.2)))) = some (r1, r2) := h
 clear h
 replace H := Option.bind_eq_some_iff.mp H
 obtain ⟨⟨t329, t332, t333⟩, A30, H⟩ := H
 replace H : (if t333 = 0 then ((zAg.f k t329 t332).bind fun t334 => (some (t334, t333))) else (some (false, t333))) = some (r1, r2) := H
 have A3 := zA2.mk A30
 clear A30
 by_cases c4 : t333 = 0
 ·rw [if_pos c4] at H
  have c4b0 : (t333 == 0) = true := beq_iff_eq.mpr c4
  have c4b1 : (t333 != 0) = false := bne_eq_false_iff_eq.mpr c4
  clear c4
  replace H := Option.bind_eq_some_iff.mp H
  obtain ⟨t334, A50, H⟩ := H
  replace H : (some (t334, t333)) = some (r1, r2) := H
  have A5 := zA2.mk A50
  clear A50
  simp only [Option.some.injEq, Prod.mk.injEq] at H
  obtain ⟨rfl, rfl⟩ := H
  go_enter Tryz.func12, Tryz.ntmps12
  go_wp2_with (first | ((with_reducible refine zBl (N := 2) rfl ?_); refine zBj ?hg (N := 2) ?hd (cs := #[.int .i64 a0_0, .slice A0_1 l0_1.length c0_1]) (t := 28) ?hr ?_; (case hd => rfl); (case hg => rfl); (case hr => first | (go_simp; done) | (go_simp; rfl)); intro gb328 hg w6 hbox hb; have n0_ := zA2.mk (zAe (by repeat (first | (with_reducible first | exact HB.out | apply zA1 | apply zA0 | apply zA3) | exact HB.out)) hb); have n1_ := zA2.mk (hbox); have n2_ := zA2.mk ((by rw [hg]; exact (zAb (by repeat (first | (with_reducible first | exact HB.out | apply zA1 | apply zA0 | apply zA3) | exact HB.out))) : w.heap.size ≤ gb328)); have n3_ := zA2.mk ((by rw [hg]; exact (zAb (by repeat (first | (with_reducible first | exact HB.out | apply zA1 | apply zA0 | apply zA3) | exact HB.out))) : w.heap.size ≤ gb328)); clear HB; have HB := n0_; have BK328 := n1_; have GW328 := n2_; have GE328 := n3_; clear n0_ n1_ n2_ n3_; clear hb hbox hg; have hcz7_0 : w6.cell? ⟨gb328, 0, none⟩ = some (.int .i64 a0_0) := (zA7 BK328.out 0).trans rfl; have hcz7_1 : w6.cell? ⟨gb328, 1, none⟩ = some (.slice A0_1 l0_1.length c0_1) := (zA7 BK328.out 1).trans rfl; have hfz7_0 := zA9 BK328.out 0; have hfz7_1 := zA9 BK328.out 1) | ((with_reducible refine zAp (f := 27) rfl ?_); refine zBq (some 12) rfl rfl Tryz.func27 (by kernel_rfl) rfl #[.agg #[.int .i64 a0_0, .slice A0_1 l0_1.length c0_1], .slice A1 l1.length c1] rfl (by (try simp only [List.map_toArray, List.map_cons, List.map_nil]); first | done | rfl | (simp only [List.length_drop, List.length_take]; rfl)) ?_; (with_reducible refine (zB3.calls k a0_0 _ _ l0_1 _ _ l1 t329 t332 t333 _ ?side1 ?side2 ?side3 ?side4 A3.out).mono ?_); (case side1 => repeat (first | exact (Kd.zAk HR0_1.out HB.out) | (with_reducible refine Kd.zAj ?_ _) | (with_reducible refine Kd.zAs ?_ _) | (with_reducible refine Kd.zB2 ?_))); (case side2 => exact HC0_1.out); (case side3 => repeat (first | exact (Kd.zAk HR1.out HB.out) | (with_reducible refine Kd.zAj ?_ _) | (with_reducible refine Kd.zAs ?_ _) | (with_reducible refine Kd.zB2 ?_))); (case side4 => exact HC1.out); rintro e w8 ⟨v330, rfl, ho0, hb⟩; refine ⟨_, rfl, ?_⟩; have n0_ := zA2.mk (Kd.R_lower ho0 (zAb (by repeat (first | (with_reducible first | exact HB.out | apply zA1 | apply zA0 | apply zA3 | refine zA4 ?_ GE328.out) | exact HB.out)))); have n1_ := zA2.mk (zAl (g := gb328) (o := .cells #[.int .i64 a0_0, .slice A0_1 l0_1.length c0_1] 28 (0, 0)) (by (with_reducible repeat (first | refine zA6 ?_ _ | refine zA8 ?_ | refine zA5 ?_ _)); exact BK328.out) hb); have n2_ := zA2.mk (zAe (by repeat (first | (with_reducible first | exact HB.out | apply zA1 | apply zA0 | apply zA3 | refine zA4 ?_ GE328.out) | exact HB.out)) hb); clear BK328; clear HB; have HO331 := n0_; have BK328 := n1_; have HB := n2_; clear n0_ n1_ n2_; (try clear hb); (try clear hb2); (try clear hk); (try clear hi); (try clear ho0); obtain ⟨Ao9, co9, eo9⟩ := Kd.zCa HO331.out; subst eo9) | (go_at_call 35; (with_reducible refine (zAg.calls k _ _ t329 t332 t334 _ ?side1 ?side2 ?side3 A5.out).mono ?_); (case side1 => repeat (first | exact (Kd.zBp HO331.out).2.2 | (with_reducible refine Kd.zAj ?_ _) | (with_reducible refine Kd.zAs ?_ _) | (with_reducible refine Kd.zB2 ?_))); (case side2 => exact (Kd.zBp HO331.out).2.1); (case side3 => repeat (first | exact (Kd.zAk HG.out HB.out) | (with_reducible refine Kd.zAj ?_ _) | (with_reducible refine Kd.zAs ?_ _) | (with_reducible refine Kd.zB2 ?_))); rintro e w10 ⟨rfl, hb⟩; have n0_ := zA2.mk (Kd.R_below (by (with_reducible repeat (first | apply Kd.zB6 | apply Kd.zB5 | apply Kd.zBf)); exact HO331.out) hb); have n1_ := zA2.mk (zAl (g := gb328) (o := .cells #[.int .i64 a0_0, .slice A0_1 l0_1.length c0_1] 28 (0, 0)) (by (with_reducible repeat (first | refine zA6 ?_ _ | refine zA8 ?_ | refine zA5 ?_ _)); exact BK328.out) hb); have n2_ := zA2.mk (zAe (by repeat (first | (with_reducible first | exact HB.out | apply zA1 | apply zA0 | apply zA3 | refine zA4 ?_ GE328.out) | exact HB.out)) hb); clear HO331; clear BK328; clear HB; have HO331 := n0_; have BK328 := n1_; have HB := n2_; clear n0_ n1_ n2_; (try clear hb); (try clear hb2); (try clear hk); (try clear hi)))
  go_ret2
  exact ⟨by first | rfl | (simp [zAr, zAq] <;> rfl) | (simp [*, zAr, zAq] <;> rfl), by repeat (first | (with_reducible first | exact HB.out | apply zA1 | apply zA0 | apply zA3 | refine zA4 ?_ GE328.out) | exact HB.out)⟩
 ·rw [if_neg c4] at H
  have c4b0 : (t333 == 0) = false := beq_eq_false_iff_ne.mpr c4
  have c4b1 : (t333 != 0) = true := bne_iff_ne.mpr c4
  simp only [Option.some.injEq, Prod.mk.injEq] at H
  obtain ⟨rfl, rfl⟩ := H
  go_enter Tryz.func12, Tryz.ntmps12
  go_wp2_with (first | ((with_reducible refine zBl (N := 2) rfl ?_); refine zBj ?hg (N := 2) ?hd (cs := #[.int .i64 a0_0, .slice A0_1 l0_1.length c0_1]) (t := 28) ?hr ?_; (case hd => rfl); (case hg => rfl); (case hr => first | (go_simp; done) | (go_simp; rfl)); intro gb328 hg w11 hbox hb; have n0_ := zA2.mk (zAe (by repeat (first | (with_reducible first | exact HB.out | apply zA1 | apply zA0 | apply zA3) | exact HB.out)) hb); have n1_ := zA2.mk (hbox); have n2_ := zA2.mk ((by rw [hg]; exact (zAb (by repeat (first | (with_reducible first | exact HB.out | apply zA1 | apply zA0 | apply zA3) | exact HB.out))) : w.heap.size ≤ gb328)); have n3_ := zA2.mk ((by rw [hg]; exact (zAb (by repeat (first | (with_reducible first | exact HB.out | apply zA1 | apply zA0 | apply zA3) | exact HB.out))) : w.heap.size ≤ gb328)); clear HB; have HB := n0_; have BK328 := n1_; have GW328 := n2_; have GE328 := n3_; clear n0_ n1_ n2_ n3_; clear hb hbox hg; have hcz12_0 : w11.cell? ⟨gb328, 0, none⟩ = some (.int .i64 a0_0) := (zA7 BK328.out 0).trans rfl; have hcz12_1 : w11.cell? ⟨gb328, 1, none⟩ = some (.slice A0_1 l0_1.length c0_1) := (zA7 BK328.out 1).trans rfl; have hfz12_0 := zA9 BK328.out 0; have hfz12_1 := zA9 BK328.out 1) | ((with_reducible refine zAp (f := 27) rfl ?_); refine zBq (some 12) rfl rfl Tryz.func27 (by kernel_rfl) rfl #[.agg #[.int .i64 a0_0, .slice A0_1 l0_1.length c0_1], .slice A1 l1.length c1] rfl (by (try simp only [List.map_toArray, List.map_cons, List.map_nil]); first | done | rfl | (simp only [List.length_drop, List.length_take]; rfl)) ?_; (with_reducible refine (zB3.calls k a0_0 _ _ l0_1 _ _ l1 t329 t332 t333 _ ?side1 ?side2 ?side3 ?side4 A3.out).mono ?_); (case side1 => repeat (first | exact (Kd.zAk HR0_1.out HB.out) | (with_reducible refine Kd.zAj ?_ _) | (with_reducible refine Kd.zAs ?_ _) | (with_reducible refine Kd.zB2 ?_))); (case side2 => exact HC0_1.out); (case side3 => repeat (first | exact (Kd.zAk HR1.out HB.out) | (with_reducible refine Kd.zAj ?_ _) | (with_reducible refine Kd.zAs ?_ _) | (with_reducible refine Kd.zB2 ?_))); (case side4 => exact HC1.out); rintro e w13 ⟨v330, rfl, ho0, hb⟩; refine ⟨_, rfl, ?_⟩; have n0_ := zA2.mk (Kd.R_lower ho0 (zAb (by repeat (first | (with_reducible first | exact HB.out | apply zA1 | apply zA0 | apply zA3 | refine zA4 ?_ GE328.out) | exact HB.out)))); have n1_ := zA2.mk (zAl (g := gb328) (o := .cells #[.int .i64 a0_0, .slice A0_1 l0_1.length c0_1] 28 (0, 0)) (by (with_reducible repeat (first | refine zA6 ?_ _ | refine zA8 ?_ | refine zA5 ?_ _)); exact BK328.out) hb); have n2_ := zA2.mk (zAe (by repeat (first | (with_reducible first | exact HB.out | apply zA1 | apply zA0 | apply zA3 | refine zA4 ?_ GE328.out) | exact HB.out)) hb); clear BK328; clear HB; have HO331 := n0_; have BK328 := n1_; have HB := n2_; clear n0_ n1_ n2_; (try clear hb); (try clear hb2); (try clear hk); (try clear hi); (try clear ho0)))
  go_ret2
  exact ⟨by first | rfl | (simp [zAr, zAq] <;> rfl) | (simp [*, zAr, zAq] <;> rfl), by repeat (first | (with_reducible first | exact HB.out | apply zA1 | apply zA0 | apply zA3 | refine zA4 ?_ GE328.out) | exact HB.out)⟩
end
end Go.Proofs.YtbghfbhlbfcloaaGreatDoor.PL
namespace Go.Proofs.YtbghfbhlbfcloaaGreatDoor.PL
section
open Go.RowKit Go.Proofs.YtbghfbhlbfcloaaGreatDoorW.PrintWords Go.Proofs.YtbghfbhlbfcloaaGreatDoorW.PrintLast Go.Proofs.YtbghfbhlbfcloaaGreatDoorW.PrintMore
attribute [local go_sem] zBu zBs zC3 zC2 zBn zBm zBt zBr   -- for this text's walks alone
set_option linter.unusedVariables false
set_option linter.unusedSimpArgs false
mutual
def zAd.j0 : Nat → List Int → Bool → Int → List (S58) → Option (Bool)
 | 0, _, _, _, _ => none
 | k + 1, x1, x26, x411000, x411001 => if x26 = true then ((zCc.f).bind fun t412 => (some t412)) else ((zB1.f k x411000 x411001).bind fun t413 => ((zAy.f k x411000 x411001).bind fun t414 => (if t414 = t413 then (if t413 = 0 then ((zAh.f k x1 x411000).bind fun t415 => (zAd.j1 k x1 t415 x411000 x411001)) else (zAd.j1 k x1 t413 x411000 x411001)) else (some false))))
def zAd.j1 : Nat → List Int → Int → Int → List (S58) → Option (Bool)
 | 0, _, _, _, _ => none
 | k + 1, x1, x5, x411000, x411001 => (zBw.f k x411000 x411001 x1).bind fun bt416 => ((zBb.f k x411000 x411001 x1).bind fun bt418 => ((zAx.f k x411000 x411001 x1).bind fun bt422 => ((liaison_Subsets.f x411000 x411001 x1 1).bind fun bt426 => (if bt416.2 = x5 then (if bt418.2 = x5 then (if bt422.2 = x5 then (some (bt426.2 == x5)) else (some false)) else (some false)) else (some false)))))
end
def zAd.f (k : Nat) (a0_0 : Int) (l0_1 : List (S58)) (l1 : List Int) : Option (Bool) := (zCc.f).bind fun t411 => (if t411 = true then (if (l0_1.length : Int) > 20 then (zAd.j0 k l1 true a0_0 l0_1) else (zAd.j0 k l1 (decide ((l1.length : Int) > 10)) a0_0 l0_1)) else (zAd.j0 k l1 true a0_0 l0_1))
theorem zAd.zBv : ∀ k, (∀ y0 y1 y2 y3, LeO (zAd.j0 k y0 y1 y2 y3) (zAd.j0 (k + 1) y0 y1 y2 y3)) ∧ (∀ y0 y1 y2 y3, LeO (zAd.j1 k y0 y1 y2 y3) (zAd.j1 (k + 1) y0 y1 y2 y3))
 | 0 => ⟨fun _ _ _ _ r h => by simp [zAd.j0] at h, fun _ _ _ _ r h => by simp [zAd.j1] at h⟩
 | k + 1 => by
  obtain ⟨ih0, ih1⟩ := zAd.zBv k
  refine ⟨?_, ?_⟩
  ·intro y0 y1 y2 y3
   unfold zAd.j0
   repeat' first
   | (with_reducible exact ih0 _ _ _ _)
   | (with_reducible exact ih1 _ _ _ _)
   | (with_reducible exact zB1.mono _ _ _)
   | (with_reducible exact zAh.mono _ _ _)
   | (with_reducible exact zAy.mono _ _ _)
   | (with_reducible exact zBw.mono _ _ _ _)
   | (with_reducible exact zAx.mono _ _ _ _)
   | (with_reducible exact zBb.mono _ _ _ _)
   | (with_reducible exact LeO.refl _)
   | (with_reducible exact LeO.none _)
   | (with_reducible refine LeO.ite ?_ ?_)
   | (with_reducible refine LeO.bind ?_ (fun _ => ?_))
  ·intro y0 y1 y2 y3
   unfold zAd.j1
   repeat' first
   | (with_reducible exact ih0 _ _ _ _)
   | (with_reducible exact ih1 _ _ _ _)
   | (with_reducible exact zB1.mono _ _ _)
   | (with_reducible exact zAh.mono _ _ _)
   | (with_reducible exact zAy.mono _ _ _)
   | (with_reducible exact zBw.mono _ _ _ _)
   | (with_reducible exact zAx.mono _ _ _ _)
   | (with_reducible exact zBb.mono _ _ _ _)
   | (with_reducible exact LeO.refl _)
   | (with_reducible exact LeO.none _)
   | (with_reducible refine LeO.ite ?_ ?_)
   | (with_reducible refine LeO.bind ?_ (fun _ => ?_))
theorem zAd.mono : ∀ a0 a1 a2 k, LeO (zAd.f k a0 a1 a2) (zAd.f (k + 1) a0 a1 a2) := by
 intro a0 a1 a2 k
 obtain ⟨ih0, ih1⟩ := zAd.zBv k
 unfold zAd.f
 repeat' first
   | (with_reducible exact ih0 _ _ _ _)
   | (with_reducible exact ih1 _ _ _ _)
   | (with_reducible exact zB1.mono _ _ _)
   | (with_reducible exact zAh.mono _ _ _)
   | (with_reducible exact zAy.mono _ _ _)
   | (with_reducible exact zBw.mono _ _ _ _)
   | (with_reducible exact zAx.mono _ _ _ _)
   | (with_reducible exact zBb.mono _ _ _ _)
   | (with_reducible exact LeO.refl _)
   | (with_reducible exact LeO.none _)
   | (with_reducible refine LeO.ite ?_ ?_)
   | (with_reducible refine LeO.bind ?_ (fun _ => ?_))
set_option maxHeartbeats 8000000 in
set_option maxRecDepth 100000 in
theorem zAd.calls (k : Nat) (a0_0 : Int) (A0_1 : Option Addr) (c0_1 : Nat) (l0_1 : List (S58)) (A1 : Option Addr) (c1 : Nat) (l1 : List Int) (r : Bool) (w : World) (hr0_1 : Kd.C k58 w A0_1 l0_1.length l0_1) (hc0_1 : l0_1.length ≤ c0_1) (hr1 : Kd.C (Kd.int .i64) w A1 l1.length l1) (hc1 : l1.length ≤ c1) (hG : Kd.C (Kd.int .u8) w (some tabA) tabL.length tabL) (h : zAd.f k a0_0 l0_1 l1 = some r) :
  Calls Tryz.prog 5 #[.agg #[.int .i64 a0_0, .slice A0_1 l0_1.length c0_1], .slice A1 l1.length c1] w fun e w' => e = .returned (.bool r) ∧ Below w.heap.size w w' := by
 have hu28 := Tryz.underlying28
 have HR0_1 := zA2.mk hr0_1
 have HC0_1 := zA2.mk hc0_1
 clear hr0_1 hc0_1
 have HR1 := zA2.mk hr1
 have HC1 := zA2.mk hc1
 clear hr1 hc1
 have HB := zA2.mk (Below.refl w.heap.size w)
 have HG := zA2.mk hG
 clear hG
 have H : ((zCc.f).bind fun t411 => (if t411 = true then (if (l0_1.length : Int) > 20 then (zAd.j0 k l1 true a0_0 l0_1) else (zAd.j0 k l1 (decide ((l1.length : Int) > 10)) a0_0 l0_1)) else (zAd.j0 k l1 true a0_0 l0_1))) = some r := h
 clear h
 have HC3 := zA2.mk H
 clear H
 go_enter Tryz.func5, Tryz.ntmps5
 go_upto_region 1 with (first | ((with_reducible refine zBl (N := 2) rfl ?_); (try (refine gate_guard (by rfl) ?_; dsimp only)); refine zBj ?hg (N := 2) ?hd (cs := #[.int .i64 a0_0, .slice A0_1 l0_1.length c0_1]) (t := 28) ?hr ?_; (case hd => rfl); (case hg => rfl); (case hr => first | (go_simp; done) | (go_simp; rfl)); intro gb410 hg w4 hbox hb; have n0_ := zA2.mk (zAe (by repeat (first | (with_reducible first | exact HB.out | apply zA1 | apply zA0 | apply zA3) | exact HB.out)) hb); have n1_ := zA2.mk (hbox); have n2_ := zA2.mk ((by rw [hg]; exact (zAb (by repeat (first | (with_reducible first | exact HB.out | apply zA1 | apply zA0 | apply zA3) | exact HB.out))) : w.heap.size ≤ gb410)); have n3_ := zA2.mk ((by rw [hg]; exact (zAb (by repeat (first | (with_reducible first | exact HB.out | apply zA1 | apply zA0 | apply zA3) | exact HB.out))) : w.heap.size ≤ gb410)); clear HB; have HB := n0_; have BK410 := n1_; have GW410 := n2_; have GE410 := n3_; clear n0_ n1_ n2_ n3_; clear hb hbox hg))
 (try simp only [Act.put, List.setIfInBounds_toArray, List.set_cons_zero, List.set_cons_succ])
 go_cut [26] (fun v26 wc => ∃ (kq : Nat) (x26_2 : Bool), v26 = .bool x26_2 ∧ zA2 (zAd.j0 kq l1 x26_2 a0_0 l0_1 = some r) ∧ zA2 (kq ≤ k) ∧ zA2 (wc.heap[gb410]? = some (.cells #[.int .i64 a0_0, (.slice A0_1 l0_1.length c0_1)] 28 (0, 0))) ∧ zA2 (Below w.heap.size w wc))
 case first =>
  have H := HC3.out
  clear HC3
  replace H := Option.bind_eq_some_iff.mp H
  obtain ⟨t411, A50, H⟩ := H
  replace H : (if t411 = true then (if (l0_1.length : Int) > 20 then (zAd.j0 k l1 true a0_0 l0_1) else (zAd.j0 k l1 (decide ((l1.length : Int) > 10)) a0_0 l0_1)) else (zAd.j0 k l1 true a0_0 l0_1)) = some r := H
  have A5 := zA2.mk A50
  clear A50
  by_cases c6 : t411 = true
  ·subst c6
   have H1 : (if (l0_1.length : Int) > 20 then (zAd.j0 k l1 true a0_0 l0_1) else (zAd.j0 k l1 (decide ((l1.length : Int) > 10)) a0_0 l0_1)) = some r := by rw [if_pos rfl] at H; exact H
   clear H
   have H := H1
   clear H1
   by_cases c7 : (l0_1.length : Int) > 20
   ·rw [if_pos c7] at H
    have c7b0 : decide (20 < (l0_1.length : Int)) = true := decide_eq_true c7
    have c7b1 : decide (20 < l0_1.length) = true := decide_eq_true (by omega)
    clear c7
    (first | rw [c7b0] | (simp only [i64_w, i32_w]; rw [c7b0]) | skip)
    have H' := zA2.mk H
    clear H
    go_wp2_with (first | ((with_reducible refine zAp (f := 7) rfl ?_); refine zBq (some 14) rfl rfl Tryz.func7 (by kernel_rfl) rfl #[] rfl (by (try simp only [List.map_toArray, List.map_cons, List.map_nil]); first | done | rfl | (simp only [List.length_drop, List.length_take]; rfl)) ?_; (with_reducible refine (zCc.calls  true _ ?side1 A5.out).mono ?_); (case side1 => repeat (first | exact (Kd.zAk HG.out HB.out) | (with_reducible refine Kd.zAj ?_ _) | (with_reducible refine Kd.zAs ?_ _) | (with_reducible refine Kd.zB2 ?_))); rintro e w8 ⟨rfl, hb⟩; refine ⟨_, rfl, ?_⟩; have n0_ := zA2.mk (zAl (g := gb410) (o := .cells #[.int .i64 a0_0, .slice A0_1 l0_1.length c0_1] 28 (0, 0)) (by (with_reducible repeat (first | refine zA6 ?_ _ | refine zA8 ?_ | refine zA5 ?_ _)); exact BK410.out) hb); have n1_ := zA2.mk (zAe (by repeat (first | (with_reducible first | exact HB.out | apply zA1 | apply zA0 | apply zA3 | refine zA4 ?_ GE410.out) | exact HB.out)) hb); clear BK410; clear HB; have BK410 := n0_; have HB := n1_; clear n0_ n1_; (try clear hb); (try clear hb2); (try clear hk); (try clear hi); have hcz9_0 : w8.cell? ⟨gb410, 0, none⟩ = some (.int .i64 a0_0) := (zA7 BK410.out 0).trans rfl; have hcz9_1 : w8.cell? ⟨gb410, 1, none⟩ = some (.slice A0_1 l0_1.length c0_1) := (zA7 BK410.out 1).trans rfl; have hfz9_0 := zA9 BK410.out 0; have hfz9_1 := zA9 BK410.out 1))
    go_meet
    case rel => exact ⟨_, (true), (by first | rfl | (simp; done) | (simp [*]; done)), H', ⟨by first | omega | exact Nat.le_refl _⟩, ⟨by (with_reducible repeat (first | refine zA6 ?_ _ | refine zA8 ?_ | refine zA5 ?_ _)); exact BK410.out⟩, ⟨by repeat (first | (with_reducible first | exact HB.out | apply zA1 | apply zA0 | apply zA3 | refine zA4 ?_ GE410.out) | exact HB.out)⟩⟩
   ·rw [if_neg c7] at H
    have c7b0 : decide (20 < (l0_1.length : Int)) = false := decide_eq_false c7
    have c7b1 : decide (20 < l0_1.length) = false := decide_eq_false (by omega)
    clear c7
    (first | rw [c7b0] | (simp only [i64_w, i32_w]; rw [c7b0]) | skip)
    have H' := zA2.mk H
    clear H
    go_wp2_with (first | ((with_reducible refine zAp (f := 7) rfl ?_); refine zBq (some 14) rfl rfl Tryz.func7 (by kernel_rfl) rfl #[] rfl (by (try simp only [List.map_toArray, List.map_cons, List.map_nil]); first | done | rfl | (simp only [List.length_drop, List.length_take]; rfl)) ?_; (with_reducible refine (zCc.calls  true _ ?side1 A5.out).mono ?_); (case side1 => repeat (first | exact (Kd.zAk HG.out HB.out) | (with_reducible refine Kd.zAj ?_ _) | (with_reducible refine Kd.zAs ?_ _) | (with_reducible refine Kd.zB2 ?_))); rintro e w10 ⟨rfl, hb⟩; refine ⟨_, rfl, ?_⟩; have n0_ := zA2.mk (zAl (g := gb410) (o := .cells #[.int .i64 a0_0, .slice A0_1 l0_1.length c0_1] 28 (0, 0)) (by (with_reducible repeat (first | refine zA6 ?_ _ | refine zA8 ?_ | refine zA5 ?_ _)); exact BK410.out) hb); have n1_ := zA2.mk (zAe (by repeat (first | (with_reducible first | exact HB.out | apply zA1 | apply zA0 | apply zA3 | refine zA4 ?_ GE410.out) | exact HB.out)) hb); clear BK410; clear HB; have BK410 := n0_; have HB := n1_; clear n0_ n1_; (try clear hb); (try clear hb2); (try clear hk); (try clear hi); have hcz11_0 : w10.cell? ⟨gb410, 0, none⟩ = some (.int .i64 a0_0) := (zA7 BK410.out 0).trans rfl; have hcz11_1 : w10.cell? ⟨gb410, 1, none⟩ = some (.slice A0_1 l0_1.length c0_1) := (zA7 BK410.out 1).trans rfl; have hfz11_0 := zA9 BK410.out 0; have hfz11_1 := zA9 BK410.out 1))
    go_meet
    case rel => exact ⟨_, (decide ((l1.length : Int) > 10)), (by first | rfl | (simp; done) | (simp [*]; done)), H', ⟨by first | omega | exact Nat.le_refl _⟩, ⟨by (with_reducible repeat (first | refine zA6 ?_ _ | refine zA8 ?_ | refine zA5 ?_ _)); exact BK410.out⟩, ⟨by repeat (first | (with_reducible first | exact HB.out | apply zA1 | apply zA0 | apply zA3 | refine zA4 ?_ GE410.out) | exact HB.out)⟩⟩
  ·replace c6 := Bool.eq_false_iff.mpr c6
   subst c6
   have H1 : (zAd.j0 k l1 true a0_0 l0_1) = some r := by rw [if_neg (show ¬ (false = true) by decide)] at H; exact H
   clear H
   have H := H1
   clear H1
   have H' := zA2.mk H
   clear H
   go_wp2_with (first | ((with_reducible refine zAp (f := 7) rfl ?_); refine zBq (some 14) rfl rfl Tryz.func7 (by kernel_rfl) rfl #[] rfl (by (try simp only [List.map_toArray, List.map_cons, List.map_nil]); first | done | rfl | (simp only [List.length_drop, List.length_take]; rfl)) ?_; (with_reducible refine (zCc.calls  false _ ?side1 A5.out).mono ?_); (case side1 => repeat (first | exact (Kd.zAk HG.out HB.out) | (with_reducible refine Kd.zAj ?_ _) | (with_reducible refine Kd.zAs ?_ _) | (with_reducible refine Kd.zB2 ?_))); rintro e w12 ⟨rfl, hb⟩; refine ⟨_, rfl, ?_⟩; have n0_ := zA2.mk (zAl (g := gb410) (o := .cells #[.int .i64 a0_0, .slice A0_1 l0_1.length c0_1] 28 (0, 0)) (by (with_reducible repeat (first | refine zA6 ?_ _ | refine zA8 ?_ | refine zA5 ?_ _)); exact BK410.out) hb); have n1_ := zA2.mk (zAe (by repeat (first | (with_reducible first | exact HB.out | apply zA1 | apply zA0 | apply zA3 | refine zA4 ?_ GE410.out) | exact HB.out)) hb); clear BK410; clear HB; have BK410 := n0_; have HB := n1_; clear n0_ n1_; (try clear hb); (try clear hb2); (try clear hk); (try clear hi)))
   go_meet
   case rel => exact ⟨_, (true), (by first | rfl | (simp; done) | (simp [*]; done)), H', ⟨by first | omega | exact Nat.le_refl _⟩, ⟨by (with_reducible repeat (first | refine zA6 ?_ _ | refine zA8 ?_ | refine zA5 ?_ _)); exact BK410.out⟩, ⟨by repeat (first | (with_reducible first | exact HB.out | apply zA1 | apply zA0 | apply zA3 | refine zA4 ?_ GE410.out) | exact HB.out)⟩⟩
 case rest =>
  clear HC3
  try clear c1
  try clear p2
  try clear c5
  try clear c6
  try clear c7
  try clear c7b0
  try clear c7b1
  try clear hcz11_0
  try clear hcz11_1
  try clear hcz9_0
  try clear hcz9_1
  try clear hfz11_0
  try clear hfz11_1
  try clear hfz9_0
  try clear hfz9_1
  obtain ⟨kq, x26_2, rfl, HA, HJ2, BK410, HB⟩ := hcut
  cases kq with
  | zero => exact absurd HA.out (by simp [zAd.j0])
  | succ kj2 =>
   have H := HA.out
   clear HA
   simp only [zAd.j0] at H
   by_cases c13 : x26_2 = true
   ·subst c13
    have H1 : ((zCc.f).bind fun t412 => (some t412)) = some r := by rw [if_pos rfl] at H; exact H
    clear H
    have H := H1
    clear H1
    replace H := Option.bind_eq_some_iff.mp H
    obtain ⟨t412, A140, H⟩ := H
    replace H : (some t412) = some r := H
    have A14 := zA2.mk A140
    clear A140
    obtain rfl := Option.some.inj H
    go_wp2_with (first | ((with_reducible refine zAp (f := 7) rfl ?_); refine zBq (some 27) rfl rfl Tryz.func7 (by kernel_rfl) rfl #[] rfl (by (try simp only [List.map_toArray, List.map_cons, List.map_nil]); first | done | rfl | (simp only [List.length_drop, List.length_take]; rfl)) ?_; (with_reducible refine (zCc.calls  t412 _ ?side1 A14.out).mono ?_); (case side1 => repeat (first | exact (Kd.zAk HG.out HB.out) | (with_reducible refine Kd.zAj ?_ _) | (with_reducible refine Kd.zAs ?_ _) | (with_reducible refine Kd.zB2 ?_))); rintro e w15 ⟨rfl, hb⟩; refine ⟨_, rfl, ?_⟩; have n0_ := zA2.mk (zAl (g := gb410) (o := .cells #[.int .i64 a0_0, .slice A0_1 l0_1.length c0_1] 28 (0, 0)) (by (with_reducible repeat (first | refine zA6 ?_ _ | refine zA8 ?_ | refine zA5 ?_ _)); exact BK410.out) hb); have n1_ := zA2.mk (zAe (by repeat (first | (with_reducible first | exact HB.out | apply zA1 | apply zA0 | apply zA3 | refine zA4 ?_ GE410.out) | exact HB.out)) hb); clear BK410; clear HB; have BK410 := n0_; have HB := n1_; clear n0_ n1_; (try clear hb); (try clear hb2); (try clear hk); (try clear hi)))
    go_ret
    exact ⟨by first | rfl | (simp [zAr, zAq] <;> rfl) | (simp [*, zAr, zAq] <;> rfl), by repeat (first | (with_reducible first | exact HB.out | apply zA1 | apply zA0 | apply zA3 | refine zA4 ?_ GE410.out) | exact HB.out)⟩
   ·replace c13 := Bool.eq_false_iff.mpr c13
    subst c13
    have H1 : ((zB1.f kj2 a0_0 l0_1).bind fun t413 => ((zAy.f kj2 a0_0 l0_1).bind fun t414 => (if t414 = t413 then (if t413 = 0 then ((zAh.f kj2 l1 a0_0).bind fun t415 => (zAd.j1 kj2 l1 t415 a0_0 l0_1)) else (zAd.j1 kj2 l1 t413 a0_0 l0_1)) else (some false)))) = some r := by rw [if_neg (show ¬ (false = true) by decide)] at H; exact H
    clear H
    have H := H1
    clear H1
    replace H := Option.bind_eq_some_iff.mp H
    obtain ⟨t413, A160, H⟩ := H
    replace H : ((zAy.f kj2 a0_0 l0_1).bind fun t414 => (if t414 = t413 then (if t413 = 0 then ((zAh.f kj2 l1 a0_0).bind fun t415 => (zAd.j1 kj2 l1 t415 a0_0 l0_1)) else (zAd.j1 kj2 l1 t413 a0_0 l0_1)) else (some false))) = some r := H
    have A16 := zA2.mk A160
    clear A160
    replace H := Option.bind_eq_some_iff.mp H
    obtain ⟨t414, A170, H⟩ := H
    replace H : (if t414 = t413 then (if t413 = 0 then ((zAh.f kj2 l1 a0_0).bind fun t415 => (zAd.j1 kj2 l1 t415 a0_0 l0_1)) else (zAd.j1 kj2 l1 t413 a0_0 l0_1)) else (some false)) = some r := H
    have A17 := zA2.mk A170
    clear A170
    by_cases c18 : t414 = t413
    ·rw [if_pos c18] at H
     have c18b0 : (t414 == t413) = true := beq_iff_eq.mpr c18
     have c18b1 : (t414 != t413) = false := bne_eq_false_iff_eq.mpr c18
     clear c18
     have HC19 := zA2.mk H
     clear H
     have hcz20_0 : wc.cell? ⟨gb410, 0, none⟩ = some (.int .i64 a0_0) := (zA7 BK410.out 0).trans rfl
     have hcz20_1 : wc.cell? ⟨gb410, 1, none⟩ = some (.slice A0_1 l0_1.length c0_1) := (zA7 BK410.out 1).trans rfl
     have hfz20_0 := zA9 BK410.out 0
     have hfz20_1 := zA9 BK410.out 1
     go_upto_if 35 with (first | ((with_reducible refine zAp (f := 20) rfl ?_); refine zBq (some 29) rfl rfl Tryz.func20 (by kernel_rfl) rfl #[.agg #[.int .i64 a0_0, .slice A0_1 l0_1.length c0_1]] rfl (by (try simp only [List.map_toArray, List.map_cons, List.map_nil]); first | done | rfl | (simp only [List.length_drop, List.length_take]; rfl)) ?_; (with_reducible refine (zB1.calls kj2 a0_0 _ _ l0_1 t413 _ ?side1 ?side2 A16.out).mono ?_); (case side1 => repeat (first | exact (Kd.zAk HR0_1.out HB.out) | (with_reducible refine Kd.zAj ?_ _) | (with_reducible refine Kd.zAs ?_ _) | (with_reducible refine Kd.zB2 ?_))); (case side2 => exact HC0_1.out); rintro e w21 ⟨rfl, hb⟩; refine ⟨_, rfl, ?_⟩; have n0_ := zA2.mk (zAl (g := gb410) (o := .cells #[.int .i64 a0_0, .slice A0_1 l0_1.length c0_1] 28 (0, 0)) (by (with_reducible repeat (first | refine zA6 ?_ _ | refine zA8 ?_ | refine zA5 ?_ _)); exact BK410.out) hb); have n1_ := zA2.mk (zAe (by repeat (first | (with_reducible first | exact HB.out | apply zA1 | apply zA0 | apply zA3 | refine zA4 ?_ GE410.out) | exact HB.out)) hb); clear BK410; clear HB; have BK410 := n0_; have HB := n1_; clear n0_ n1_; (try clear hb); (try clear hb2); (try clear hk); (try clear hi); have hcz22_0 : w21.cell? ⟨gb410, 0, none⟩ = some (.int .i64 a0_0) := (zA7 BK410.out 0).trans rfl; have hcz22_1 : w21.cell? ⟨gb410, 1, none⟩ = some (.slice A0_1 l0_1.length c0_1) := (zA7 BK410.out 1).trans rfl; have hfz22_0 := zA9 BK410.out 0; have hfz22_1 := zA9 BK410.out 1) | ((with_reducible refine zAp (f := 21) rfl ?_); refine zBq (some 31) rfl rfl Tryz.func21 (by kernel_rfl) rfl #[.agg #[.int .i64 a0_0, .slice A0_1 l0_1.length c0_1]] rfl (by (try simp only [List.map_toArray, List.map_cons, List.map_nil]); first | done | rfl | (simp only [List.length_drop, List.length_take]; rfl)) ?_; (with_reducible refine (zAy.calls kj2 a0_0 _ _ l0_1 t414 _ ?side1 ?side2 A17.out).mono ?_); (case side1 => repeat (first | exact (Kd.zAk HR0_1.out HB.out) | (with_reducible refine Kd.zAj ?_ _) | (with_reducible refine Kd.zAs ?_ _) | (with_reducible refine Kd.zB2 ?_))); (case side2 => exact HC0_1.out); rintro e w23 ⟨rfl, hb⟩; refine ⟨_, rfl, ?_⟩; have n0_ := zA2.mk (zAl (g := gb410) (o := .cells #[.int .i64 a0_0, .slice A0_1 l0_1.length c0_1] 28 (0, 0)) (by (with_reducible repeat (first | refine zA6 ?_ _ | refine zA8 ?_ | refine zA5 ?_ _)); exact BK410.out) hb); have n1_ := zA2.mk (zAe (by repeat (first | (with_reducible first | exact HB.out | apply zA1 | apply zA0 | apply zA3 | refine zA4 ?_ GE410.out) | exact HB.out)) hb); clear BK410; clear HB; have BK410 := n0_; have HB := n1_; clear n0_ n1_; (try clear hb); (try clear hb2); (try clear hk); (try clear hi)))
     (try simp only [Act.put, List.setIfInBounds_toArray, List.set_cons_zero, List.set_cons_succ])
     go_cut [5] (fun v5 wc => ∃ (kq : Nat) (x5_18 : Int), v5 = .int .i64 x5_18 ∧ zA2 (zAd.j1 kq l1 x5_18 a0_0 l0_1 = some r) ∧ zA2 (kq ≤ kj2) ∧ zA2 (wc.heap[gb410]? = some (.cells #[.int .i64 a0_0, (.slice A0_1 l0_1.length c0_1)] 28 (0, 0))) ∧ zA2 (Below w.heap.size w wc))
     case first =>
      have H := HC19.out
      clear HC19
      by_cases c24 : t413 = 0
      ·rw [if_pos c24] at H
       have c24b0 : (t413 == 0) = true := beq_iff_eq.mpr c24
       have c24b1 : (t413 != 0) = false := bne_eq_false_iff_eq.mpr c24
       clear c24
       (first | rw [c24b0] | (simp only [i64_w, i32_w]; rw [c24b0]) | skip)
       replace H := Option.bind_eq_some_iff.mp H
       obtain ⟨t415, A250, H⟩ := H
       replace H : (zAd.j1 kj2 l1 t415 a0_0 l0_1) = some r := H
       have A25 := zA2.mk A250
       clear A250
       have H' := zA2.mk H
       clear H
       have hcz26_0 : w23.cell? ⟨gb410, 0, none⟩ = some (.int .i64 a0_0) := (zA7 BK410.out 0).trans rfl
       have hcz26_1 : w23.cell? ⟨gb410, 1, none⟩ = some (.slice A0_1 l0_1.length c0_1) := (zA7 BK410.out 1).trans rfl
       have hfz26_0 := zA9 BK410.out 0
       have hfz26_1 := zA9 BK410.out 1
       go_wp2_with (first | ((with_reducible refine zAp (f := 22) rfl ?_); refine zBq (some 39) rfl rfl Tryz.func22 (by kernel_rfl) rfl #[.slice A1 l1.length c1, .int .i64 a0_0] rfl (by (try simp only [List.map_toArray, List.map_cons, List.map_nil]); first | done | rfl | (simp only [List.length_drop, List.length_take]; rfl)) ?_; (with_reducible refine (zAh.calls kj2 _ _ l1 a0_0 t415 _ ?side1 ?side2 A25.out).mono ?_); (case side1 => repeat (first | exact (Kd.zAk HR1.out HB.out) | (with_reducible refine Kd.zAj ?_ _) | (with_reducible refine Kd.zAs ?_ _) | (with_reducible refine Kd.zB2 ?_))); (case side2 => exact HC1.out); rintro e w' ⟨rfl, ⟨nd, rfl⟩⟩; refine ⟨_, rfl, ?_⟩))
       go_meet
       case rel => exact ⟨_, (t415), (by first | rfl | (simp; done) | (simp [*]; done)), H', ⟨by have := HJ2.out; first | omega | exact Nat.le_refl _⟩, ⟨by (with_reducible repeat (first | refine zA6 ?_ _ | refine zA8 ?_ | refine zA5 ?_ _)); exact BK410.out⟩, ⟨by repeat (first | (with_reducible first | exact HB.out | apply zA1 | apply zA0 | apply zA3 | refine zA4 ?_ GE410.out) | exact HB.out)⟩⟩
      ·rw [if_neg c24] at H
       have c24b0 : (t413 == 0) = false := beq_eq_false_iff_ne.mpr c24
       have c24b1 : (t413 != 0) = true := bne_iff_ne.mpr c24
       (first | rw [c24b0] | (simp only [i64_w, i32_w]; rw [c24b0]) | skip)
       have H' := zA2.mk H
       clear H
       go_wp2
       go_meet
       case rel => exact ⟨_, (t413), (by first | rfl | (simp; done) | (simp [*]; done)), H', ⟨by have := HJ2.out; first | omega | exact Nat.le_refl _⟩, ⟨by (with_reducible repeat (first | refine zA6 ?_ _ | refine zA8 ?_ | refine zA5 ?_ _)); exact BK410.out⟩, ⟨by repeat (first | (with_reducible first | exact HB.out | apply zA1 | apply zA0 | apply zA3 | refine zA4 ?_ GE410.out) | exact HB.out)⟩⟩
     case rest =>
      clear HC19
      try clear c1
      try clear c2
      try clear p2
      try clear c5
      try clear c6
      try clear c7
      try clear c7b0
      try clear c7b1
      try clear c13
      try clear c18
      try clear c18b0
      try clear c18b1
      try clear c20
      try clear c21
      try clear c22
      try clear c24
      try clear c24b0
      try clear c24b1
      try clear hcz11_0
      try clear hcz11_1
      try clear hcz20_0
      try clear hcz20_1
      try clear hcz22_0
      try clear hcz22_1
      try clear hcz26_0
      try clear hcz26_1
      try clear hcz9_0
      try clear hcz9_1
      try clear hfz11_0
      try clear hfz11_1
      try clear hfz20_0
      try clear hfz20_1
      try clear hfz22_0
      try clear hfz22_1
      try clear hfz26_0
      try clear hfz26_1
      try clear hfz9_0
      try clear hfz9_1
      try clear p2
      obtain ⟨kq, x5_18, rfl, HA, HJ18, BK410, HB⟩ := hcut
      cases kq with
      | zero => exact absurd HA.out (by simp [zAd.j1])
      | succ kj18 =>
       have H := HA.out
       clear HA
       simp only [zAd.j1] at H
       replace H := Option.bind_eq_some_iff.mp H
       obtain ⟨⟨t416, t417⟩, A270, H⟩ := H
       replace H : ((zBb.f kj18 a0_0 l0_1 l1).bind fun bt418 => ((zAx.f kj18 a0_0 l0_1 l1).bind fun bt422 => ((liaison_Subsets.f a0_0 l0_1 l1 1).bind fun bt426 => (if t417 = x5_18 then (if bt418.2 = x5_18 then (if bt422.2 = x5_18 then (some (bt426.2 == x5_18)) else (some false)) else (some false)) else (some false))))) = some r := H
       have A27 := zA2.mk A270
       clear A270
       replace H := Option.bind_eq_some_iff.mp H
       obtain ⟨⟨t418, t421⟩, A280, H⟩ := H
       replace H : ((zAx.f kj18 a0_0 l0_1 l1).bind fun bt422 => ((liaison_Subsets.f a0_0 l0_1 l1 1).bind fun bt426 => (if t417 = x5_18 then (if t421 = x5_18 then (if bt422.2 = x5_18 then (some (bt426.2 == x5_18)) else (some false)) else (some false)) else (some false)))) = some r := H
       have A28 := zA2.mk A280
       clear A280
       replace H := Option.bind_eq_some_iff.mp H
       obtain ⟨⟨t422, t425⟩, A290, H⟩ := H
       replace H : ((liaison_Subsets.f a0_0 l0_1 l1 1).bind fun bt426 => (if t417 = x5_18 then (if t421 = x5_18 then (if t425 = x5_18 then (some (bt426.2 == x5_18)) else (some false)) else (some false)) else (some false))) = some r := H
       have A29 := zA2.mk A290
       clear A290
       replace H := Option.bind_eq_some_iff.mp H
       obtain ⟨⟨t426, t429⟩, A300, H⟩ := H
       replace H : (if t417 = x5_18 then (if t421 = x5_18 then (if t425 = x5_18 then (some (t429 == x5_18)) else (some false)) else (some false)) else (some false)) = some r := H
       have A30 := zA2.mk A300
       clear A300
       by_cases c31 : t417 = x5_18
       ·rw [if_pos c31] at H
        have c31b0 : (t417 == x5_18) = true := beq_iff_eq.mpr c31
        have c31b1 : (t417 != x5_18) = false := bne_eq_false_iff_eq.mpr c31
        clear c31
        by_cases c32 : t421 = x5_18
        ·rw [if_pos c32] at H
         have c32b0 : (t421 == x5_18) = true := beq_iff_eq.mpr c32
         have c32b1 : (t421 != x5_18) = false := bne_eq_false_iff_eq.mpr c32
         clear c32
         by_cases c33 : t425 = x5_18
         ·rw [if_pos c33] at H
          have c33b0 : (t425 == x5_18) = true := beq_iff_eq.mpr c33
          have c33b1 : (t425 != x5_18) = false := bne_eq_false_iff_eq.mpr c33
          clear c33
          obtain rfl := Option.some.inj H
          have hcz34_0 : wc.cell? ⟨gb410, 0, none⟩ = some (.int .i64 a0_0) := (zA7 BK410.out 0).trans rfl
          have hcz34_1 : wc.cell? ⟨gb410, 1, none⟩ = some (.slice A0_1 l0_1.length c0_1) := (zA7 BK410.out 1).trans rfl
          have hfz34_0 := zA9 BK410.out 0
          have hfz34_1 := zA9 BK410.out 1
          go_wp2_with (first | ((with_reducible refine zAp (f := 12) rfl ?_); refine zBq (some 43) rfl rfl Tryz.func12 (by kernel_rfl) rfl #[.agg #[.int .i64 a0_0, .slice A0_1 l0_1.length c0_1], .slice A1 l1.length c1] rfl (by (try simp only [List.map_toArray, List.map_cons, List.map_nil]); first | done | rfl | (simp only [List.length_drop, List.length_take]; rfl)) ?_; (with_reducible refine (zBw.calls kj18 a0_0 _ _ l0_1 _ _ l1 t416 t417 _ ?side1 ?side2 ?side3 ?side4 ?side5 A27.out).mono ?_); (case side1 => repeat (first | exact (Kd.zAk HR0_1.out HB.out) | (with_reducible refine Kd.zAj ?_ _) | (with_reducible refine Kd.zAs ?_ _) | (with_reducible refine Kd.zB2 ?_))); (case side2 => exact HC0_1.out); (case side3 => repeat (first | exact (Kd.zAk HR1.out HB.out) | (with_reducible refine Kd.zAj ?_ _) | (with_reducible refine Kd.zAs ?_ _) | (with_reducible refine Kd.zB2 ?_))); (case side4 => exact HC1.out); (case side5 => repeat (first | exact (Kd.zAk HG.out HB.out) | (with_reducible refine Kd.zAj ?_ _) | (with_reducible refine Kd.zAs ?_ _) | (with_reducible refine Kd.zB2 ?_))); rintro e w35 ⟨rfl, hb⟩; refine ⟨_, rfl, ?_⟩; have n0_ := zA2.mk (zAl (g := gb410) (o := .cells #[.int .i64 a0_0, .slice A0_1 l0_1.length c0_1] 28 (0, 0)) (by (with_reducible repeat (first | refine zA6 ?_ _ | refine zA8 ?_ | refine zA5 ?_ _)); exact BK410.out) hb); have n1_ := zA2.mk (zAe (by repeat (first | (with_reducible first | exact HB.out | apply zA1 | apply zA0 | apply zA3 | refine zA4 ?_ GE410.out) | exact HB.out)) hb); clear BK410; clear HB; have BK410 := n0_; have HB := n1_; clear n0_ n1_; (try clear hb); (try clear hb2); (try clear hk); (try clear hi); have hcz36_0 : w35.cell? ⟨gb410, 0, none⟩ = some (.int .i64 a0_0) := (zA7 BK410.out 0).trans rfl; have hcz36_1 : w35.cell? ⟨gb410, 1, none⟩ = some (.slice A0_1 l0_1.length c0_1) := (zA7 BK410.out 1).trans rfl; have hfz36_0 := zA9 BK410.out 0; have hfz36_1 := zA9 BK410.out 1) | ((with_reducible refine zAp (f := 13) rfl ?_); refine zBq (some 49) rfl rfl Tryz.func13 (by kernel_rfl) rfl #[.agg #[.int .i64 a0_0, .slice A0_1 l0_1.length c0_1], .slice A1 l1.length c1] rfl (by (try simp only [List.map_toArray, List.map_cons, List.map_nil]); first | done | rfl | (simp only [List.length_drop, List.length_take]; rfl)) ?_; (with_reducible refine (zBb.calls kj18 a0_0 _ _ l0_1 _ _ l1 t418 t421 _ ?side1 ?side2 ?side3 ?side4 ?side5 A28.out).mono ?_); (case side1 => repeat (first | exact (Kd.zAk HR0_1.out HB.out) | (with_reducible refine Kd.zAj ?_ _) | (with_reducible refine Kd.zAs ?_ _) | (with_reducible refine Kd.zB2 ?_))); (case side2 => exact HC0_1.out); (case side3 => repeat (first | exact (Kd.zAk HR1.out HB.out) | (with_reducible refine Kd.zAj ?_ _) | (with_reducible refine Kd.zAs ?_ _) | (with_reducible refine Kd.zB2 ?_))); (case side4 => exact HC1.out); (case side5 => repeat (first | exact (Kd.zAk HG.out HB.out) | (with_reducible refine Kd.zAj ?_ _) | (with_reducible refine Kd.zAs ?_ _) | (with_reducible refine Kd.zB2 ?_))); rintro e w37 ⟨v419, rfl, ho0, hb⟩; refine ⟨_, rfl, ?_⟩; have n0_ := zA2.mk (Kd.S_lower ho0 (zAb (by repeat (first | (with_reducible first | exact HB.out | apply zA1 | apply zA0 | apply zA3 | refine zA4 ?_ GE410.out) | exact HB.out)))); have n1_ := zA2.mk (zAl (g := gb410) (o := .cells #[.int .i64 a0_0, .slice A0_1 l0_1.length c0_1] 28 (0, 0)) (by (with_reducible repeat (first | refine zA6 ?_ _ | refine zA8 ?_ | refine zA5 ?_ _)); exact BK410.out) hb); have n2_ := zA2.mk (zAe (by repeat (first | (with_reducible first | exact HB.out | apply zA1 | apply zA0 | apply zA3 | refine zA4 ?_ GE410.out) | exact HB.out)) hb); clear BK410; clear HB; have HO420 := n0_; have BK410 := n1_; have HB := n2_; clear n0_ n1_ n2_; (try clear hb); (try clear hb2); (try clear hk); (try clear hi); (try clear ho0); have hcz38_0 : w37.cell? ⟨gb410, 0, none⟩ = some (.int .i64 a0_0) := (zA7 BK410.out 0).trans rfl; have hcz38_1 : w37.cell? ⟨gb410, 1, none⟩ = some (.slice A0_1 l0_1.length c0_1) := (zA7 BK410.out 1).trans rfl; have hfz38_0 := zA9 BK410.out 0; have hfz38_1 := zA9 BK410.out 1) | ((with_reducible refine zAp (f := 23) rfl ?_); refine zBq (some 55) rfl rfl Tryz.func23 (by kernel_rfl) rfl #[.agg #[.int .i64 a0_0, .slice A0_1 l0_1.length c0_1], .slice A1 l1.length c1] rfl (by (try simp only [List.map_toArray, List.map_cons, List.map_nil]); first | done | rfl | (simp only [List.length_drop, List.length_take]; rfl)) ?_; (with_reducible refine (zAx.calls kj18 a0_0 _ _ l0_1 _ _ l1 t422 t425 _ ?side1 ?side2 ?side3 ?side4 ?side5 A29.out).mono ?_); (case side1 => repeat (first | exact (Kd.zAk HR0_1.out HB.out) | (with_reducible refine Kd.zAj ?_ _) | (with_reducible refine Kd.zAs ?_ _) | (with_reducible refine Kd.zB2 ?_))); (case side2 => exact HC0_1.out); (case side3 => repeat (first | exact (Kd.zAk HR1.out HB.out) | (with_reducible refine Kd.zAj ?_ _) | (with_reducible refine Kd.zAs ?_ _) | (with_reducible refine Kd.zB2 ?_))); (case side4 => exact HC1.out); (case side5 => repeat (first | exact (Kd.zAk HG.out HB.out) | (with_reducible refine Kd.zAj ?_ _) | (with_reducible refine Kd.zAs ?_ _) | (with_reducible refine Kd.zB2 ?_))); rintro e w39 ⟨v423, rfl, ho0, hb⟩; refine ⟨_, rfl, ?_⟩; have n0_ := zA2.mk (Kd.S_elder' (by (with_reducible repeat (first | apply Kd.S_alloc | apply Kd.S_drewN | apply Kd.S_drew)); exact HO420.out) (Kd.R_base ho0) hb); have n1_ := zA2.mk (Kd.R_lower ho0 (zAb (by repeat (first | (with_reducible first | exact HB.out | apply zA1 | apply zA0 | apply zA3 | refine zA4 ?_ GE410.out) | exact HB.out)))); have n2_ := zA2.mk (zAl (g := gb410) (o := .cells #[.int .i64 a0_0, .slice A0_1 l0_1.length c0_1] 28 (0, 0)) (by (with_reducible repeat (first | refine zA6 ?_ _ | refine zA8 ?_ | refine zA5 ?_ _)); exact BK410.out) hb); have n3_ := zA2.mk (zAe (by repeat (first | (with_reducible first | exact HB.out | apply zA1 | apply zA0 | apply zA3 | refine zA4 ?_ GE410.out) | exact HB.out)) hb); clear HO420; clear BK410; clear HB; have HO420 := n0_; have HO424 := n1_; have BK410 := n2_; have HB := n3_; clear n0_ n1_ n2_ n3_; (try clear hb); (try clear hb2); (try clear hk); (try clear hi); (try clear ho0); have hcz40_0 : w39.cell? ⟨gb410, 0, none⟩ = some (.int .i64 a0_0) := (zA7 BK410.out 0).trans rfl; have hcz40_1 : w39.cell? ⟨gb410, 1, none⟩ = some (.slice A0_1 l0_1.length c0_1) := (zA7 BK410.out 1).trans rfl; have hfz40_0 := zA9 BK410.out 0; have hfz40_1 := zA9 BK410.out 1) | ((with_reducible refine zAp (f := 9) rfl ?_); refine zBq (some 61) rfl rfl Tryz.func9 (by kernel_rfl) rfl #[.agg #[.int .i64 a0_0, .slice A0_1 l0_1.length c0_1], .slice A1 l1.length c1, .int .i64 1] rfl (by (try simp only [List.map_toArray, List.map_cons, List.map_nil]); first | done | rfl | (simp only [List.length_drop, List.length_take]; rfl)) ?_; (with_reducible refine (liaison_Subsets.calls a0_0 _ _ l0_1 _ _ l1 1 t426 t429 _ ?side1 ?side2 ?side3 ?side4 ?side5 A30.out).mono ?_); (case side1 => repeat (first | exact (Kd.zAk HR0_1.out HB.out) | (with_reducible refine Kd.zAj ?_ _) | (with_reducible refine Kd.zAs ?_ _) | (with_reducible refine Kd.zB2 ?_))); (case side2 => exact HC0_1.out); (case side3 => repeat (first | exact (Kd.zAk HR1.out HB.out) | (with_reducible refine Kd.zAj ?_ _) | (with_reducible refine Kd.zAs ?_ _) | (with_reducible refine Kd.zB2 ?_))); (case side4 => exact HC1.out); (case side5 => repeat (first | exact (Kd.zAk HG.out HB.out) | (with_reducible refine Kd.zAj ?_ _) | (with_reducible refine Kd.zAs ?_ _) | (with_reducible refine Kd.zB2 ?_))); rintro e w41 ⟨v427, rfl, ho0, hb⟩; refine ⟨_, rfl, ?_⟩; have n0_ := zA2.mk (Kd.S_elder' (by (with_reducible repeat (first | apply Kd.S_alloc | apply Kd.S_drewN | apply Kd.S_drew)); exact HO420.out) (Kd.S_base ho0) hb); have n1_ := zA2.mk (Kd.R_below (by (with_reducible repeat (first | apply Kd.zB6 | apply Kd.zB5 | apply Kd.zBf)); exact HO424.out) hb); have n2_ := zA2.mk (Kd.S_lower (Kd.S_new' (Kd.S_new' ho0 (Kd.S_lt (by (with_reducible repeat (first | apply Kd.S_alloc | apply Kd.S_drewN | apply Kd.S_drew)); exact HO420.out))) (Kd.R_lt (by (with_reducible repeat (first | apply Kd.zB6 | apply Kd.zB5 | apply Kd.zBf)); exact HO424.out))) (zAb (by repeat (first | (with_reducible first | exact HB.out | apply zA1 | apply zA0 | apply zA3 | refine zA4 ?_ GE410.out) | exact HB.out)))); have n3_ := zA2.mk (zAl (g := gb410) (o := .cells #[.int .i64 a0_0, .slice A0_1 l0_1.length c0_1] 28 (0, 0)) (by (with_reducible repeat (first | refine zA6 ?_ _ | refine zA8 ?_ | refine zA5 ?_ _)); exact BK410.out) hb); have n4_ := zA2.mk (zAe (by repeat (first | (with_reducible first | exact HB.out | apply zA1 | apply zA0 | apply zA3 | refine zA4 ?_ GE410.out) | exact HB.out)) hb); clear HO420; clear HO424; clear BK410; clear HB; have HO420 := n0_; have HO424 := n1_; have HO428 := n2_; have BK410 := n3_; have HB := n4_; clear n0_ n1_ n2_ n3_ n4_; (try clear hb); (try clear hb2); (try clear hk); (try clear hi); (try clear ho0)))
          go_ret
          exact ⟨by first | rfl | (simp [zAr, zAq] <;> rfl) | (simp [*, zAr, zAq] <;> rfl), by repeat (first | (with_reducible first | exact HB.out | apply zA1 | apply zA0 | apply zA3 | refine zA4 ?_ GE410.out) | exact HB.out)⟩
         ·rw [if_neg c33] at H
          have c33b0 : (t425 == x5_18) = false := beq_eq_false_iff_ne.mpr c33
          have c33b1 : (t425 != x5_18) = true := bne_iff_ne.mpr c33
          obtain rfl := Option.some.inj H
          have hcz42_0 : wc.cell? ⟨gb410, 0, none⟩ = some (.int .i64 a0_0) := (zA7 BK410.out 0).trans rfl
          have hcz42_1 : wc.cell? ⟨gb410, 1, none⟩ = some (.slice A0_1 l0_1.length c0_1) := (zA7 BK410.out 1).trans rfl
          have hfz42_0 := zA9 BK410.out 0
          have hfz42_1 := zA9 BK410.out 1
          go_wp2_with (first | ((with_reducible refine zAp (f := 12) rfl ?_); refine zBq (some 43) rfl rfl Tryz.func12 (by kernel_rfl) rfl #[.agg #[.int .i64 a0_0, .slice A0_1 l0_1.length c0_1], .slice A1 l1.length c1] rfl (by (try simp only [List.map_toArray, List.map_cons, List.map_nil]); first | done | rfl | (simp only [List.length_drop, List.length_take]; rfl)) ?_; (with_reducible refine (zBw.calls kj18 a0_0 _ _ l0_1 _ _ l1 t416 t417 _ ?side1 ?side2 ?side3 ?side4 ?side5 A27.out).mono ?_); (case side1 => repeat (first | exact (Kd.zAk HR0_1.out HB.out) | (with_reducible refine Kd.zAj ?_ _) | (with_reducible refine Kd.zAs ?_ _) | (with_reducible refine Kd.zB2 ?_))); (case side2 => exact HC0_1.out); (case side3 => repeat (first | exact (Kd.zAk HR1.out HB.out) | (with_reducible refine Kd.zAj ?_ _) | (with_reducible refine Kd.zAs ?_ _) | (with_reducible refine Kd.zB2 ?_))); (case side4 => exact HC1.out); (case side5 => repeat (first | exact (Kd.zAk HG.out HB.out) | (with_reducible refine Kd.zAj ?_ _) | (with_reducible refine Kd.zAs ?_ _) | (with_reducible refine Kd.zB2 ?_))); rintro e w43 ⟨rfl, hb⟩; refine ⟨_, rfl, ?_⟩; have n0_ := zA2.mk (zAl (g := gb410) (o := .cells #[.int .i64 a0_0, .slice A0_1 l0_1.length c0_1] 28 (0, 0)) (by (with_reducible repeat (first | refine zA6 ?_ _ | refine zA8 ?_ | refine zA5 ?_ _)); exact BK410.out) hb); have n1_ := zA2.mk (zAe (by repeat (first | (with_reducible first | exact HB.out | apply zA1 | apply zA0 | apply zA3 | refine zA4 ?_ GE410.out) | exact HB.out)) hb); clear BK410; clear HB; have BK410 := n0_; have HB := n1_; clear n0_ n1_; (try clear hb); (try clear hb2); (try clear hk); (try clear hi); have hcz44_0 : w43.cell? ⟨gb410, 0, none⟩ = some (.int .i64 a0_0) := (zA7 BK410.out 0).trans rfl; have hcz44_1 : w43.cell? ⟨gb410, 1, none⟩ = some (.slice A0_1 l0_1.length c0_1) := (zA7 BK410.out 1).trans rfl; have hfz44_0 := zA9 BK410.out 0; have hfz44_1 := zA9 BK410.out 1) | ((with_reducible refine zAp (f := 13) rfl ?_); refine zBq (some 49) rfl rfl Tryz.func13 (by kernel_rfl) rfl #[.agg #[.int .i64 a0_0, .slice A0_1 l0_1.length c0_1], .slice A1 l1.length c1] rfl (by (try simp only [List.map_toArray, List.map_cons, List.map_nil]); first | done | rfl | (simp only [List.length_drop, List.length_take]; rfl)) ?_; (with_reducible refine (zBb.calls kj18 a0_0 _ _ l0_1 _ _ l1 t418 t421 _ ?side1 ?side2 ?side3 ?side4 ?side5 A28.out).mono ?_); (case side1 => repeat (first | exact (Kd.zAk HR0_1.out HB.out) | (with_reducible refine Kd.zAj ?_ _) | (with_reducible refine Kd.zAs ?_ _) | (with_reducible refine Kd.zB2 ?_))); (case side2 => exact HC0_1.out); (case side3 => repeat (first | exact (Kd.zAk HR1.out HB.out) | (with_reducible refine Kd.zAj ?_ _) | (with_reducible refine Kd.zAs ?_ _) | (with_reducible refine Kd.zB2 ?_))); (case side4 => exact HC1.out); (case side5 => repeat (first | exact (Kd.zAk HG.out HB.out) | (with_reducible refine Kd.zAj ?_ _) | (with_reducible refine Kd.zAs ?_ _) | (with_reducible refine Kd.zB2 ?_))); rintro e w45 ⟨v419, rfl, ho0, hb⟩; refine ⟨_, rfl, ?_⟩; have n0_ := zA2.mk (Kd.S_lower ho0 (zAb (by repeat (first | (with_reducible first | exact HB.out | apply zA1 | apply zA0 | apply zA3 | refine zA4 ?_ GE410.out) | exact HB.out)))); have n1_ := zA2.mk (zAl (g := gb410) (o := .cells #[.int .i64 a0_0, .slice A0_1 l0_1.length c0_1] 28 (0, 0)) (by (with_reducible repeat (first | refine zA6 ?_ _ | refine zA8 ?_ | refine zA5 ?_ _)); exact BK410.out) hb); have n2_ := zA2.mk (zAe (by repeat (first | (with_reducible first | exact HB.out | apply zA1 | apply zA0 | apply zA3 | refine zA4 ?_ GE410.out) | exact HB.out)) hb); clear BK410; clear HB; have HO420 := n0_; have BK410 := n1_; have HB := n2_; clear n0_ n1_ n2_; (try clear hb); (try clear hb2); (try clear hk); (try clear hi); (try clear ho0); have hcz46_0 : w45.cell? ⟨gb410, 0, none⟩ = some (.int .i64 a0_0) := (zA7 BK410.out 0).trans rfl; have hcz46_1 : w45.cell? ⟨gb410, 1, none⟩ = some (.slice A0_1 l0_1.length c0_1) := (zA7 BK410.out 1).trans rfl; have hfz46_0 := zA9 BK410.out 0; have hfz46_1 := zA9 BK410.out 1) | ((with_reducible refine zAp (f := 23) rfl ?_); refine zBq (some 55) rfl rfl Tryz.func23 (by kernel_rfl) rfl #[.agg #[.int .i64 a0_0, .slice A0_1 l0_1.length c0_1], .slice A1 l1.length c1] rfl (by (try simp only [List.map_toArray, List.map_cons, List.map_nil]); first | done | rfl | (simp only [List.length_drop, List.length_take]; rfl)) ?_; (with_reducible refine (zAx.calls kj18 a0_0 _ _ l0_1 _ _ l1 t422 t425 _ ?side1 ?side2 ?side3 ?side4 ?side5 A29.out).mono ?_); (case side1 => repeat (first | exact (Kd.zAk HR0_1.out HB.out) | (with_reducible refine Kd.zAj ?_ _) | (with_reducible refine Kd.zAs ?_ _) | (with_reducible refine Kd.zB2 ?_))); (case side2 => exact HC0_1.out); (case side3 => repeat (first | exact (Kd.zAk HR1.out HB.out) | (with_reducible refine Kd.zAj ?_ _) | (with_reducible refine Kd.zAs ?_ _) | (with_reducible refine Kd.zB2 ?_))); (case side4 => exact HC1.out); (case side5 => repeat (first | exact (Kd.zAk HG.out HB.out) | (with_reducible refine Kd.zAj ?_ _) | (with_reducible refine Kd.zAs ?_ _) | (with_reducible refine Kd.zB2 ?_))); rintro e w47 ⟨v423, rfl, ho0, hb⟩; refine ⟨_, rfl, ?_⟩; have n0_ := zA2.mk (Kd.S_elder' (by (with_reducible repeat (first | apply Kd.S_alloc | apply Kd.S_drewN | apply Kd.S_drew)); exact HO420.out) (Kd.R_base ho0) hb); have n1_ := zA2.mk (Kd.R_lower ho0 (zAb (by repeat (first | (with_reducible first | exact HB.out | apply zA1 | apply zA0 | apply zA3 | refine zA4 ?_ GE410.out) | exact HB.out)))); have n2_ := zA2.mk (zAl (g := gb410) (o := .cells #[.int .i64 a0_0, .slice A0_1 l0_1.length c0_1] 28 (0, 0)) (by (with_reducible repeat (first | refine zA6 ?_ _ | refine zA8 ?_ | refine zA5 ?_ _)); exact BK410.out) hb); have n3_ := zA2.mk (zAe (by repeat (first | (with_reducible first | exact HB.out | apply zA1 | apply zA0 | apply zA3 | refine zA4 ?_ GE410.out) | exact HB.out)) hb); clear HO420; clear BK410; clear HB; have HO420 := n0_; have HO424 := n1_; have BK410 := n2_; have HB := n3_; clear n0_ n1_ n2_ n3_; (try clear hb); (try clear hb2); (try clear hk); (try clear hi); (try clear ho0); have hcz48_0 : w47.cell? ⟨gb410, 0, none⟩ = some (.int .i64 a0_0) := (zA7 BK410.out 0).trans rfl; have hcz48_1 : w47.cell? ⟨gb410, 1, none⟩ = some (.slice A0_1 l0_1.length c0_1) := (zA7 BK410.out 1).trans rfl; have hfz48_0 := zA9 BK410.out 0; have hfz48_1 := zA9 BK410.out 1) | ((with_reducible refine zAp (f := 9) rfl ?_); refine zBq (some 61) rfl rfl Tryz.func9 (by kernel_rfl) rfl #[.agg #[.int .i64 a0_0, .slice A0_1 l0_1.length c0_1], .slice A1 l1.length c1, .int .i64 1] rfl (by (try simp only [List.map_toArray, List.map_cons, List.map_nil]); first | done | rfl | (simp only [List.length_drop, List.length_take]; rfl)) ?_; (with_reducible refine (liaison_Subsets.calls a0_0 _ _ l0_1 _ _ l1 1 t426 t429 _ ?side1 ?side2 ?side3 ?side4 ?side5 A30.out).mono ?_); (case side1 => repeat (first | exact (Kd.zAk HR0_1.out HB.out) | (with_reducible refine Kd.zAj ?_ _) | (with_reducible refine Kd.zAs ?_ _) | (with_reducible refine Kd.zB2 ?_))); (case side2 => exact HC0_1.out); (case side3 => repeat (first | exact (Kd.zAk HR1.out HB.out) | (with_reducible refine Kd.zAj ?_ _) | (with_reducible refine Kd.zAs ?_ _) | (with_reducible refine Kd.zB2 ?_))); (case side4 => exact HC1.out); (case side5 => repeat (first | exact (Kd.zAk HG.out HB.out) | (with_reducible refine Kd.zAj ?_ _) | (with_reducible refine Kd.zAs ?_ _) | (with_reducible refine Kd.zB2 ?_))); rintro e w49 ⟨v427, rfl, ho0, hb⟩; refine ⟨_, rfl, ?_⟩; have n0_ := zA2.mk (Kd.S_elder' (by (with_reducible repeat (first | apply Kd.S_alloc | apply Kd.S_drewN | apply Kd.S_drew)); exact HO420.out) (Kd.S_base ho0) hb); have n1_ := zA2.mk (Kd.R_below (by (with_reducible repeat (first | apply Kd.zB6 | apply Kd.zB5 | apply Kd.zBf)); exact HO424.out) hb); have n2_ := zA2.mk (Kd.S_lower (Kd.S_new' (Kd.S_new' ho0 (Kd.S_lt (by (with_reducible repeat (first | apply Kd.S_alloc | apply Kd.S_drewN | apply Kd.S_drew)); exact HO420.out))) (Kd.R_lt (by (with_reducible repeat (first | apply Kd.zB6 | apply Kd.zB5 | apply Kd.zBf)); exact HO424.out))) (zAb (by repeat (first | (with_reducible first | exact HB.out | apply zA1 | apply zA0 | apply zA3 | refine zA4 ?_ GE410.out) | exact HB.out)))); have n3_ := zA2.mk (zAl (g := gb410) (o := .cells #[.int .i64 a0_0, .slice A0_1 l0_1.length c0_1] 28 (0, 0)) (by (with_reducible repeat (first | refine zA6 ?_ _ | refine zA8 ?_ | refine zA5 ?_ _)); exact BK410.out) hb); have n4_ := zA2.mk (zAe (by repeat (first | (with_reducible first | exact HB.out | apply zA1 | apply zA0 | apply zA3 | refine zA4 ?_ GE410.out) | exact HB.out)) hb); clear HO420; clear HO424; clear BK410; clear HB; have HO420 := n0_; have HO424 := n1_; have HO428 := n2_; have BK410 := n3_; have HB := n4_; clear n0_ n1_ n2_ n3_ n4_; (try clear hb); (try clear hb2); (try clear hk); (try clear hi); (try clear ho0)))
          go_ret
          exact ⟨by first | rfl | (simp [zAr, zAq] <;> rfl) | (simp [*, zAr, zAq] <;> rfl), by repeat (first | (with_reducible first | exact HB.out | apply zA1 | apply zA0 | apply zA3 | refine zA4 ?_ GE410.out) | exact HB.out)⟩
        ·rw [if_neg c32] at H
         have c32b0 : (t421 == x5_18) = false := beq_eq_false_iff_ne.mpr c32
         have c32b1 : (t421 != x5_18) = true := bne_iff_ne.mpr c32
         obtain rfl := Option.some.inj H
         have hcz50_0 : wc.cell? ⟨gb410, 0, none⟩ = some (.int .i64 a0_0) := (zA7 BK410.out 0).trans rfl
         have hcz50_1 : wc.cell? ⟨gb410, 1, none⟩ = some (.slice A0_1 l0_1.length c0_1) := (zA7 BK410.out 1).trans rfl
         have hfz50_0 := zA9 BK410.out 0
         have hfz50_1 := zA9 BK410.out 1
         go_wp2_with (first | ((with_reducible refine zAp (f := 12) rfl ?_); refine zBq (some 43) rfl rfl Tryz.func12 (by kernel_rfl) rfl #[.agg #[.int .i64 a0_0, .slice A0_1 l0_1.length c0_1], .slice A1 l1.length c1] rfl (by (try simp only [List.map_toArray, List.map_cons, List.map_nil]); first | done | rfl | (simp only [List.length_drop, List.length_take]; rfl)) ?_; (with_reducible refine (zBw.calls kj18 a0_0 _ _ l0_1 _ _ l1 t416 t417 _ ?side1 ?side2 ?side3 ?side4 ?side5 A27.out).mono ?_); (case side1 => repeat (first | exact (Kd.zAk HR0_1.out HB.out) | (with_reducible refine Kd.zAj ?_ _) | (with_reducible refine Kd.zAs ?_ _) | (with_reducible refine Kd.zB2 ?_))); (case side2 => exact HC0_1.out); (case side3 => repeat (first | exact (Kd.zAk HR1.out HB.out) | (with_reducible refine Kd.zAj ?_ _) | (with_reducible refine Kd.zAs ?_ _) | (with_reducible refine Kd.zB2 ?_))); (case side4 => exact HC1.out); (case side5 => repeat (first | exact (Kd.zAk HG.out HB.out) | (with_reducible refine Kd.zAj ?_ _) | (with_reducible refine Kd.zAs ?_ _) | (with_reducible refine Kd.zB2 ?_))); rintro e w51 ⟨rfl, hb⟩; refine ⟨_, rfl, ?_⟩; have n0_ := zA2.mk (zAl (g := gb410) (o := .cells #[.int .i64 a0_0, .slice A0_1 l0_1.length c0_1] 28 (0, 0)) (by (with_reducible repeat (first | refine zA6 ?_ _ | refine zA8 ?_ | refine zA5 ?_ _)); exact BK410.out) hb); have n1_ := zA2.mk (zAe (by repeat (first | (with_reducible first | exact HB.out | apply zA1 | apply zA0 | apply zA3 | refine zA4 ?_ GE410.out) | exact HB.out)) hb); clear BK410; clear HB; have BK410 := n0_; have HB := n1_; clear n0_ n1_; (try clear hb); (try clear hb2); (try clear hk); (try clear hi); have hcz52_0 : w51.cell? ⟨gb410, 0, none⟩ = some (.int .i64 a0_0) := (zA7 BK410.out 0).trans rfl; have hcz52_1 : w51.cell? ⟨gb410, 1, none⟩ = some (.slice A0_1 l0_1.length c0_1) := (zA7 BK410.out 1).trans rfl; have hfz52_0 := zA9 BK410.out 0; have hfz52_1 := zA9 BK410.out 1) | ((with_reducible refine zAp (f := 13) rfl ?_); refine zBq (some 49) rfl rfl Tryz.func13 (by kernel_rfl) rfl #[.agg #[.int .i64 a0_0, .slice A0_1 l0_1.length c0_1], .slice A1 l1.length c1] rfl (by (try simp only [List.map_toArray, List.map_cons, List.map_nil]); first | done | rfl | (simp only [List.length_drop, List.length_take]; rfl)) ?_; (with_reducible refine (zBb.calls kj18 a0_0 _ _ l0_1 _ _ l1 t418 t421 _ ?side1 ?side2 ?side3 ?side4 ?side5 A28.out).mono ?_); (case side1 => repeat (first | exact (Kd.zAk HR0_1.out HB.out) | (with_reducible refine Kd.zAj ?_ _) | (with_reducible refine Kd.zAs ?_ _) | (with_reducible refine Kd.zB2 ?_))); (case side2 => exact HC0_1.out); (case side3 => repeat (first | exact (Kd.zAk HR1.out HB.out) | (with_reducible refine Kd.zAj ?_ _) | (with_reducible refine Kd.zAs ?_ _) | (with_reducible refine Kd.zB2 ?_))); (case side4 => exact HC1.out); (case side5 => repeat (first | exact (Kd.zAk HG.out HB.out) | (with_reducible refine Kd.zAj ?_ _) | (with_reducible refine Kd.zAs ?_ _) | (with_reducible refine Kd.zB2 ?_))); rintro e w53 ⟨v419, rfl, ho0, hb⟩; refine ⟨_, rfl, ?_⟩; have n0_ := zA2.mk (Kd.S_lower ho0 (zAb (by repeat (first | (with_reducible first | exact HB.out | apply zA1 | apply zA0 | apply zA3 | refine zA4 ?_ GE410.out) | exact HB.out)))); have n1_ := zA2.mk (zAl (g := gb410) (o := .cells #[.int .i64 a0_0, .slice A0_1 l0_1.length c0_1] 28 (0, 0)) (by (with_reducible repeat (first | refine zA6 ?_ _ | refine zA8 ?_ | refine zA5 ?_ _)); exact BK410.out) hb); have n2_ := zA2.mk (zAe (by repeat (first | (with_reducible first | exact HB.out | apply zA1 | apply zA0 | apply zA3 | refine zA4 ?_ GE410.out) | exact HB.out)) hb); clear BK410; clear HB; have HO420 := n0_; have BK410 := n1_; have HB := n2_; clear n0_ n1_ n2_; (try clear hb); (try clear hb2); (try clear hk); (try clear hi); (try clear ho0); have hcz54_0 : w53.cell? ⟨gb410, 0, none⟩ = some (.int .i64 a0_0) := (zA7 BK410.out 0).trans rfl; have hcz54_1 : w53.cell? ⟨gb410, 1, none⟩ = some (.slice A0_1 l0_1.length c0_1) := (zA7 BK410.out 1).trans rfl; have hfz54_0 := zA9 BK410.out 0; have hfz54_1 := zA9 BK410.out 1) | ((with_reducible refine zAp (f := 23) rfl ?_); refine zBq (some 55) rfl rfl Tryz.func23 (by kernel_rfl) rfl #[.agg #[.int .i64 a0_0, .slice A0_1 l0_1.length c0_1], .slice A1 l1.length c1] rfl (by (try simp only [List.map_toArray, List.map_cons, List.map_nil]); first | done | rfl | (simp only [List.length_drop, List.length_take]; rfl)) ?_; (with_reducible refine (zAx.calls kj18 a0_0 _ _ l0_1 _ _ l1 t422 t425 _ ?side1 ?side2 ?side3 ?side4 ?side5 A29.out).mono ?_); (case side1 => repeat (first | exact (Kd.zAk HR0_1.out HB.out) | (with_reducible refine Kd.zAj ?_ _) | (with_reducible refine Kd.zAs ?_ _) | (with_reducible refine Kd.zB2 ?_))); (case side2 => exact HC0_1.out); (case side3 => repeat (first | exact (Kd.zAk HR1.out HB.out) | (with_reducible refine Kd.zAj ?_ _) | (with_reducible refine Kd.zAs ?_ _) | (with_reducible refine Kd.zB2 ?_))); (case side4 => exact HC1.out); (case side5 => repeat (first | exact (Kd.zAk HG.out HB.out) | (with_reducible refine Kd.zAj ?_ _) | (with_reducible refine Kd.zAs ?_ _) | (with_reducible refine Kd.zB2 ?_))); rintro e w55 ⟨v423, rfl, ho0, hb⟩; refine ⟨_, rfl, ?_⟩; have n0_ := zA2.mk (Kd.S_elder' (by (with_reducible repeat (first | apply Kd.S_alloc | apply Kd.S_drewN | apply Kd.S_drew)); exact HO420.out) (Kd.R_base ho0) hb); have n1_ := zA2.mk (Kd.R_lower ho0 (zAb (by repeat (first | (with_reducible first | exact HB.out | apply zA1 | apply zA0 | apply zA3 | refine zA4 ?_ GE410.out) | exact HB.out)))); have n2_ := zA2.mk (zAl (g := gb410) (o := .cells #[.int .i64 a0_0, .slice A0_1 l0_1.length c0_1] 28 (0, 0)) (by (with_reducible repeat (first | refine zA6 ?_ _ | refine zA8 ?_ | refine zA5 ?_ _)); exact BK410.out) hb); have n3_ := zA2.mk (zAe (by repeat (first | (with_reducible first | exact HB.out | apply zA1 | apply zA0 | apply zA3 | refine zA4 ?_ GE410.out) | exact HB.out)) hb); clear HO420; clear BK410; clear HB; have HO420 := n0_; have HO424 := n1_; have BK410 := n2_; have HB := n3_; clear n0_ n1_ n2_ n3_; (try clear hb); (try clear hb2); (try clear hk); (try clear hi); (try clear ho0); have hcz56_0 : w55.cell? ⟨gb410, 0, none⟩ = some (.int .i64 a0_0) := (zA7 BK410.out 0).trans rfl; have hcz56_1 : w55.cell? ⟨gb410, 1, none⟩ = some (.slice A0_1 l0_1.length c0_1) := (zA7 BK410.out 1).trans rfl; have hfz56_0 := zA9 BK410.out 0; have hfz56_1 := zA9 BK410.out 1) | ((with_reducible refine zAp (f := 9) rfl ?_); refine zBq (some 61) rfl rfl Tryz.func9 (by kernel_rfl) rfl #[.agg #[.int .i64 a0_0, .slice A0_1 l0_1.length c0_1], .slice A1 l1.length c1, .int .i64 1] rfl (by (try simp only [List.map_toArray, List.map_cons, List.map_nil]); first | done | rfl | (simp only [List.length_drop, List.length_take]; rfl)) ?_; (with_reducible refine (liaison_Subsets.calls a0_0 _ _ l0_1 _ _ l1 1 t426 t429 _ ?side1 ?side2 ?side3 ?side4 ?side5 A30.out).mono ?_); (case side1 => repeat (first | exact (Kd.zAk HR0_1.out HB.out) | (with_reducible refine Kd.zAj ?_ _) | (with_reducible refine Kd.zAs ?_ _) | (with_reducible refine Kd.zB2 ?_))); (case side2 => exact HC0_1.out); (case side3 => repeat (first | exact (Kd.zAk HR1.out HB.out) | (with_reducible refine Kd.zAj ?_ _) | (with_reducible refine Kd.zAs ?_ _) | (with_reducible refine Kd.zB2 ?_))); (case side4 => exact HC1.out); (case side5 => repeat (first | exact (Kd.zAk HG.out HB.out) | (with_reducible refine Kd.zAj ?_ _) | (with_reducible refine Kd.zAs ?_ _) | (with_reducible refine Kd.zB2 ?_))); rintro e w57 ⟨v427, rfl, ho0, hb⟩; refine ⟨_, rfl, ?_⟩; have n0_ := zA2.mk (Kd.S_elder' (by (with_reducible repeat (first | apply Kd.S_alloc | apply Kd.S_drewN | apply Kd.S_drew)); exact HO420.out) (Kd.S_base ho0) hb); have n1_ := zA2.mk (Kd.R_below (by (with_reducible repeat (first | apply Kd.zB6 | apply Kd.zB5 | apply Kd.zBf)); exact HO424.out) hb); have n2_ := zA2.mk (Kd.S_lower (Kd.S_new' (Kd.S_new' ho0 (Kd.S_lt (by (with_reducible repeat (first | apply Kd.S_alloc | apply Kd.S_drewN | apply Kd.S_drew)); exact HO420.out))) (Kd.R_lt (by (with_reducible repeat (first | apply Kd.zB6 | apply Kd.zB5 | apply Kd.zBf)); exact HO424.out))) (zAb (by repeat (first | (with_reducible first | exact HB.out | apply zA1 | apply zA0 | apply zA3 | refine zA4 ?_ GE410.out) | exact HB.out)))); have n3_ := zA2.mk (zAl (g := gb410) (o := .cells #[.int .i64 a0_0, .slice A0_1 l0_1.length c0_1] 28 (0, 0)) (by (with_reducible repeat (first | refine zA6 ?_ _ | refine zA8 ?_ | refine zA5 ?_ _)); exact BK410.out) hb); have n4_ := zA2.mk (zAe (by repeat (first | (with_reducible first | exact HB.out | apply zA1 | apply zA0 | apply zA3 | refine zA4 ?_ GE410.out) | exact HB.out)) hb); clear HO420; clear HO424; clear BK410; clear HB; have HO420 := n0_; have HO424 := n1_; have HO428 := n2_; have BK410 := n3_; have HB := n4_; clear n0_ n1_ n2_ n3_ n4_; (try clear hb); (try clear hb2); (try clear hk); (try clear hi); (try clear ho0)))
         go_ret
         exact ⟨by first | rfl | (simp [zAr, zAq] <;> rfl) | (simp [*, zAr, zAq] <;> rfl), by repeat (first | (with_reducible first | exact HB.out | apply zA1 | apply zA0 | apply zA3 | refine zA4 ?_ GE410.out) | exact HB.out)⟩
       ·rw [if_neg c31] at H
        have c31b0 : (t417 == x5_18) = false := beq_eq_false_iff_ne.mpr c31
        have c31b1 : (t417 != x5_18) = true := bne_iff_ne.mpr c31
        obtain rfl := Option.some.inj H
        have hcz58_0 : wc.cell? ⟨gb410, 0, none⟩ = some (.int .i64 a0_0) := (zA7 BK410.out 0).trans rfl
        have hcz58_1 : wc.cell? ⟨gb410, 1, none⟩ = some (.slice A0_1 l0_1.length c0_1) := (zA7 BK410.out 1).trans rfl
        have hfz58_0 := zA9 BK410.out 0
        have hfz58_1 := zA9 BK410.out 1
        go_wp2_with (first | ((with_reducible refine zAp (f := 12) rfl ?_); refine zBq (some 43) rfl rfl Tryz.func12 (by kernel_rfl) rfl #[.agg #[.int .i64 a0_0, .slice A0_1 l0_1.length c0_1], .slice A1 l1.length c1] rfl (by (try simp only [List.map_toArray, List.map_cons, List.map_nil]); first | done | rfl | (simp only [List.length_drop, List.length_take]; rfl)) ?_; (with_reducible refine (zBw.calls kj18 a0_0 _ _ l0_1 _ _ l1 t416 t417 _ ?side1 ?side2 ?side3 ?side4 ?side5 A27.out).mono ?_); (case side1 => repeat (first | exact (Kd.zAk HR0_1.out HB.out) | (with_reducible refine Kd.zAj ?_ _) | (with_reducible refine Kd.zAs ?_ _) | (with_reducible refine Kd.zB2 ?_))); (case side2 => exact HC0_1.out); (case side3 => repeat (first | exact (Kd.zAk HR1.out HB.out) | (with_reducible refine Kd.zAj ?_ _) | (with_reducible refine Kd.zAs ?_ _) | (with_reducible refine Kd.zB2 ?_))); (case side4 => exact HC1.out); (case side5 => repeat (first | exact (Kd.zAk HG.out HB.out) | (with_reducible refine Kd.zAj ?_ _) | (with_reducible refine Kd.zAs ?_ _) | (with_reducible refine Kd.zB2 ?_))); rintro e w59 ⟨rfl, hb⟩; refine ⟨_, rfl, ?_⟩; have n0_ := zA2.mk (zAl (g := gb410) (o := .cells #[.int .i64 a0_0, .slice A0_1 l0_1.length c0_1] 28 (0, 0)) (by (with_reducible repeat (first | refine zA6 ?_ _ | refine zA8 ?_ | refine zA5 ?_ _)); exact BK410.out) hb); have n1_ := zA2.mk (zAe (by repeat (first | (with_reducible first | exact HB.out | apply zA1 | apply zA0 | apply zA3 | refine zA4 ?_ GE410.out) | exact HB.out)) hb); clear BK410; clear HB; have BK410 := n0_; have HB := n1_; clear n0_ n1_; (try clear hb); (try clear hb2); (try clear hk); (try clear hi); have hcz60_0 : w59.cell? ⟨gb410, 0, none⟩ = some (.int .i64 a0_0) := (zA7 BK410.out 0).trans rfl; have hcz60_1 : w59.cell? ⟨gb410, 1, none⟩ = some (.slice A0_1 l0_1.length c0_1) := (zA7 BK410.out 1).trans rfl; have hfz60_0 := zA9 BK410.out 0; have hfz60_1 := zA9 BK410.out 1) | ((with_reducible refine zAp (f := 13) rfl ?_); refine zBq (some 49) rfl rfl Tryz.func13 (by kernel_rfl) rfl #[.agg #[.int .i64 a0_0, .slice A0_1 l0_1.length c0_1], .slice A1 l1.length c1] rfl (by (try simp only [List.map_toArray, List.map_cons, List.map_nil]); first | done | rfl | (simp only [List.length_drop, List.length_take]; rfl)) ?_; (with_reducible refine (zBb.calls kj18 a0_0 _ _ l0_1 _ _ l1 t418 t421 _ ?side1 ?side2 ?side3 ?side4 ?side5 A28.out).mono ?_); (case side1 => repeat (first | exact (Kd.zAk HR0_1.out HB.out) | (with_reducible refine Kd.zAj ?_ _) | (with_reducible refine Kd.zAs ?_ _) | (with_reducible refine Kd.zB2 ?_))); (case side2 => exact HC0_1.out); (case side3 => repeat (first | exact (Kd.zAk HR1.out HB.out) | (with_reducible refine Kd.zAj ?_ _) | (with_reducible refine Kd.zAs ?_ _) | (with_reducible refine Kd.zB2 ?_))); (case side4 => exact HC1.out); (case side5 => repeat (first | exact (Kd.zAk HG.out HB.out) | (with_reducible refine Kd.zAj ?_ _) | (with_reducible refine Kd.zAs ?_ _) | (with_reducible refine Kd.zB2 ?_))); rintro e w61 ⟨v419, rfl, ho0, hb⟩; refine ⟨_, rfl, ?_⟩; have n0_ := zA2.mk (Kd.S_lower ho0 (zAb (by repeat (first | (with_reducible first | exact HB.out | apply zA1 | apply zA0 | apply zA3 | refine zA4 ?_ GE410.out) | exact HB.out)))); have n1_ := zA2.mk (zAl (g := gb410) (o := .cells #[.int .i64 a0_0, .slice A0_1 l0_1.length c0_1] 28 (0, 0)) (by (with_reducible repeat (first | refine zA6 ?_ _ | refine zA8 ?_ | refine zA5 ?_ _)); exact BK410.out) hb); have n2_ := zA2.mk (zAe (by repeat (first | (with_reducible first | exact HB.out | apply zA1 | apply zA0 | apply zA3 | refine zA4 ?_ GE410.out) | exact HB.out)) hb); clear BK410; clear HB; have HO420 := n0_; have BK410 := n1_; have HB := n2_; clear n0_ n1_ n2_; (try clear hb); (try clear hb2); (try clear hk); (try clear hi); (try clear ho0); have hcz62_0 : w61.cell? ⟨gb410, 0, none⟩ = some (.int .i64 a0_0) := (zA7 BK410.out 0).trans rfl; have hcz62_1 : w61.cell? ⟨gb410, 1, none⟩ = some (.slice A0_1 l0_1.length c0_1) := (zA7 BK410.out 1).trans rfl; have hfz62_0 := zA9 BK410.out 0; have hfz62_1 := zA9 BK410.out 1) | ((with_reducible refine zAp (f := 23) rfl ?_); refine zBq (some 55) rfl rfl Tryz.func23 (by kernel_rfl) rfl #[.agg #[.int .i64 a0_0, .slice A0_1 l0_1.length c0_1], .slice A1 l1.length c1] rfl (by (try simp only [List.map_toArray, List.map_cons, List.map_nil]); first | done | rfl | (simp only [List.length_drop, List.length_take]; rfl)) ?_; (with_reducible refine (zAx.calls kj18 a0_0 _ _ l0_1 _ _ l1 t422 t425 _ ?side1 ?side2 ?side3 ?side4 ?side5 A29.out).mono ?_); (case side1 => repeat (first | exact (Kd.zAk HR0_1.out HB.out) | (with_reducible refine Kd.zAj ?_ _) | (with_reducible refine Kd.zAs ?_ _) | (with_reducible refine Kd.zB2 ?_))); (case side2 => exact HC0_1.out); (case side3 => repeat (first | exact (Kd.zAk HR1.out HB.out) | (with_reducible refine Kd.zAj ?_ _) | (with_reducible refine Kd.zAs ?_ _) | (with_reducible refine Kd.zB2 ?_))); (case side4 => exact HC1.out); (case side5 => repeat (first | exact (Kd.zAk HG.out HB.out) | (with_reducible refine Kd.zAj ?_ _) | (with_reducible refine Kd.zAs ?_ _) | (with_reducible refine Kd.zB2 ?_))); rintro e w63 ⟨v423, rfl, ho0, hb⟩; refine ⟨_, rfl, ?_⟩; have n0_ := zA2.mk (Kd.S_elder' (by (with_reducible repeat (first | apply Kd.S_alloc | apply Kd.S_drewN | apply Kd.S_drew)); exact HO420.out) (Kd.R_base ho0) hb); have n1_ := zA2.mk (Kd.R_lower ho0 (zAb (by repeat (first | (with_reducible first | exact HB.out | apply zA1 | apply zA0 | apply zA3 | refine zA4 ?_ GE410.out) | exact HB.out)))); have n2_ := zA2.mk (zAl (g := gb410) (o := .cells #[.int .i64 a0_0, .slice A0_1 l0_1.length c0_1] 28 (0, 0)) (by (with_reducible repeat (first | refine zA6 ?_ _ | refine zA8 ?_ | refine zA5 ?_ _)); exact BK410.out) hb); have n3_ := zA2.mk (zAe (by repeat (first | (with_reducible first | exact HB.out | apply zA1 | apply zA0 | apply zA3 | refine zA4 ?_ GE410.out) | exact HB.out)) hb); clear HO420; clear BK410; clear HB; have HO420 := n0_; have HO424 := n1_; have BK410 := n2_; have HB := n3_; clear n0_ n1_ n2_ n3_; (try clear hb); (try clear hb2); (try clear hk); (try clear hi); (try clear ho0); have hcz64_0 : w63.cell? ⟨gb410, 0, none⟩ = some (.int .i64 a0_0) := (zA7 BK410.out 0).trans rfl; have hcz64_1 : w63.cell? ⟨gb410, 1, none⟩ = some (.slice A0_1 l0_1.length c0_1) := (zA7 BK410.out 1).trans rfl; have hfz64_0 := zA9 BK410.out 0; have hfz64_1 := zA9 BK410.out 1) | ((with_reducible refine zAp (f := 9) rfl ?_); refine zBq (some 61) rfl rfl Tryz.func9 (by kernel_rfl) rfl #[.agg #[.int .i64 a0_0, .slice A0_1 l0_1.length c0_1], .slice A1 l1.length c1, .int .i64 1] rfl (by (try simp only [List.map_toArray, List.map_cons, List.map_nil]); first | done | rfl | (simp only [List.length_drop, List.length_take]; rfl)) ?_; (with_reducible refine (liaison_Subsets.calls a0_0 _ _ l0_1 _ _ l1 1 t426 t429 _ ?side1 ?side2 ?side3 ?side4 ?side5 A30.out).mono ?_); (case side1 => repeat (first | exact (Kd.zAk HR0_1.out HB.out) | (with_reducible refine Kd.zAj ?_ _) | (with_reducible refine Kd.zAs ?_ _) | (with_reducible refine Kd.zB2 ?_))); (case side2 => exact HC0_1.out); (case side3 => repeat (first | exact (Kd.zAk HR1.out HB.out) | (with_reducible refine Kd.zAj ?_ _) | (with_reducible refine Kd.zAs ?_ _) | (with_reducible refine Kd.zB2 ?_))); (case side4 => exact HC1.out); (case side5 => repeat (first | exact (Kd.zAk HG.out HB.out) | (with_reducible refine Kd.zAj ?_ _) | (with_reducible refine Kd.zAs ?_ _) | (with_reducible refine Kd.zB2 ?_))); rintro e w65 ⟨v427, rfl, ho0, hb⟩; refine ⟨_, rfl, ?_⟩; have n0_ := zA2.mk (Kd.S_elder' (by (with_reducible repeat (first | apply Kd.S_alloc | apply Kd.S_drewN | apply Kd.S_drew)); exact HO420.out) (Kd.S_base ho0) hb); have n1_ := zA2.mk (Kd.R_below (by (with_reducible repeat (first | apply Kd.zB6 | apply Kd.zB5 | apply Kd.zBf)); exact HO424.out) hb); have n2_ := zA2.mk (Kd.S_lower (Kd.S_new' (Kd.S_new' ho0 (Kd.S_lt (by (with_reducible repeat (first | apply Kd.S_alloc | apply Kd.S_drewN | apply Kd.S_drew)); exact HO420.out))) (Kd.R_lt (by (with_reducible repeat (first | apply Kd.zB6 | apply Kd.zB5 | apply Kd.zBf)); exact HO424.out))) (zAb (by repeat (first | (with_reducible first | exact HB.out | apply zA1 | apply zA0 | apply zA3 | refine zA4 ?_ GE410.out) | exact HB.out)))); have n3_ := zA2.mk (zAl (g := gb410) (o := .cells #[.int .i64 a0_0, .slice A0_1 l0_1.length c0_1] 28 (0, 0)) (by (with_reducible repeat (first | refine zA6 ?_ _ | refine zA8 ?_ | refine zA5 ?_ _)); exact BK410.out) hb); have n4_ := zA2.mk (zAe (by repeat (first | (with_reducible first | exact HB.out | apply zA1 | apply zA0 | apply zA3 | refine zA4 ?_ GE410.out) | exact HB.out)) hb); clear HO420; clear HO424; clear BK410; clear HB; have HO420 := n0_; have HO424 := n1_; have HO428 := n2_; have BK410 := n3_; have HB := n4_; clear n0_ n1_ n2_ n3_ n4_; (try clear hb); (try clear hb2); (try clear hk); (try clear hi); (try clear ho0)))
        go_ret
        exact ⟨by first | rfl | (simp [zAr, zAq] <;> rfl) | (simp [*, zAr, zAq] <;> rfl), by repeat (first | (with_reducible first | exact HB.out | apply zA1 | apply zA0 | apply zA3 | refine zA4 ?_ GE410.out) | exact HB.out)⟩
    ·rw [if_neg c18] at H
     have c18b0 : (t414 == t413) = false := beq_eq_false_iff_ne.mpr c18
     have c18b1 : (t414 != t413) = true := bne_iff_ne.mpr c18
     obtain rfl := Option.some.inj H
     have hcz66_0 : wc.cell? ⟨gb410, 0, none⟩ = some (.int .i64 a0_0) := (zA7 BK410.out 0).trans rfl
     have hcz66_1 : wc.cell? ⟨gb410, 1, none⟩ = some (.slice A0_1 l0_1.length c0_1) := (zA7 BK410.out 1).trans rfl
     have hfz66_0 := zA9 BK410.out 0
     have hfz66_1 := zA9 BK410.out 1
     go_wp2_with (first | ((with_reducible refine zAp (f := 20) rfl ?_); refine zBq (some 29) rfl rfl Tryz.func20 (by kernel_rfl) rfl #[.agg #[.int .i64 a0_0, .slice A0_1 l0_1.length c0_1]] rfl (by (try simp only [List.map_toArray, List.map_cons, List.map_nil]); first | done | rfl | (simp only [List.length_drop, List.length_take]; rfl)) ?_; (with_reducible refine (zB1.calls kj2 a0_0 _ _ l0_1 t413 _ ?side1 ?side2 A16.out).mono ?_); (case side1 => repeat (first | exact (Kd.zAk HR0_1.out HB.out) | (with_reducible refine Kd.zAj ?_ _) | (with_reducible refine Kd.zAs ?_ _) | (with_reducible refine Kd.zB2 ?_))); (case side2 => exact HC0_1.out); rintro e w67 ⟨rfl, hb⟩; refine ⟨_, rfl, ?_⟩; have n0_ := zA2.mk (zAl (g := gb410) (o := .cells #[.int .i64 a0_0, .slice A0_1 l0_1.length c0_1] 28 (0, 0)) (by (with_reducible repeat (first | refine zA6 ?_ _ | refine zA8 ?_ | refine zA5 ?_ _)); exact BK410.out) hb); have n1_ := zA2.mk (zAe (by repeat (first | (with_reducible first | exact HB.out | apply zA1 | apply zA0 | apply zA3 | refine zA4 ?_ GE410.out) | exact HB.out)) hb); clear BK410; clear HB; have BK410 := n0_; have HB := n1_; clear n0_ n1_; (try clear hb); (try clear hb2); (try clear hk); (try clear hi); have hcz68_0 : w67.cell? ⟨gb410, 0, none⟩ = some (.int .i64 a0_0) := (zA7 BK410.out 0).trans rfl; have hcz68_1 : w67.cell? ⟨gb410, 1, none⟩ = some (.slice A0_1 l0_1.length c0_1) := (zA7 BK410.out 1).trans rfl; have hfz68_0 := zA9 BK410.out 0; have hfz68_1 := zA9 BK410.out 1) | ((with_reducible refine zAp (f := 21) rfl ?_); refine zBq (some 31) rfl rfl Tryz.func21 (by kernel_rfl) rfl #[.agg #[.int .i64 a0_0, .slice A0_1 l0_1.length c0_1]] rfl (by (try simp only [List.map_toArray, List.map_cons, List.map_nil]); first | done | rfl | (simp only [List.length_drop, List.length_take]; rfl)) ?_; (with_reducible refine (zAy.calls kj2 a0_0 _ _ l0_1 t414 _ ?side1 ?side2 A17.out).mono ?_); (case side1 => repeat (first | exact (Kd.zAk HR0_1.out HB.out) | (with_reducible refine Kd.zAj ?_ _) | (with_reducible refine Kd.zAs ?_ _) | (with_reducible refine Kd.zB2 ?_))); (case side2 => exact HC0_1.out); rintro e w69 ⟨rfl, hb⟩; refine ⟨_, rfl, ?_⟩; have n0_ := zA2.mk (zAl (g := gb410) (o := .cells #[.int .i64 a0_0, .slice A0_1 l0_1.length c0_1] 28 (0, 0)) (by (with_reducible repeat (first | refine zA6 ?_ _ | refine zA8 ?_ | refine zA5 ?_ _)); exact BK410.out) hb); have n1_ := zA2.mk (zAe (by repeat (first | (with_reducible first | exact HB.out | apply zA1 | apply zA0 | apply zA3 | refine zA4 ?_ GE410.out) | exact HB.out)) hb); clear BK410; clear HB; have BK410 := n0_; have HB := n1_; clear n0_ n1_; (try clear hb); (try clear hb2); (try clear hk); (try clear hi)))
     go_ret
     exact ⟨by first | rfl | (simp [zAr, zAq] <;> rfl) | (simp [*, zAr, zAq] <;> rfl), by repeat (first | (with_reducible first | exact HB.out | apply zA1 | apply zA0 | apply zA3 | refine zA4 ?_ GE410.out) | exact HB.out)⟩
end
end Go.Proofs.YtbghfbhlbfcloaaGreatDoor.PL
namespace Go.Proofs.YtbghfbhlbfcloaaGreatDoor.PL
section
set_option linter.unusedVariables false
set_option linter.unusedSimpArgs false
open Go.RowKit Go.Proofs.YtbghfbhlbfcloaaGreatDoorW.PrintWords Go.Proofs.YtbghfbhlbfcloaaGreatDoorW.PrintLast Go.Proofs.YtbghfbhlbfcloaaGreatDoorW.PrintMore
theorem subs12 {m : Nat} (hm : m < 4096) : ∀ (q s : Nat), s < q → s < 4096 → ∃ ms : List Nat, subs (m : Int) q (s : Int) = some (ms.map fun x : Nat => (x : Int)) ∧ (∀ x ∈ ms, x ≠ 0 ∧ x ≤ s) ∧ ms.Pairwise (· > ·)
 | 0, s, h, _ => by omega
 | q + 1, s, h, hs => by
  by_cases h0 : s = 0
  ·subst h0
   exact ⟨[], by unfold subs; rw [if_pos (by simp)]; rfl, fun x hx => by simp at hx, List.Pairwise.nil⟩
  ·have e1 : IntKind.u64.wrap ((s : Int) - 1) = ((s - 1 : Nat) : Int) := by
    rw [show (s : Int) - 1 = ((s - 1 : Nat) : Int) by omega]
    exact wraps_12 _ (by omega) (by omega)
   have e2 : nextS (m : Int) (s : Int) = (((s - 1) &&& m : Nat) : Int) := by
    unfold nextS
    rw [e1, andJ _ _ (by omega) hm]
   have hle : (s - 1) &&& m ≤ s - 1 := Nat.and_le_left
   obtain ⟨ms, h1, h2, h3⟩ := subs12 hm q ((s - 1) &&& m) (by omega) (by omega)
   refine ⟨s :: ms, ?_, fun x hx => ?_, List.Pairwise.cons (fun x hx => ?_) h3⟩
   ·unfold subs
    rw [if_neg (by omega), e2, if_pos (by omega), h1]
    rfl
   ·rcases List.mem_cons.1 hx with rfl | hx
    ·exact ⟨h0, Nat.le_refl _⟩
    ·have := h2 x hx
     exact ⟨this.1, by omega⟩
   ·have := (h2 x hx).2
    show s > x
    omega
def one12 (x : Nat) : Bool := decide ((E12 x).length ≤ 1)
theorem one12_tab : ((List.range 4096).all fun x => x == 0 || !(one12 x) || ((List.range 12).any fun i => x == 2 ^ i)) = true := by kernel_rfl
theorem one12_f {x : Nat} (hx : x < 4096) (h0 : x ≠ 0) (h : one12 x = true) : ∃ i, i < 12 ∧ x = 2 ^ i := by
 have h1 := List.all_eq_true.1 one12_tab x (List.mem_range.2 hx)
 rw [h, beq_eq_false_iff_ne.2 h0] at h1
 obtain ⟨i, hi, he⟩ := List.any_eq_true.1 (show ((List.range 12).any fun i => x == 2 ^ i) = true from h1)
 exact ⟨i, List.mem_range.1 hi, eq_of_beq he⟩
theorem pow_tab12 : ((List.range 12).all fun i => (E12 (2 ^ i) == [((i : Nat) : Int)]) && ((List.range 12).all fun j => zBz.f 20 (E12 (2 ^ i)) (E12 (2 ^ j)) == some (befL (E12 (2 ^ i)) (E12 (2 ^ j))))) = true := by kernel_rfl
theorem pow12_f {i : Nat} (hi : i < 12) : E12 (2 ^ i) = [((i : Nat) : Int)] := by
 have h := List.all_eq_true.1 pow_tab12 i (List.mem_range.2 hi)
 rw [Bool.and_eq_true] at h
 exact eq_of_beq h.1
theorem bef12_f {i j : Nat} (hi : i < 12) (hj : j < 12) : zBz.f CU.k (E12 (2 ^ i)) (E12 (2 ^ j)) = some (befL (E12 (2 ^ i)) (E12 (2 ^ j))) := by
 have h := List.all_eq_true.1 pow_tab12 i (List.mem_range.2 hi)
 rw [Bool.and_eq_true] at h
 have h2 := List.all_eq_true.1 h.2 j (List.mem_range.2 hj)
 exact up (fun k => zBz.mono _ _ k) (eq_of_beq h2) CU.k (by decide)
theorem allS12 : ∀ l : List Nat, (∀ x ∈ l, x < 4096) → allS (stO 1) (l.map fun x : Nat => (x : Int)) = some ((l.filter one12).map E12)
 | [], _ => rfl
 | x :: r, h => by
  have hx := h x (by simp)
  have e : stO 1 (x : Int) = some (if one12 x = true then [E12 x] else []) := by
   unfold stO
   rw [oc12_f x hx, Option.bind_some]
   unfold one12
   by_cases h1 : (E12 x).length ≤ 1
   ·rw [if_pos (by omega), listed12_f CU.k (by decide) x hx, Option.bind_some, if_pos (decide_eq_true h1)]
   ·rw [if_neg (by omega), if_neg (by simpa using h1)]
  rw [List.map_cons, allS, e, Option.bind_some, allS12 r (fun y hy => h y (by simp [hy])), Option.bind_some]
  by_cases hq : one12 x = true
  ·rw [if_pos hq, List.filter_cons_of_pos hq]
   rfl
  ·rw [if_neg hq, List.filter_cons_of_neg hq]
   rfl
theorem okS12 (l : List Nat) (hlt : ∀ x ∈ l, x < 4096 ∧ x ≠ 0 ∧ one12 x = true) (hn : l.Nodup) : okS (l.map E12) = true := by
 have hp : ∀ x ∈ l, ∃ i, i < 12 ∧ x = 2 ^ i := fun x hx => one12_f (hlt x hx).1 (hlt x hx).2.1 (hlt x hx).2.2
 unfold okS
 rw [Bool.and_eq_true, Bool.and_eq_true]
 refine ⟨⟨decide_eq_true ?_, ?_⟩, decide_eq_true ?_⟩
 ·have hs : l ⊆ (List.range 12).map fun i => 2 ^ i := fun x hx => by
   obtain ⟨i, hi, rfl⟩ := hp x hx
   exact List.mem_map.2 ⟨i, List.mem_range.2 hi, rfl⟩
  have := hn.length_le_of_subset hs
  rw [List.length_map, List.length_range] at this
  rw [List.length_map]
  omega
 ·rw [List.all_eq_true]
  intro p hp'
  obtain ⟨x, hx, rfl⟩ := List.mem_map.1 hp'
  rw [List.all_eq_true]
  intro q hq
  obtain ⟨y, hy, rfl⟩ := List.mem_map.1 hq
  obtain ⟨i, hi, rfl⟩ := hp x hx
  obtain ⟨j, hj, rfl⟩ := hp y hy
  rw [bef12_f hi hj]
  exact beq_self_eq_true _
 ·refine List.pairwise_map.2 (hn.imp_of_mem fun {a b} ha hb hne h => hne ?_)
  obtain ⟨i, hi, rfl⟩ := hp a ha
  obtain ⟨j, hj, rfl⟩ := hp b hb
  rw [pow12_f hi, pow12_f hj] at h
  injection h with h _
  obtain rfl : i = j := by omega
  rfl
theorem SU12 {n : Nat} {A : List Nat} (hA : Gn n A) (E : List S58) (s : List Int) (m : Nat) (hm : m < 2 ^ n) (hs : 1 ≤ s.length) (hop : zB3.f CU.k (n : Int) E s = some (LI A, (m : Int), 0)) : ∃ l, SU.f (n : Int) E s 1 = some (l, 0) := by
 have hp := p12 hA.2.1
 obtain ⟨ms, h1, h2, h3⟩ := subs12 (m := m) (by omega) 5000 m (by omega) (by omega)
 have hlt : ∀ x ∈ ms, x < 2 ^ n := fun x hx => Nat.lt_of_le_of_lt (h2 x hx).2 hm
 have hsome : ∀ x ∈ ms, (zAg.f CU.k (LI A) (x : Int)).isSome = true := fun x hx => by
  obtain ⟨b, hb⟩ := connected12_f hA x (hlt x hx) CU.k (by decide)
  rw [hb]
  rfl
 have e1 : (ms.map fun x : Nat => (x : Int)).filter (cnB (LI A)) = (ms.filter fun x : Nat => cnB (LI A) (x : Int)).map fun x : Nat => (x : Int) := by
  rw [List.filter_map]
  rfl
 unfold SU.f
 rw [hop, Option.bind_some, if_pos rfl, if_neg (by omega), h1, Option.bind_some, if_pos (by
  rw [List.all_map, List.all_eq_true]
  exact hsome), e1, allS12 _ (fun x hx => by
  have := hlt x (List.mem_filter.1 hx).1
  omega), Option.bind_some, if_pos (okS12 _ (fun x hx => by
  obtain ⟨ha, hb⟩ := List.mem_filter.1 hx
  have hc := (List.mem_filter.1 ha).1
  have := hlt x hc
  exact ⟨by omega, (h2 x hc).1, hb⟩) (((h3.imp fun h => by omega).filter _).filter _))]
 exact ⟨_, rfl⟩
theorem checks_j1 (n : Int) (E : List S58) (s : List Int) (e : Int) (h : ∀ k, 5000 ≤ k → (∃ b, zBw.f k n E s = some (b, e)) ∧ (∃ l, zBb.f k n E s = some (l, e)) ∧ ∃ l, zAx.f k n E s = some (l, e)) (hS : ∃ l, SU.f n E s 1 = some (l, e)) (k : Nat) (hk : 6000 ≤ k) : zAd.j1 k s e n E = some true := by
 obtain ⟨k, rfl⟩ : ∃ q, k = q + 1 := ⟨k - 1, by omega⟩
 obtain ⟨⟨b, h1⟩, ⟨l, h2⟩, l', h3⟩ := h k (by omega)
 obtain ⟨l'', h4⟩ := hS
 rw [zAd.j1, h1, Option.bind_some, h2, Option.bind_some, h3, Option.bind_some, show liaison_Subsets.f n E s 1 = some (l'', e) from h4, Option.bind_some, if_pos rfl, if_pos rfl, if_pos rfl, beq_self_eq_true]
theorem checks_bad (n : Int) (E : List S58) (s : List Int) (e : Int) (he : e ≠ 0) (h : ∀ k, 700 ≤ k → ∃ L m, zB3.f k n E s = some (L, m, e)) (k : Nat) (hk : 6000 ≤ k) : zAd.j1 k s e n E = some true := by
 refine checks_j1 n E s e (fun k hk => ?_) ?_ k hk
 ·obtain ⟨L, m, ho⟩ := h k (by omega)
  refine ⟨⟨false, ?_⟩, ⟨[], ?_⟩, [], ?_⟩
  ·unfold zBw.f
   rw [ho, Option.bind_some, if_neg he]
  ·unfold zBb.f
   rw [ho, Option.bind_some, if_neg he]
  ·unfold zAx.f
   rw [ho, Option.bind_some, if_neg he]
 ·obtain ⟨L, m, ho⟩ := h CU.k (by decide)
  refine ⟨[], ?_⟩
  unfold SU.f
  rw [ho, Option.bind_some, if_neg he]
theorem checks_plain (n : Int) (E : List S58) (s : List Int) : zAd.f 20000 n E s = some true := by
 have hkn : zCc.f = some true := rfl
 have jt : ∀ x : Bool, x = true → zAd.j0 (19999 + 1) s x n E = some true := fun x hx => by
  rw [zAd.j0, if_pos hx, hkn, Option.bind_some]
 unfold zAd.f
 rw [hkn, Option.bind_some, if_pos rfl]
 by_cases hE : (E.length : Int) > 20
 ·rw [if_pos hE]
  exact jt true rfl
 ·rw [if_neg hE]
  by_cases hs : (s.length : Int) > 10
  ·exact jt _ (decide_eq_true hs)
  ·rw [decide_eq_false hs]
   obtain ⟨e, h1, h2, h3⟩ := check_both E n (by omega)
   change zAd.j0 (19999 + 1) s false n E = some true
   rw [zAd.j0, if_neg (by decide), h2 19999 (by decide), Option.bind_some, h1 19999 (by decide), Option.bind_some, if_pos rfl]
   by_cases h0 : e = 0
   ·subst h0
    obtain ⟨hn0, hn12, hin⟩ := h3 rfl
    obtain ⟨N, rfl⟩ : ∃ N : Nat, n = (N : Int) := ⟨n.toNat, by omega⟩
    have hN : N ≤ 12 := by omega
    rw [if_pos rfl]
    by_cases hs0 : s.length = 0
    ·have hc : zAh.f 19999 s (N : Int) = some 7 := by
      unfold zAh.f
      rw [if_pos (by omega)]
     rw [hc, Option.bind_some]
     refine checks_bad (N : Int) E s 7 (by decide) (fun k hk => ?_) 19999 (by decide)
     refine ⟨[], 0, ?_⟩
     unfold zB3.f
     rw [h1 k (by omega), Option.bind_some, if_pos rfl, if_pos (by omega)]
    ·obtain ⟨e2, g1, g2, g3⟩ := chk_f s (N : Int) (by omega) hs0
     rw [g1 19999 (by omega), Option.bind_some]
     by_cases h9 : e2 = 0
     ·subst h9
      have hok := g3 rfl
      obtain ⟨A, hA, hlk⟩ := linked12_f hN E hin (by omega)
      obtain ⟨m, hm, hmf⟩ := mask_f s (by omega) (fun a ha => ⟨(hok.1 a ha).1, by have := (hok.1 a ha).2; omega⟩)
      have hmn : m < 2 ^ N := Nat.lt_pow_two_of_testBit m fun i hi => by
       cases e : m.testBit i with
       | false => rfl
       | true =>
        have := (hok.1 _ ((hm.2 i).1 e)).2
        omega
      have hop : ∀ k, 200 ≤ k → zB3.f k (N : Int) E s = some (LI A, (m : Int), 0) := fun k hk => by
       unfold zB3.f
       rw [h1 k (by omega), Option.bind_some, if_pos rfl, if_neg (by omega), g2 k (by omega), Option.bind_some, if_pos rfl, hlk k (by omega), Option.bind_some, hmf k (by omega), Option.bind_some]
      refine checks_j1 (N : Int) E s 0 (fun k hk => ?_) (SU12 hA E s m hmn (by omega) (hop CU.k (by decide))) 19999 (by decide)
      have ho := hop k (by omega)
      refine ⟨?_, ?_, ?_⟩
      ·obtain ⟨b, hb⟩ := connected12_f hA m hmn k (by omega)
       refine ⟨b, ?_⟩
       unfold zBw.f
       rw [ho, Option.bind_some, if_pos rfl, hb, Option.bind_some]
      ·obtain ⟨l, hl⟩ := pieces12 hA 12 m hmn (by
        have := List.length_filter_le (fun i => m.testBit i) (List.range N)
        rw [List.length_range] at this
        omega) k [] (by omega) (by simp)
       refine ⟨l, ?_⟩
       unfold zBb.f
       rw [ho, Option.bind_some, if_pos rfl]
       exact hl
      ·obtain ⟨l, hl⟩ := neigh12 hA m hmn s (fun v hv => hok.1 v hv) (by omega) s.length 0 0 (by omega) (by decide) k (by omega)
       refine ⟨l, ?_⟩
       unfold zAx.f
       rw [ho, Option.bind_some, if_pos rfl]
       exact hl
     ·refine checks_bad (N : Int) E s e2 h9 (fun k hk => ?_) 19999 (by decide)
      refine ⟨[], 0, ?_⟩
      unfold zB3.f
      rw [h1 k (by omega), Option.bind_some, if_pos rfl, if_neg (by omega), g2 k (by omega), Option.bind_some, if_neg h9]
   ·rw [if_neg h0]
    refine checks_bad n E s e h0 (fun k hk => ?_) 19999 (by decide)
    refine ⟨[], 0, ?_⟩
    unfold zB3.f
    rw [h1 k (by omega), Option.bind_some, if_neg h0]
end
end Go.Proofs.YtbghfbhlbfcloaaGreatDoor.PL
