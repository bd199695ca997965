/- Put together by this session's program pack.py. -/
import Derived.Below
import Derived.Deep.Draws
import Derived.Deep.AppendLies
import Derived.Maps.AppendAt
import Derived.OwnWalk
import Derived.Laws.BytesArg
import Derived.Laws.MakeOwn
import Derived.Laws.OwnMore
import Derived.Deep.OwnRows
import Derived.Tactics
import Derived.Lib.ConvBytes
import Derived.Laws.Slices
import Derived.WalkKit
import Derived.KernelRfl
import Derived.RowKit3
import Derived.Deep.LoopGhost
import Derived.Deep.QuietTactic
import Derived.BigQuiet
import Derived.WideLaws
import Derived.Deep.DeepCutAuto
import Derived.Deep.CutBlock
import Derived.Deep.RegionHeld3
import Derived.Laws.Rows
import Derived.Lib.AppendStr
import Derived.ArgAppend
import Derived.Laws.IdiomCopy
import Derived.OrdersHeld
import Derived.Laws.BitsLemmas
import Derived.RowKit
import Derived.Sort.Grow
import Derived.Shelf.SlSortCmp.InsertionK
import Derived.WalkSpells
import Derived.Shelf.SlSortCmp.NoneTotal
import Derived.Shelf.SlGeneric
import Derived.Ground.SlsfProg
import Derived.RangeFuncNested
import Derived.RangeFuncBound
import Derived.RangeFuncCalls
import Derived.RangeFuncLeaves
import Derived.Shelf.Abstract
import Derived.Shelf.RegionOpen
import Derived.OwnWalkIn
import Derived.TacticsInMore
import Derived.LoopNIn
import Derived.LoopIn
import Derived.OrdersIn
import Derived.RangeFuncKeeps
import Derived.RangeFuncWrites
import Derived.Shelf.SlicesQ.IndexFunc
import Derived.Shelf.GgClosure.StringsIndexFuncTop
import Derived.Ground.SlgfProg
import Derived.Ground.GgwProg
import Derived.Test.YtbghfbhlbfcloaaDoorKw0
import Derived.Test.YtbghfbhlbfcloaaDoorKp0
import Derived.Test.YtbghfbhlbfcloaaDoorKp1
import Derived.Test.YtbghfbhlbfcloaaDoorKp2
namespace Go.Proofs.YtbghfbhlbfcloaaDoor.PL
section
open Go.RowKit Go.Proofs.YtbghfbhlbfcloaaDoorW.PrintWords Go.Proofs.YtbghfbhlbfcloaaDoorW.PrintLast Go.Proofs.YtbghfbhlbfcloaaDoorW.PrintMore
attribute [local go_sem] zC2 zC0 zC9 zC8 zBs zBr zC1 zBz   -- for this text's walks alone
set_option linter.unusedVariables false
set_option linter.unusedSimpArgs false
/-! ### zAg: function 15 -/
mutual
def zAg.l0 : Nat → List Int → List Int → Int → Int → List (S68) → Option (List Int)
 | 0, _, _, _, _, _ => none
 | k + 1, x1, x5, x6, x300000, x300001 => if x6 < (x1.length : Int) then (zAg.j1 k x1 x5 x6 (decide ((x1.length : Int) ≥ 3)) x300000 x300001) else (zAg.j1 k x1 x5 x6 false x300000 x300001)
def zAg.j1 : Nat → List Int → List Int → Int → Bool → Int → List (S68) → Option (List Int)
 | 0, _, _, _, _, _, _ => none
 | k + 1, x1, x5, x6, x15, x300000, x300001 => if x15 = true then (if 0 ≤ x6 then (if x6 < (x1.length : Int) then ((zAu.f k x1 (([rd x1 x6] : List Int))).bind fun t304 => ((zAm.f k x300000 x300001 t304).bind fun t307 => (if t307 = true then (zAg.l0 k x1 x5 (wrap64 (x6 + 1)) x300000 x300001) else (if x5.length < 17592186044416 then (zAg.l0 k x1 (x5 ++ [rd x1 x6]) (wrap64 (x6 + 1)) x300000 x300001) else (none))))) else (none)) else (none)) else (some x5)
end
def zAg.f (k : Nat) (a0_0 : Int) (l0_1 : List (S68)) (l1 : List Int) : Option (List Int) := zAg.l0 k l1 ([] : List Int) 0 a0_0 l0_1
theorem zAg.zBx : ∀ k, (∀ y0 y1 y2 y3 y4, LeO (zAg.l0 k y0 y1 y2 y3 y4) (zAg.l0 (k + 1) y0 y1 y2 y3 y4)) ∧ (∀ y0 y1 y2 y3 y4 y5, LeO (zAg.j1 k y0 y1 y2 y3 y4 y5) (zAg.j1 (k + 1) y0 y1 y2 y3 y4 y5))
 | 0 => ⟨fun _ _ _ _ _ r h => by simp [zAg.l0] at h, fun _ _ _ _ _ _ r h => by simp [zAg.j1] at h⟩
 | k + 1 => by
  obtain ⟨ih0, ih1⟩ := zAg.zBx k
  refine ⟨?_, ?_⟩
  ·intro y0 y1 y2 y3 y4
   unfold zAg.l0
   repeat' first
   | (with_reducible exact ih0 _ _ _ _ _)
   | (with_reducible exact ih1 _ _ _ _ _ _)
   | (with_reducible exact zAm.mono _ _ _ _)
   | (with_reducible exact zAu.mono _ _ _)
   | (with_reducible exact LeO.refl _)
   | (with_reducible exact LeO.none _)
   | (with_reducible refine LeO.ite ?_ ?_)
   | (with_reducible refine LeO.bind ?_ (fun _ => ?_))
  ·intro y0 y1 y2 y3 y4 y5
   unfold zAg.j1
   repeat' first
   | (with_reducible exact ih0 _ _ _ _ _)
   | (with_reducible exact ih1 _ _ _ _ _ _)
   | (with_reducible exact zAm.mono _ _ _ _)
   | (with_reducible exact zAu.mono _ _ _)
   | (with_reducible exact LeO.refl _)
   | (with_reducible exact LeO.none _)
   | (with_reducible refine LeO.ite ?_ ?_)
   | (with_reducible refine LeO.bind ?_ (fun _ => ?_))
theorem zAg.mono : ∀ a0 a1 a2 k, LeO (zAg.f k a0 a1 a2) (zAg.f (k + 1) a0 a1 a2) := by
 intro a0 a1 a2 k
 obtain ⟨ih0, ih1⟩ := zAg.zBx k
 unfold zAg.f
 repeat' first
   | (with_reducible exact ih0 _ _ _ _ _)
   | (with_reducible exact ih1 _ _ _ _ _ _)
   | (with_reducible exact zAm.mono _ _ _ _)
   | (with_reducible exact zAu.mono _ _ _)
   | (with_reducible exact LeO.refl _)
   | (with_reducible exact LeO.none _)
   | (with_reducible refine LeO.ite ?_ ?_)
   | (with_reducible refine LeO.bind ?_ (fun _ => ?_))
def zAg.T5 : Bool × List (List Nat × List Nat) := (true, [([], []), ([], []), ([], []), ([], []), ([2, 3], [2, 3]), ([4], [4]), ([5], [5]), ([1, 6], [1, 6]), ([0, 7, 7], [0, 7]), ([8], [8])])
def zAg.B5 : List Nat := [0, 0, 0, 0, 12, 28, 60, 126, 255, 511]
theorem zAg.tab5 : rtab .any (opsOf Tryd.f15 5) = zAg.T5 := by kernel_rfl
theorem zAg.bits5 : waitsOk zAg.T5.2 zAg.B5 = true := by kernel_rfl
set_option maxHeartbeats 8000000 in
set_option maxRecDepth 100000 in
theorem zAg.calls (k : Nat) (a0_0 : Int) (A0_1 : Option Addr) (c0_1 : Nat) (l0_1 : List (S68)) (A1 : Option Addr) (c1 : Nat) (l1 : List Int) (r : List Int) (w : World) (hr0_1 : Kd.C k68 w A0_1 l0_1.length l0_1) (hc0_1 : l0_1.length ≤ c0_1) (hr1 : Kd.C (Kd.int .i64) w A1 l1.length l1) (hc1 : l1.length ≤ c1) (h : zAg.f k a0_0 l0_1 l1 = some r) :
  Calls Tryd.prog 15 #[.agg #[.int .i64 a0_0, .slice A0_1 l0_1.length c0_1], .slice A1 l1.length c1] w fun e w' => ∃ v0_ : Value, e = .returned (v0_) ∧ Kd.R (Kd.int .i64) 3 w' w.heap.size (fun _ => True) v0_ r ∧ Below w.heap.size w w' := by
 have hu28 := Tryd.underlying28
 have HR0_1 := zA1.mk hr0_1
 have HC0_1 := zA1.mk hc0_1
 clear hr0_1 hc0_1
 have HR1 := zA1.mk hr1
 have HC1 := zA1.mk hc1
 clear hr1 hc1
 have HB := zA1.mk (Below.refl w.heap.size w)
 have H : (zAg.l0 k l1 ([] : List Int) 0 a0_0 l0_1) = some r := h
 clear h
 have H' := zA1.mk H
 clear H
 go_enter Tryd.func15, Tryd.ntmps15
 go_wp2_with (first | ((with_reducible refine zBk (N := 2) rfl ?_); (try (refine gate_guard (by rfl) ?_; dsimp only)); refine zBj ?hg (N := 2) ?hd (cs := #[.int .i64 a0_0, .slice A0_1 l0_1.length c0_1]) (t := 28) ?hr ?_; (case hd => rfl); (case hg => rfl); (case hr => first | (go_simp; done) | (go_simp; rfl)); intro gb299 hg w3 hbox hb; have n0_ := zA1.mk (zAe (by repeat (first | (with_reducible first | exact HB.out | apply zA2 | apply zA0 | apply zA3) | exact HB.out)) hb); have n1_ := zA1.mk (hbox); have n2_ := zA1.mk ((by rw [hg]; exact (zAb (by repeat (first | (with_reducible first | exact HB.out | apply zA2 | apply zA0 | apply zA3) | exact HB.out))) : w.heap.size ≤ gb299)); have n3_ := zA1.mk ((by rw [hg]; exact (zAb (by repeat (first | (with_reducible first | exact HB.out | apply zA2 | apply zA0 | apply zA3) | exact HB.out))) : w.heap.size ≤ gb299)); clear HB; have HB := n0_; have BK299 := n1_; have GW299 := n2_; have GE299 := n3_; clear n0_ n1_ n2_ n3_; clear hb hbox hg))
 go_loopg [5, 6] k (fun kq v5 v6 w' => ∃ (x5_1 : List Int) (x6_1 : Int), v6 = .int .i64 x6_1 ∧ zA1 (zAg.l0 kq l1 x5_1 x6_1 a0_0 l0_1 = some r) ∧ zA1 (kq ≤ k) ∧ zA1 (Kd.R (Kd.int .i64) 3 w' w.heap.size (fun _ => True) v5 x5_1) ∧ zA1 (w'.heap[gb299]? = some (.cells #[.int .i64 a0_0, (.slice A0_1 l0_1.length c0_1)] 28 (0, 0))) ∧ zA1 (Below w.heap.size w w'))
 case atStart => exact ⟨(([] : List Int)), (0), (by first | rfl | (simp; done) | (simp [*]; done)), H', ⟨Nat.le_refl _⟩, ⟨by first | exact Kd.R_nil _ _ _ _ _ | exact Kd.N_nil _ _ _ _ _ | exact Kd.V_nil _ _ _ _ _ | exact Kd.Q_nil _ _ _ _ _ | exact Kd.S_nil _ _ _ _ _⟩, ⟨by (with_reducible repeat (first | refine zA6 ?_ _ | refine zA8 ?_ | refine zA5 ?_ _)); exact BK299.out⟩, ⟨by repeat (first | (with_reducible first | exact HB.out | apply zA2 | apply zA0 | apply zA3 | refine zA4 ?_ GE299.out) | exact HB.out)⟩⟩
 case round =>
  clear H'
  try clear c1
  try clear p2
  obtain ⟨x5_1, x6_1, rfl, HA, HK1, HO_5, BK299, HB⟩ := hrel
  cases gk with
  | zero => exact absurd HA.out (by simp [zAg.l0])
  | succ k1 =>
   have H := HA.out
   clear HA
   simp only [zAg.l0] at H
   have HC4 := zA1.mk H
   clear H
   go_upto_region 3 with (fail)
   go_cut [15] (fun v15 wc => ∃ (kq : Nat) (x15_3 : Bool), v15 = .bool x15_3 ∧ zA1 (zAg.j1 kq l1 x5_1 x6_1 x15_3 a0_0 l0_1 = some r) ∧ zA1 (kq ≤ k1) ∧ zA1 (Kd.R (Kd.int .i64) 3 wc w.heap.size (fun _ => True) u5 x5_1) ∧ zA1 (wc.heap[gb299]? = some (.cells #[.int .i64 a0_0, (.slice A0_1 l0_1.length c0_1)] 28 (0, 0))) ∧ zA1 (Below w.heap.size w wc))
   case first =>
    have H := HC4.out
    clear HC4
    by_cases c5 : x6_1 < (l1.length : Int)
    ·rw [if_pos c5] at H
     have c5b0 : decide (x6_1 < (l1.length : Int)) = true := decide_eq_true c5
     clear c5
     (first | rw [c5b0] | (simp only [i64_w, i32_w]; rw [c5b0]) | skip)
     have H' := zA1.mk H
     clear H
     go_wp2
     go_meet
     case rel => exact ⟨_, (decide ((l1.length : Int) ≥ 3)), (by first | rfl | (simp; done) | (simp [*]; done)), H', ⟨by have := HK1.out; first | omega | exact Nat.le_refl _⟩, ⟨by (with_reducible repeat (first | apply Kd.zAi | apply Kd.zAh | apply Kd.zAp)); exact HO_5.out⟩, ⟨by (with_reducible repeat (first | refine zA6 ?_ _ | refine zA8 ?_ | refine zA5 ?_ _)); exact BK299.out⟩, ⟨by repeat (first | (with_reducible first | exact HB.out | apply zA2 | apply zA0 | apply zA3 | refine zA4 ?_ GE299.out) | exact HB.out)⟩⟩
    ·rw [if_neg c5] at H
     have c5b0 : decide (x6_1 < (l1.length : Int)) = false := decide_eq_false c5
     clear c5
     (first | rw [c5b0] | (simp only [i64_w, i32_w]; rw [c5b0]) | skip)
     have H' := zA1.mk H
     clear H
     go_wp2
     go_meet
     case rel => exact ⟨_, (false), (by first | rfl | (simp; done) | (simp [*]; done)), H', ⟨by have := HK1.out; first | omega | exact Nat.le_refl _⟩, ⟨by (with_reducible repeat (first | apply Kd.zAi | apply Kd.zAh | apply Kd.zAp)); exact HO_5.out⟩, ⟨by (with_reducible repeat (first | refine zA6 ?_ _ | refine zA8 ?_ | refine zA5 ?_ _)); exact BK299.out⟩, ⟨by repeat (first | (with_reducible first | exact HB.out | apply zA2 | apply zA0 | apply zA3 | refine zA4 ?_ GE299.out) | exact HB.out)⟩⟩
   case rest =>
    clear HC4
    try clear c1
    try clear p2
    try clear c5
    try clear c5b0
    try clear p2
    obtain ⟨kq, x15_3, rfl, HA, HJ3, HO_5, BK299, HB⟩ := hcut
    cases kq with
    | zero => exact absurd HA.out (by simp [zAg.j1])
    | succ kj3 =>
     have H := HA.out
     clear HA
     simp only [zAg.j1] at H
     by_cases c6 : x15_3 = true
     ·subst c6
      have H1 : (if 0 ≤ x6_1 then (if x6_1 < (l1.length : Int) then ((zAu.f kj3 l1 (([rd l1 x6_1] : List Int))).bind fun t304 => ((zAm.f kj3 a0_0 l0_1 t304).bind fun t307 => (if t307 = true then (zAg.l0 kj3 l1 x5_1 (wrap64 (x6_1 + 1)) a0_0 l0_1) else (if x5_1.length < 17592186044416 then (zAg.l0 kj3 l1 (x5_1 ++ [rd l1 x6_1]) (wrap64 (x6_1 + 1)) a0_0 l0_1) else (none))))) else (none)) else (none)) = some r := by rw [if_pos rfl] at H; exact H
      clear H
      have H := H1
      clear H1
      by_cases c7 : 0 ≤ x6_1
      ·rw [if_pos c7] at H
       have c7b0 : decide (0 ≤ x6_1) = true := decide_eq_true c7
       clear c7
       by_cases c8 : x6_1 < (l1.length : Int)
       ·rw [if_pos c8] at H
        have c8b0 : decide (x6_1 < (l1.length : Int)) = true := decide_eq_true c8
        clear c8
        obtain ⟨y301, hy301⟩ : ∃ y_ : List Int, y_ = (([rd l1 x6_1] : List Int)) := ⟨_, rfl⟩
        replace H : ((zAu.f kj3 l1 y301).bind fun t304 => ((zAm.f kj3 a0_0 l0_1 t304).bind fun t307 => (if t307 = true then (zAg.l0 kj3 l1 x5_1 (wrap64 (x6_1 + 1)) a0_0 l0_1) else (if x5_1.length < 17592186044416 then (zAg.l0 kj3 l1 (x5_1 ++ [rd l1 x6_1]) (wrap64 (x6_1 + 1)) a0_0 l0_1) else (none))))) = some r := by first | (rw [hy301]; with_reducible exact H) | (have H2_ := (Option.bind_some _ _).symm.trans H; rw [hy301]; with_reducible exact H2_) | (have H2_ := (Option.bind_some _ _).symm.trans H; with_reducible exact H2_) | with_reducible exact H | (rw [hy301]; exact H) | exact H
        have Ny301 := zA1.mk hy301
        clear hy301
        replace H := Option.bind_eq_some_iff.mp H
        obtain ⟨t304, A90, H⟩ := H
        replace H : ((zAm.f kj3 a0_0 l0_1 t304).bind fun t307 => (if t307 = true then (zAg.l0 kj3 l1 x5_1 (wrap64 (x6_1 + 1)) a0_0 l0_1) else (if x5_1.length < 17592186044416 then (zAg.l0 kj3 l1 (x5_1 ++ [rd l1 x6_1]) (wrap64 (x6_1 + 1)) a0_0 l0_1) else (none)))) = some r := H
        have A9 := zA1.mk A90
        clear A90
        replace H := Option.bind_eq_some_iff.mp H
        obtain ⟨t307, A100, H⟩ := H
        replace H : (if t307 = true then (zAg.l0 kj3 l1 x5_1 (wrap64 (x6_1 + 1)) a0_0 l0_1) else (if x5_1.length < 17592186044416 then (zAg.l0 kj3 l1 (x5_1 ++ [rd l1 x6_1]) (wrap64 (x6_1 + 1)) a0_0 l0_1) else (none))) = some r := H
        have A10 := zA1.mk A100
        clear A100
        by_cases c11 : t307 = true
        ·subst c11
         have H1 : (zAg.l0 kj3 l1 x5_1 (wrap64 (x6_1 + 1)) a0_0 l0_1) = some r := by rw [if_pos rfl] at H; exact H
         clear H
         have H := H1
         clear H1
         have H' := zA1.mk H
         clear H
         try go_wp2
         have n0_ := zA1.mk (Kd.zAp HO_5.out)
         have n1_ := zA1.mk (zA8 BK299.out)
         have n2_ := zA1.mk (zA3 HB.out)
         clear HO_5
         clear BK299
         clear HB
         have HO_5 := n0_
         have BK299 := n1_
         have HB := n2_
         clear n0_ n1_ n2_
         have p300 : 0 ≤ (x6_1 : Int) := of_decide_eq_true (by first | (with_reducible assumption) | assumption)
         have q300 : x6_1 < (l1.length : Int) := of_decide_eq_true (by first | (with_reducible assumption) | assumption)
         obtain ⟨ad300, e300, hx300_0⟩ := Kd.zCb HR1.out x6_1 p300 q300
         have hw300_0 := hx300_0
         cases e300
         replace hx300_0 := (HB.out.cell (World.block_lt_of_cell? w _ hx300_0)).trans hx300_0
         replace p300 := eq_true p300
         replace q300 := eq_true q300
         refine start_ (n := 10) (S := fun w' => w'.cell? ⟨gb299, 0, none⟩ = some (.int .i64 a0_0) ∧ w'.cell? ⟨gb299, 1, none⟩ = some (.slice A0_1 l0_1.length c0_1) ∧ w'.cell? (ad300.add (x6_1).toNat) = some (.int .i64 (rd l1 x6_1))) (ds := []) #[false, false, false, false, false, false, false, false, false, false] (by kernel_rfl) rfl rfl ⟨(zA9 BK299.out 0).trans rfl, (zA9 BK299.out 1).trans rfl, ((HB.out.cell (World.block_lt_of_cell? w _ hw300_0)).trans hw300_0)⟩ (fun hHeld => ?_); refine with_tabW zAg.tab5 zAg.bits5 (fun HT_ HW_ => ?_)
         generalize wc.drew = w12 at HO_5 BK299 HB hx300_0 hHeld ⊢
         refine pure_ (i := 1) (N := some 19) (v := ?_) (a' := ?_) #[false, true, false, false, false, false, false, false, false, false] rfl rfl (zB6 HT_.out (by kernel_rfl)) (fun _ _ _ h => h) (Or.inl ⟨by rfl, ?_⟩) ?_ ?_
         rotate_left
         ·intro w'
          go_simp
          with_reducible rfl
         rotate_left
         ·simp only [Act.put, List.setIfInBounds_toArray, List.set_cons_zero, List.set_cons_succ, i64_w, i32_w]
          rfl
         refine pure_ (i := 2) (N := some 20) (v := ?_) (a' := ?_) #[false, true, true, false, false, false, false, false, false, false] rfl rfl (zB6 HT_.out (by kernel_rfl)) (fun _ _ _ h => h) (Or.inl ⟨by rfl, ?_⟩) ?_ ?_
         rotate_left
         ·intro w'
          go_simp
          with_reducible rfl
         rotate_left
         ·simp only [Act.put, List.setIfInBounds_toArray, List.set_cons_zero, List.set_cons_succ, i64_w, i32_w]
          rfl
         refine pure_ (i := 3) (N := some 21) (v := ?_) (a' := ?_) #[false, true, true, true, false, false, false, false, false, false] rfl rfl (zB6 HT_.out (by kernel_rfl)) (fun _ _ _ h => h) (Or.inl ⟨by rfl, ?_⟩) ?_ ?_
         rotate_left
         ·intro w'
          go_simp
          with_reducible rfl
         rotate_left
         ·simp only [Act.put, List.setIfInBounds_toArray, List.set_cons_zero, List.set_cons_succ, i64_w, i32_w]
          rfl
         refine pure_ (i := 4) (N := some 22) (v := ?_) (a' := ?_) #[false, true, true, true, true, false, false, false, false, false] rfl rfl (zB6 HT_.out (by kernel_rfl)) (fun _ _ _ h => h) (Or.inl ⟨by rfl, ?_⟩) ?_ ?_
         rotate_left
         ·intro w'
          go_simp
          with_reducible rfl
         rotate_left
         ·simp only [Act.put, List.setIfInBounds_toArray, List.set_cons_zero, List.set_cons_succ, i64_w, i32_w]
          rfl
         refine take_ (i := 0) (N := some 18) (v := ?_) (a' := ?_) #[true, true, true, true, true, false, false, false, false, false] rfl rfl (zBt HT_.out HW_.out (by kernel_rfl)) (fun _ _ _ h => h) (Or.inl ⟨by rfl, ?_⟩) hHeld ?_ ?_
         rotate_left
         ·rintro w' ⟨s0, s1, s2⟩
          go_simp
          with_reducible rfl
         rotate_left
         ·simp only [Act.put, List.setIfInBounds_toArray, List.set_cons_zero, List.set_cons_succ, i64_w, i32_w]
          rfl
         refine take_ (i := 5) (N := some 23) (v := ?_) (a' := ?_) #[true, true, true, true, true, true, false, false, false, false] rfl rfl (zBt HT_.out HW_.out (by kernel_rfl)) (fun _ _ _ h => h) (Or.inl ⟨by rfl, ?_⟩) hHeld ?_ ?_
         rotate_left
         ·rintro w' ⟨s0, s1, s2⟩
          go_simp
          with_reducible rfl
         rotate_left
         ·simp only [Act.put, List.setIfInBounds_toArray, List.set_cons_zero, List.set_cons_succ, i64_w, i32_w]
          rfl
         refine one_ (i := 6) (N := some 24) #[true, true, true, true, true, true, true, false, false, false] rfl rfl (one_of HT_.out (by kernel_rfl)) (by decide) (fun K hK => ?_)
         refine Kd.R_lit_step (Kd.int .i64) _ 3 ?hg (N := 24) ?hd (xs := ([rd l1 x6_1] : List Int)) (inner := [.int .i64 (rd l1 x6_1)]) (ok := fun _ => True) (okp := fun _ => True) ?hr ?hp (fun _ hk => hk) trivial (Below.refl _ _) (Nat.le_refl _) (by simp) ?_; (case hd => rfl); (case hg => rfl); (case hr => first | (go_simp; done) | (go_simp; rfl)); (case hp => exact (Reps.one (show Kd.M (Kd.int .i64) _ _ _ (rd l1 x6_1) [.int .i64 (rd l1 x6_1)] from rfl) (Reps.none _ _)))
         intro v302 w13 ho14 hb hg_ hnew_
         clear hg_ hnew_
         (first | rw [← Ny301.out] at ho14 | (simp only [Int.reduceToNat] at ho14; rw [← Ny301.out] at ho14))
         have n0_ := zA1.mk (Kd.R_elder' (by (with_reducible repeat (first | apply Kd.zAi | apply Kd.zAh | apply Kd.zAp)); exact HO_5.out) (Kd.R_base ho14) hb)
         have n1_ := zA1.mk (Kd.zCk (Kd.R_new' ho14 (Kd.R_lt (by (with_reducible repeat (first | apply Kd.zAi | apply Kd.zAh | apply Kd.zAp)); exact HO_5.out))) (zAb (by repeat (first | (with_reducible first | exact HB.out | apply zA2 | apply zA0 | apply zA3 | refine zA4 ?_ GE299.out) | exact HB.out))))
         have n2_ := zA1.mk (zAt (g := gb299) (o := .cells #[.int .i64 a0_0, .slice A0_1 l0_1.length c0_1] 28 (0, 0)) (by (with_reducible repeat (first | refine zA6 ?_ _ | refine zA8 ?_ | refine zA5 ?_ _)); exact BK299.out) hb)
         have n3_ := zA1.mk (zAe (by repeat (first | (with_reducible first | exact HB.out | apply zA2 | apply zA0 | apply zA3 | refine zA4 ?_ GE299.out) | exact HB.out)) hb)
         clear HO_5
         clear BK299
         clear HB
         have HO_5 := n0_
         have HO303 := n1_
         have BK299 := n2_
         have HB := n3_
         clear n0_ n1_ n2_ n3_
         clear hb ho14
         obtain ⟨Ao15, co15, eo15⟩ := Kd.zC5 HO303.out
         (first | subst eo15 | (injection eo15 with f1_ f2_ f3_; have f4_ := f1_.symm; have f5_ := f3_.symm; clear f1_ f2_ f3_; subst f4_; subst f5_))
         refine hK.out _ _ ⟨(zA9 BK299.out 0).trans rfl, (zA9 BK299.out 1).trans rfl, ((HB.out.cell (World.block_lt_of_cell? w _ hw300_0)).trans hw300_0)⟩ (fun hHeld => ?_)
         clear hK K
         refine norm_ (a' := ?_) ?_ ?_
         rotate_left
         ·show Act.put _ (some 24) _ = _
          simp only [Act.put, List.setIfInBounds_toArray, List.set_cons_zero, List.set_cons_succ, i64_w, i32_w]
          rfl
         refine one_ (i := 7) (N := some 25) #[true, true, true, true, true, true, true, true, false, false] rfl rfl (one_of HT_.out (by kernel_rfl)) (by decide) (fun K hK => ?_)
         refine goes_ Tryd.func43 (by kernel_rfl) rfl #[.slice (some ad300) l1.length c1, .slice Ao15 y301.length co15] (by rfl) rfl rfl (by (try simp only [List.map_toArray, List.map_cons, List.map_nil]); first | done | rfl | (simp only [List.length_drop, List.length_take]; rfl)) ?_
         with_reducible refine (zAu.calls kj3 _ _ l1 _ _ y301 t304 _ ?side1 ?side2 ?side3 ?side4 A9.out).mono ?_
         (case side1 => repeat (first | exact (Kd.zB1 HR1.out HB.out) | (with_reducible refine Kd.zAf ?_ _) | (with_reducible refine Kd.zAk ?_ _) | (with_reducible refine Kd.zAv ?_)))
         (case side2 => exact HC1.out)
         (case side3 => repeat (first | exact (Kd.zAw HO303.out).2.2 | (with_reducible refine Kd.zAf ?_ _) | (with_reducible refine Kd.zAk ?_ _) | (with_reducible refine Kd.zAv ?_)))
         (case side4 => exact (Kd.zAw HO303.out).2.1)
         rintro e w16 ⟨v305, rfl, ho0, hb⟩
         refine ⟨_, rfl, ?_⟩
         have n0_ := zA1.mk (Kd.R_elder' (by (with_reducible repeat (first | apply Kd.zAi | apply Kd.zAh | apply Kd.zAp)); exact HO_5.out) (Kd.R_base ho0) hb)
         have n1_ := zA1.mk (Kd.R_elder' (by (with_reducible repeat (first | apply Kd.zAi | apply Kd.zAh | apply Kd.zAp)); exact HO303.out) (Kd.R_base ho0) hb)
         have n2_ := zA1.mk (Kd.zCk (Kd.R_new' (Kd.R_new' ho0 (Kd.R_lt (by (with_reducible repeat (first | apply Kd.zAi | apply Kd.zAh | apply Kd.zAp)); exact HO_5.out))) (Kd.R_lt (by (with_reducible repeat (first | apply Kd.zAi | apply Kd.zAh | apply Kd.zAp)); exact HO303.out))) (zAb (by repeat (first | (with_reducible first | exact HB.out | apply zA2 | apply zA0 | apply zA3 | refine zA4 ?_ GE299.out) | exact HB.out))))
         have n3_ := zA1.mk (zAt (g := gb299) (o := .cells #[.int .i64 a0_0, .slice A0_1 l0_1.length c0_1] 28 (0, 0)) (by (with_reducible repeat (first | refine zA6 ?_ _ | refine zA8 ?_ | refine zA5 ?_ _)); exact BK299.out) hb)
         have n4_ := zA1.mk (zAe (by repeat (first | (with_reducible first | exact HB.out | apply zA2 | apply zA0 | apply zA3 | refine zA4 ?_ GE299.out) | exact HB.out)) hb)
         clear HO_5
         clear HO303
         clear BK299
         clear HB
         have HO_5 := n0_
         have HO303 := n1_
         have HO306 := n2_
         have BK299 := n3_
         have HB := n4_
         clear n0_ n1_ n2_ n3_ n4_
         (try clear hb)
         (try clear hb2)
         (try clear hk)
         (try clear hi)
         (try clear ho0)
         obtain ⟨Ao17, co17, eo17⟩ := Kd.zC5 HO306.out
         (first | subst eo17 | (injection eo17 with f1_ f2_ f3_; have f4_ := f1_.symm; have f5_ := f3_.symm; clear f1_ f2_ f3_; subst f4_; subst f5_))
         refine hK.out _ _ ⟨(zA9 BK299.out 0).trans rfl, (zA9 BK299.out 1).trans rfl, ((HB.out.cell (World.block_lt_of_cell? w _ hw300_0)).trans hw300_0)⟩ (fun hHeld => ?_)
         clear hK K
         refine norm_ (a' := ?_) ?_ ?_
         rotate_left
         ·show Act.put _ (some 25) _ = _
          simp only [Act.put, List.setIfInBounds_toArray, List.set_cons_zero, List.set_cons_succ, i64_w, i32_w]
          rfl
         refine one_ (i := 8) (N := some 26) #[true, true, true, true, true, true, true, true, true, false] rfl rfl (one_of HT_.out (by kernel_rfl)) (by decide) (fun K hK => ?_)
         refine goes_ Tryd.func12 (by kernel_rfl) rfl #[.agg #[.int .i64 a0_0, .slice A0_1 l0_1.length c0_1], .slice Ao17 t304.length co17] (by rfl) rfl rfl (by (try simp only [List.map_toArray, List.map_cons, List.map_nil]); first | done | rfl | (simp only [List.length_drop, List.length_take]; rfl)) ?_
         with_reducible refine (zAm.calls kj3 a0_0 _ _ l0_1 _ _ t304 true _ ?side1 ?side2 ?side3 ?side4 A10.out).mono ?_
         (case side1 => repeat (first | exact (Kd.zB1 HR0_1.out HB.out) | (with_reducible refine Kd.zAf ?_ _) | (with_reducible refine Kd.zAk ?_ _) | (with_reducible refine Kd.zAv ?_)))
         (case side2 => exact HC0_1.out)
         (case side3 => repeat (first | exact (Kd.zAw HO306.out).2.2 | (with_reducible refine Kd.zAf ?_ _) | (with_reducible refine Kd.zAk ?_ _) | (with_reducible refine Kd.zAv ?_)))
         (case side4 => exact (Kd.zAw HO306.out).2.1)
         rintro e w18 ⟨rfl, hb⟩
         refine ⟨_, rfl, ?_⟩
         have n0_ := zA1.mk (Kd.zBi (by (with_reducible repeat (first | apply Kd.zAi | apply Kd.zAh | apply Kd.zAp)); exact HO_5.out) hb)
         have n1_ := zA1.mk (Kd.zBi (by (with_reducible repeat (first | apply Kd.zAi | apply Kd.zAh | apply Kd.zAp)); exact HO303.out) hb)
         have n2_ := zA1.mk (Kd.zBi (by (with_reducible repeat (first | apply Kd.zAi | apply Kd.zAh | apply Kd.zAp)); exact HO306.out) hb)
         have n3_ := zA1.mk (zAt (g := gb299) (o := .cells #[.int .i64 a0_0, .slice A0_1 l0_1.length c0_1] 28 (0, 0)) (by (with_reducible repeat (first | refine zA6 ?_ _ | refine zA8 ?_ | refine zA5 ?_ _)); exact BK299.out) hb)
         have n4_ := zA1.mk (zAe (by repeat (first | (with_reducible first | exact HB.out | apply zA2 | apply zA0 | apply zA3 | refine zA4 ?_ GE299.out) | exact HB.out)) hb)
         clear HO_5
         clear HO303
         clear HO306
         clear BK299
         clear HB
         have HO_5 := n0_
         have HO303 := n1_
         have HO306 := n2_
         have BK299 := n3_
         have HB := n4_
         clear n0_ n1_ n2_ n3_ n4_
         (try clear hb)
         (try clear hb2)
         (try clear hk)
         (try clear hi)
         refine hK.out _ _ ⟨(zA9 BK299.out 0).trans rfl, (zA9 BK299.out 1).trans rfl, ((HB.out.cell (World.block_lt_of_cell? w _ hw300_0)).trans hw300_0)⟩ (fun hHeld => ?_)
         clear hK K
         refine norm_ (a' := ?_) ?_ ?_
         rotate_left
         ·show Act.put _ (some 26) _ = _
          simp only [Act.put, List.setIfInBounds_toArray, List.set_cons_zero, List.set_cons_succ, i64_w, i32_w]
          rfl
         refine pure_ (i := 9) (N := some 27) (v := ?_) (a' := ?_) #[true, true, true, true, true, true, true, true, true, true] rfl rfl (zB6 HT_.out (by kernel_rfl)) (fun _ _ _ h => h) (Or.inl ⟨by rfl, ?_⟩) ?_ ?_
         rotate_left
         ·intro w'
          go_simp
          with_reducible rfl
         rotate_left
         ·simp only [Act.put, List.setIfInBounds_toArray, List.set_cons_zero, List.set_cons_succ, i64_w, i32_w]
          rfl
         refine done_ (done_of HT_.out (by kernel_rfl)) ?_
         try go_wp2
         go_roundg kj3
         case measure => have := HK1.out; have := HJ3.out; omega
         case rel => exact ⟨(x5_1), (wrap64 (x6_1 + 1)), (by first | rfl | (simp; done) | (simp [*]; done)), H', ⟨by have := HK1.out; have := HJ3.out; omega⟩, ⟨by (with_reducible repeat (first | apply Kd.zAi | apply Kd.zAh | apply Kd.zAp)); exact Kd.zC3 HO_5.out (fun _ hk => trivial)⟩, ⟨by (with_reducible repeat (first | refine zA6 ?_ _ | refine zA8 ?_ | refine zA5 ?_ _)); exact BK299.out⟩, ⟨by repeat (first | (with_reducible first | exact HB.out | apply zA2 | apply zA0 | apply zA3 | refine zA4 ?_ GE299.out) | exact HB.out)⟩⟩
        ·replace c11 := Bool.eq_false_iff.mpr c11
         subst c11
         have H1 : (if x5_1.length < 17592186044416 then (zAg.l0 kj3 l1 (x5_1 ++ [rd l1 x6_1]) (wrap64 (x6_1 + 1)) a0_0 l0_1) else (none)) = some r := by rw [if_neg (show ¬ (false = true) by decide)] at H; exact H
         clear H
         have H := H1
         clear H1
         by_cases c19 : x5_1.length < 17592186044416
         ·rw [if_pos c19] at H
          have LMc19 := zA1.mk c19
          clear c19
          obtain ⟨y309, hy309⟩ : ∃ y_ : List Int, y_ = (x5_1 ++ [rd l1 x6_1]) := ⟨_, rfl⟩
          replace H : (zAg.l0 kj3 l1 y309 (wrap64 (x6_1 + 1)) a0_0 l0_1) = some r := by first | (rw [hy309]; with_reducible exact H) | (have H2_ := (Option.bind_some _ _).symm.trans H; rw [hy309]; with_reducible exact H2_) | (have H2_ := (Option.bind_some _ _).symm.trans H; with_reducible exact H2_) | with_reducible exact H | (rw [hy309]; exact H) | exact H
          have Ny309 := zA1.mk hy309
          clear hy309
          have H' := zA1.mk H
          clear H
          try go_wp2
          have n0_ := zA1.mk (Kd.zAp HO_5.out)
          have n1_ := zA1.mk (zA8 BK299.out)
          have n2_ := zA1.mk (zA3 HB.out)
          clear HO_5
          clear BK299
          clear HB
          have HO_5 := n0_
          have BK299 := n1_
          have HB := n2_
          clear n0_ n1_ n2_
          have p300 : 0 ≤ (x6_1 : Int) := of_decide_eq_true (by first | (with_reducible assumption) | assumption)
          have q300 : x6_1 < (l1.length : Int) := of_decide_eq_true (by first | (with_reducible assumption) | assumption)
          obtain ⟨ad300, e300, hx300_0⟩ := Kd.zCb HR1.out x6_1 p300 q300
          have hw300_0 := hx300_0
          cases e300
          replace hx300_0 := (HB.out.cell (World.block_lt_of_cell? w _ hx300_0)).trans hx300_0
          replace p300 := eq_true p300
          replace q300 := eq_true q300
          refine start_ (n := 10) (S := fun w' => w'.cell? ⟨gb299, 0, none⟩ = some (.int .i64 a0_0) ∧ w'.cell? ⟨gb299, 1, none⟩ = some (.slice A0_1 l0_1.length c0_1) ∧ w'.cell? (ad300.add (x6_1).toNat) = some (.int .i64 (rd l1 x6_1))) (ds := []) #[false, false, false, false, false, false, false, false, false, false] (by kernel_rfl) rfl rfl ⟨(zA9 BK299.out 0).trans rfl, (zA9 BK299.out 1).trans rfl, ((HB.out.cell (World.block_lt_of_cell? w _ hw300_0)).trans hw300_0)⟩ (fun hHeld => ?_); refine with_tabW zAg.tab5 zAg.bits5 (fun HT_ HW_ => ?_)
          generalize wc.drew = w20 at HO_5 BK299 HB hx300_0 hHeld ⊢
          refine pure_ (i := 1) (N := some 19) (v := ?_) (a' := ?_) #[false, true, false, false, false, false, false, false, false, false] rfl rfl (zB6 HT_.out (by kernel_rfl)) (fun _ _ _ h => h) (Or.inl ⟨by rfl, ?_⟩) ?_ ?_
          rotate_left
          ·intro w'
           go_simp
           with_reducible rfl
          rotate_left
          ·simp only [Act.put, List.setIfInBounds_toArray, List.set_cons_zero, List.set_cons_succ, i64_w, i32_w]
           rfl
          refine pure_ (i := 2) (N := some 20) (v := ?_) (a' := ?_) #[false, true, true, false, false, false, false, false, false, false] rfl rfl (zB6 HT_.out (by kernel_rfl)) (fun _ _ _ h => h) (Or.inl ⟨by rfl, ?_⟩) ?_ ?_
          rotate_left
          ·intro w'
           go_simp
           with_reducible rfl
          rotate_left
          ·simp only [Act.put, List.setIfInBounds_toArray, List.set_cons_zero, List.set_cons_succ, i64_w, i32_w]
           rfl
          refine pure_ (i := 3) (N := some 21) (v := ?_) (a' := ?_) #[false, true, true, true, false, false, false, false, false, false] rfl rfl (zB6 HT_.out (by kernel_rfl)) (fun _ _ _ h => h) (Or.inl ⟨by rfl, ?_⟩) ?_ ?_
          rotate_left
          ·intro w'
           go_simp
           with_reducible rfl
          rotate_left
          ·simp only [Act.put, List.setIfInBounds_toArray, List.set_cons_zero, List.set_cons_succ, i64_w, i32_w]
           rfl
          refine pure_ (i := 4) (N := some 22) (v := ?_) (a' := ?_) #[false, true, true, true, true, false, false, false, false, false] rfl rfl (zB6 HT_.out (by kernel_rfl)) (fun _ _ _ h => h) (Or.inl ⟨by rfl, ?_⟩) ?_ ?_
          rotate_left
          ·intro w'
           go_simp
           with_reducible rfl
          rotate_left
          ·simp only [Act.put, List.setIfInBounds_toArray, List.set_cons_zero, List.set_cons_succ, i64_w, i32_w]
           rfl
          refine take_ (i := 0) (N := some 18) (v := ?_) (a' := ?_) #[true, true, true, true, true, false, false, false, false, false] rfl rfl (zBt HT_.out HW_.out (by kernel_rfl)) (fun _ _ _ h => h) (Or.inl ⟨by rfl, ?_⟩) hHeld ?_ ?_
          rotate_left
          ·rintro w' ⟨s0, s1, s2⟩
           go_simp
           with_reducible rfl
          rotate_left
          ·simp only [Act.put, List.setIfInBounds_toArray, List.set_cons_zero, List.set_cons_succ, i64_w, i32_w]
           rfl
          refine take_ (i := 5) (N := some 23) (v := ?_) (a' := ?_) #[true, true, true, true, true, true, false, false, false, false] rfl rfl (zBt HT_.out HW_.out (by kernel_rfl)) (fun _ _ _ h => h) (Or.inl ⟨by rfl, ?_⟩) hHeld ?_ ?_
          rotate_left
          ·rintro w' ⟨s0, s1, s2⟩
           go_simp
           with_reducible rfl
          rotate_left
          ·simp only [Act.put, List.setIfInBounds_toArray, List.set_cons_zero, List.set_cons_succ, i64_w, i32_w]
           rfl
          refine one_ (i := 6) (N := some 24) #[true, true, true, true, true, true, true, false, false, false] rfl rfl (one_of HT_.out (by kernel_rfl)) (by decide) (fun K hK => ?_)
          refine Kd.R_lit_step (Kd.int .i64) _ 3 ?hg (N := 24) ?hd (xs := ([rd l1 x6_1] : List Int)) (inner := [.int .i64 (rd l1 x6_1)]) (ok := fun _ => True) (okp := fun _ => True) ?hr ?hp (fun _ hk => hk) trivial (Below.refl _ _) (Nat.le_refl _) (by simp) ?_; (case hd => rfl); (case hg => rfl); (case hr => first | (go_simp; done) | (go_simp; rfl)); (case hp => exact (Reps.one (show Kd.M (Kd.int .i64) _ _ _ (rd l1 x6_1) [.int .i64 (rd l1 x6_1)] from rfl) (Reps.none _ _)))
          intro v302 w21 ho22 hb hg_ hnew_
          clear hg_ hnew_
          (first | rw [← Ny301.out] at ho22 | (simp only [Int.reduceToNat] at ho22; rw [← Ny301.out] at ho22))
          have n0_ := zA1.mk (Kd.R_elder' (by (with_reducible repeat (first | apply Kd.zAi | apply Kd.zAh | apply Kd.zAp)); exact HO_5.out) (Kd.R_base ho22) hb)
          have n1_ := zA1.mk (Kd.zCk (Kd.R_new' ho22 (Kd.R_lt (by (with_reducible repeat (first | apply Kd.zAi | apply Kd.zAh | apply Kd.zAp)); exact HO_5.out))) (zAb (by repeat (first | (with_reducible first | exact HB.out | apply zA2 | apply zA0 | apply zA3 | refine zA4 ?_ GE299.out) | exact HB.out))))
          have n2_ := zA1.mk (zAt (g := gb299) (o := .cells #[.int .i64 a0_0, .slice A0_1 l0_1.length c0_1] 28 (0, 0)) (by (with_reducible repeat (first | refine zA6 ?_ _ | refine zA8 ?_ | refine zA5 ?_ _)); exact BK299.out) hb)
          have n3_ := zA1.mk (zAe (by repeat (first | (with_reducible first | exact HB.out | apply zA2 | apply zA0 | apply zA3 | refine zA4 ?_ GE299.out) | exact HB.out)) hb)
          clear HO_5
          clear BK299
          clear HB
          have HO_5 := n0_
          have HO303 := n1_
          have BK299 := n2_
          have HB := n3_
          clear n0_ n1_ n2_ n3_
          clear hb ho22
          obtain ⟨Ao23, co23, eo23⟩ := Kd.zC5 HO303.out
          (first | subst eo23 | (injection eo23 with f1_ f2_ f3_; have f4_ := f1_.symm; have f5_ := f3_.symm; clear f1_ f2_ f3_; subst f4_; subst f5_))
          refine hK.out _ _ ⟨(zA9 BK299.out 0).trans rfl, (zA9 BK299.out 1).trans rfl, ((HB.out.cell (World.block_lt_of_cell? w _ hw300_0)).trans hw300_0)⟩ (fun hHeld => ?_)
          clear hK K
          refine norm_ (a' := ?_) ?_ ?_
          rotate_left
          ·show Act.put _ (some 24) _ = _
           simp only [Act.put, List.setIfInBounds_toArray, List.set_cons_zero, List.set_cons_succ, i64_w, i32_w]
           rfl
          refine one_ (i := 7) (N := some 25) #[true, true, true, true, true, true, true, true, false, false] rfl rfl (one_of HT_.out (by kernel_rfl)) (by decide) (fun K hK => ?_)
          refine goes_ Tryd.func43 (by kernel_rfl) rfl #[.slice (some ad300) l1.length c1, .slice Ao23 y301.length co23] (by rfl) rfl rfl (by (try simp only [List.map_toArray, List.map_cons, List.map_nil]); first | done | rfl | (simp only [List.length_drop, List.length_take]; rfl)) ?_
          with_reducible refine (zAu.calls kj3 _ _ l1 _ _ y301 t304 _ ?side1 ?side2 ?side3 ?side4 A9.out).mono ?_
          (case side1 => repeat (first | exact (Kd.zB1 HR1.out HB.out) | (with_reducible refine Kd.zAf ?_ _) | (with_reducible refine Kd.zAk ?_ _) | (with_reducible refine Kd.zAv ?_)))
          (case side2 => exact HC1.out)
          (case side3 => repeat (first | exact (Kd.zAw HO303.out).2.2 | (with_reducible refine Kd.zAf ?_ _) | (with_reducible refine Kd.zAk ?_ _) | (with_reducible refine Kd.zAv ?_)))
          (case side4 => exact (Kd.zAw HO303.out).2.1)
          rintro e w24 ⟨v305, rfl, ho0, hb⟩
          refine ⟨_, rfl, ?_⟩
          have n0_ := zA1.mk (Kd.R_elder' (by (with_reducible repeat (first | apply Kd.zAi | apply Kd.zAh | apply Kd.zAp)); exact HO_5.out) (Kd.R_base ho0) hb)
          have n1_ := zA1.mk (Kd.R_elder' (by (with_reducible repeat (first | apply Kd.zAi | apply Kd.zAh | apply Kd.zAp)); exact HO303.out) (Kd.R_base ho0) hb)
          have n2_ := zA1.mk (Kd.zCk (Kd.R_new' (Kd.R_new' ho0 (Kd.R_lt (by (with_reducible repeat (first | apply Kd.zAi | apply Kd.zAh | apply Kd.zAp)); exact HO_5.out))) (Kd.R_lt (by (with_reducible repeat (first | apply Kd.zAi | apply Kd.zAh | apply Kd.zAp)); exact HO303.out))) (zAb (by repeat (first | (with_reducible first | exact HB.out | apply zA2 | apply zA0 | apply zA3 | refine zA4 ?_ GE299.out) | exact HB.out))))
          have n3_ := zA1.mk (zAt (g := gb299) (o := .cells #[.int .i64 a0_0, .slice A0_1 l0_1.length c0_1] 28 (0, 0)) (by (with_reducible repeat (first | refine zA6 ?_ _ | refine zA8 ?_ | refine zA5 ?_ _)); exact BK299.out) hb)
          have n4_ := zA1.mk (zAe (by repeat (first | (with_reducible first | exact HB.out | apply zA2 | apply zA0 | apply zA3 | refine zA4 ?_ GE299.out) | exact HB.out)) hb)
          clear HO_5
          clear HO303
          clear BK299
          clear HB
          have HO_5 := n0_
          have HO303 := n1_
          have HO306 := n2_
          have BK299 := n3_
          have HB := n4_
          clear n0_ n1_ n2_ n3_ n4_
          (try clear hb)
          (try clear hb2)
          (try clear hk)
          (try clear hi)
          (try clear ho0)
          obtain ⟨Ao25, co25, eo25⟩ := Kd.zC5 HO306.out
          (first | subst eo25 | (injection eo25 with f1_ f2_ f3_; have f4_ := f1_.symm; have f5_ := f3_.symm; clear f1_ f2_ f3_; subst f4_; subst f5_))
          refine hK.out _ _ ⟨(zA9 BK299.out 0).trans rfl, (zA9 BK299.out 1).trans rfl, ((HB.out.cell (World.block_lt_of_cell? w _ hw300_0)).trans hw300_0)⟩ (fun hHeld => ?_)
          clear hK K
          refine norm_ (a' := ?_) ?_ ?_
          rotate_left
          ·show Act.put _ (some 25) _ = _
           simp only [Act.put, List.setIfInBounds_toArray, List.set_cons_zero, List.set_cons_succ, i64_w, i32_w]
           rfl
          refine one_ (i := 8) (N := some 26) #[true, true, true, true, true, true, true, true, true, false] rfl rfl (one_of HT_.out (by kernel_rfl)) (by decide) (fun K hK => ?_)
          refine goes_ Tryd.func12 (by kernel_rfl) rfl #[.agg #[.int .i64 a0_0, .slice A0_1 l0_1.length c0_1], .slice Ao25 t304.length co25] (by rfl) rfl rfl (by (try simp only [List.map_toArray, List.map_cons, List.map_nil]); first | done | rfl | (simp only [List.length_drop, List.length_take]; rfl)) ?_
          with_reducible refine (zAm.calls kj3 a0_0 _ _ l0_1 _ _ t304 false _ ?side1 ?side2 ?side3 ?side4 A10.out).mono ?_
          (case side1 => repeat (first | exact (Kd.zB1 HR0_1.out HB.out) | (with_reducible refine Kd.zAf ?_ _) | (with_reducible refine Kd.zAk ?_ _) | (with_reducible refine Kd.zAv ?_)))
          (case side2 => exact HC0_1.out)
          (case side3 => repeat (first | exact (Kd.zAw HO306.out).2.2 | (with_reducible refine Kd.zAf ?_ _) | (with_reducible refine Kd.zAk ?_ _) | (with_reducible refine Kd.zAv ?_)))
          (case side4 => exact (Kd.zAw HO306.out).2.1)
          rintro e w26 ⟨rfl, hb⟩
          refine ⟨_, rfl, ?_⟩
          have n0_ := zA1.mk (Kd.zBi (by (with_reducible repeat (first | apply Kd.zAi | apply Kd.zAh | apply Kd.zAp)); exact HO_5.out) hb)
          have n1_ := zA1.mk (Kd.zBi (by (with_reducible repeat (first | apply Kd.zAi | apply Kd.zAh | apply Kd.zAp)); exact HO303.out) hb)
          have n2_ := zA1.mk (Kd.zBi (by (with_reducible repeat (first | apply Kd.zAi | apply Kd.zAh | apply Kd.zAp)); exact HO306.out) hb)
          have n3_ := zA1.mk (zAt (g := gb299) (o := .cells #[.int .i64 a0_0, .slice A0_1 l0_1.length c0_1] 28 (0, 0)) (by (with_reducible repeat (first | refine zA6 ?_ _ | refine zA8 ?_ | refine zA5 ?_ _)); exact BK299.out) hb)
          have n4_ := zA1.mk (zAe (by repeat (first | (with_reducible first | exact HB.out | apply zA2 | apply zA0 | apply zA3 | refine zA4 ?_ GE299.out) | exact HB.out)) hb)
          clear HO_5
          clear HO303
          clear HO306
          clear BK299
          clear HB
          have HO_5 := n0_
          have HO303 := n1_
          have HO306 := n2_
          have BK299 := n3_
          have HB := n4_
          clear n0_ n1_ n2_ n3_ n4_
          (try clear hb)
          (try clear hb2)
          (try clear hk)
          (try clear hi)
          refine hK.out _ _ ⟨(zA9 BK299.out 0).trans rfl, (zA9 BK299.out 1).trans rfl, ((HB.out.cell (World.block_lt_of_cell? w _ hw300_0)).trans hw300_0)⟩ (fun hHeld => ?_)
          clear hK K
          refine norm_ (a' := ?_) ?_ ?_
          rotate_left
          ·show Act.put _ (some 26) _ = _
           simp only [Act.put, List.setIfInBounds_toArray, List.set_cons_zero, List.set_cons_succ, i64_w, i32_w]
           rfl
          refine pure_ (i := 9) (N := some 27) (v := ?_) (a' := ?_) #[true, true, true, true, true, true, true, true, true, true] rfl rfl (zB6 HT_.out (by kernel_rfl)) (fun _ _ _ h => h) (Or.inl ⟨by rfl, ?_⟩) ?_ ?_
          rotate_left
          ·intro w'
           go_simp
           with_reducible rfl
          rotate_left
          ·simp only [Act.put, List.setIfInBounds_toArray, List.set_cons_zero, List.set_cons_succ, i64_w, i32_w]
           rfl
          refine done_ (done_of HT_.out (by kernel_rfl)) ?_
          have p308 : 0 ≤ (x6_1 : Int) := of_decide_eq_true (by first | (with_reducible assumption) | assumption)
          have q308 : x6_1 < (l1.length : Int) := of_decide_eq_true (by first | (with_reducible assumption) | assumption)
          obtain ⟨ad308, e308, hx308_0⟩ := Kd.zCb HR1.out x6_1 p308 q308
          obtain rfl : ad300 = ad308 := (by injection e308)
          replace hx308_0 := (HB.out.cell (World.block_lt_of_cell? w _ hx308_0)).trans hx308_0
          replace p308 := eq_true p308
          replace q308 := eq_true q308
          try go_wp2_with (first | ((with_reducible refine zCg (b := .append) (xs := #[.tmp 28, .tmp 33]) rfl ?_); (try (refine gate_guard (by rfl) ?_; dsimp only)); at_builtin; refine Kd.R_append (Kd.int .i64) (w0 := w) w.heap.size rfl (.tmp 28) (.tmp 33) 23 3 (.int .i64 0) 8 rfl Tryd.underlying23 info3 rfl (by decide) (by omega) u5 x5_1 (rd l1 x6_1) [.int .i64 (rd l1 x6_1)] (fun k_ => some k_ ≠ (.slice Ao23 y301.length co23 : Value).ownBlock ∧ some k_ ≠ (.slice Ao25 t304.length co25 : Value).ownBlock) (fun _ => False) rfl rfl ?aP (fun _ hk => hk.elim) ?aF ?aO ?aB ?aS ?aL ?_; (case aP => exact rfl); (case aB => exact (by repeat (first | (with_reducible first | exact HB.out | apply zA2 | apply zA0 | apply zA3 | refine zA4 ?_ GE299.out) | exact HB.out))); (case aF => exact (fun k_ hk => ⟨Kd.fresh' (Kd.R_lt (by (with_reducible repeat (first | apply Kd.zAi | apply Kd.zAh | apply Kd.zAp)); exact HO303.out)) k_ hk, Kd.fresh' (Kd.R_lt (by (with_reducible repeat (first | apply Kd.zAi | apply Kd.zAh | apply Kd.zAp)); exact HO306.out)) k_ hk⟩)); (case aO => exact (by (with_reducible repeat (first | apply Kd.zAi | apply Kd.zAh | apply Kd.zAp)); exact Kd.zC3 HO_5.out (fun _ hk => ⟨hk.1.2, hk.2⟩))); (case aS => exact (zAb (by repeat (first | (with_reducible first | exact HB.out | apply zA2 | apply zA0 | apply zA3 | refine zA4 ?_ GE299.out) | exact HB.out)))); (case aL => have := LMc19.out; omega); intro v310 w27 ho hb hg hat; rw [← Ny309.out] at ho; have n0_ := zA1.mk (blk_grown (g := gb299) (o := .cells #[.int .i64 a0_0, .slice A0_1 l0_1.length c0_1] 28 (0, 0)) (by (with_reducible repeat (first | refine zA6 ?_ _ | refine zA8 ?_ | refine zA5 ?_ _)); exact BK299.out) hg (Kd.R_ne HO_5.out BK299.out (by decide))); have n1_ := zA1.mk (Kd.R_after (ok := (fun k_ => some k_ ≠ (.slice Ao25 t304.length co25 : Value).ownBlock)) (by (with_reducible repeat (first | apply Kd.zAi | apply Kd.zAh | apply Kd.zAp)); exact Kd.zC3 HO303.out (fun _ hk => ⟨hk.2, hk.1.2⟩)) hg hat); have n2_ := zA1.mk (Kd.R_after (ok := (fun k_ => some k_ ≠ (.slice Ao23 y301.length co23 : Value).ownBlock)) (by (with_reducible repeat (first | apply Kd.zAi | apply Kd.zAh | apply Kd.zAp)); exact Kd.zC3 HO306.out (fun _ hk => ⟨hk.2, hk.1.2⟩)) hg hat); have n3_ := zA1.mk (hb); have n4_ := zA1.mk (ho); clear BK299; clear HO303; clear HO306; clear HB; clear HO_5; have BK299 := n0_; have HO303 := n1_; have HO306 := n2_; have HB := n3_; have HO311 := n4_; clear n0_ n1_ n2_ n3_ n4_; clear ho hb hg hat))
          go_roundg kj3
          case measure => have := HK1.out; have := HJ3.out; omega
          case rel => exact ⟨(y309), (wrap64 (x6_1 + 1)), (by first | rfl | (simp; done) | (simp [*]; done)), H', ⟨by have := HK1.out; have := HJ3.out; omega⟩, ⟨by (with_reducible repeat (first | apply Kd.zAi | apply Kd.zAh | apply Kd.zAp)); exact Kd.zC3 HO311.out (fun _ hk => trivial)⟩, ⟨by (with_reducible repeat (first | refine zA6 ?_ _ | refine zA8 ?_ | refine zA5 ?_ _)); exact BK299.out⟩, ⟨by repeat (first | (with_reducible first | exact HB.out | apply zA2 | apply zA0 | apply zA3 | refine zA4 ?_ GE299.out) | exact HB.out)⟩⟩
         ·rw [if_neg c19] at H
          exact absurd H (by simp)
       ·rw [if_neg c8] at H
        exact absurd H (by simp)
      ·rw [if_neg c7] at H
       exact absurd H (by simp)
     ·replace c6 := Bool.eq_false_iff.mpr c6
      subst c6
      have H1 : (some x5_1) = some r := by rw [if_neg (show ¬ (false = true) by decide)] at H; exact H
      clear H
      have H := H1
      clear H1
      obtain rfl := Option.some.inj H
      go_wp2
      go_ret
      exact ⟨_, by first | rfl | (simp [zAy, zAx] <;> rfl) | (simp [*, zAy, zAx] <;> rfl), by (with_reducible repeat (first | apply Kd.zAi | apply Kd.zAh | apply Kd.zAp)); exact HO_5.out, by repeat (first | (with_reducible first | exact HB.out | apply zA2 | apply zA0 | apply zA3 | refine zA4 ?_ GE299.out) | exact HB.out)⟩
end
end Go.Proofs.YtbghfbhlbfcloaaDoor.PL
namespace Go.Proofs.YtbghfbhlbfcloaaDoor.PL
section
open Go.RowKit Go.Proofs.YtbghfbhlbfcloaaDoorW.PrintWords Go.Proofs.YtbghfbhlbfcloaaDoorW.PrintLast Go.Proofs.YtbghfbhlbfcloaaDoorW.PrintMore
attribute [local go_sem] Oper.semAt_some
set_option linter.unusedVariables false
set_option linter.unusedSimpArgs false

theorem nodup_at {l : List S41} (h : (l.map fun x => x.f0).Nodup) {i j : Nat} (hi : i < l.length) (hj : j < l.length) (he : (l.getD i z41).f0 = (l.getD j z41).f0) : i = j := by
 rw [List.getD_eq_getElem?_getD, List.getD_eq_getElem?_getD, List.getElem?_eq_getElem hi, List.getElem?_eq_getElem hj] at he
 exact (List.getElem_inj (h₀ := by simpa using hi) (h₁ := by simpa using hj) h).1 (by simpa using he)
theorem sortC_eq (l : List S41) (hn : (l.map fun x => x.f0).Nodup) : (l.mergeSort fun x y => !(decide (befC y x < 0))) = sortC l := merge_cf befC (befL_swo (fun x : S41 => x.f0)) l (fun a b ha hb h1 h2 => by
 have e : a.f0 = b.f0 := befL_eq _ _ (by
  have := befL_neg a.f0 b.f0
  unfold befC at h1 h2
  omega)
 obtain ⟨i, hi, rfl⟩ := List.getElem_of_mem ha
 obtain ⟨j, hj, rfl⟩ := List.getElem_of_mem hb
 have h := (List.getElem_inj (h₀ := by simpa using hi) (h₁ := by simpa using hj) hn).1 (by simpa using e)
 subst h
 rfl)
/-- SortFunc at a row of cuts of the call's own. -/
theorem sortCallC (W : World) (base : Nat) (v : Value) (l : List S41) (hok : okC l = true) (HO : Kd.S k41 41 W base (fun _ => True) v l) :
  Calls Tryd.prog 38 #[v, .func (.func 39) #[] #[]] W fun e w' => e = .returned (.tuple #[]) ∧ Kd.S k41 41 w' base (fun _ => True) v (sortC l) ∧ W.grownBy w' v.ownBlock := by
 simp only [okC, Bool.and_eq_true, decide_eq_true_eq] at hok
 obtain ⟨⟨hl, hc⟩, hn⟩ := hok
 rcases Nat.eq_zero_or_pos l.length with h0 | h0
 ·obtain rfl := List.eq_nil_of_length_eq_zero h0
  obtain ⟨A, c, rfl⟩ := Kd.S_slice HO
  refine (sortNoneCut A c _ W).mono fun e w' h => ?_
  obtain ⟨he, rfl⟩ := h
  exact ⟨he, by simpa [sortC, isort] using HO, ⟨rfl, rfl, rfl, Nat.le_refl _, fun _ _ _ => rfl⟩⟩
 ·have HO' := Kd.S_R HO
  obtain ⟨_, inner, ⟨_, ho⟩, _⟩ := HO'
  rcases ho with ⟨_, hx⟩ | ⟨g, cap, cur, rfl, hg, _⟩
  ·omega
  ·refine (sortS sortsCut HO (by omega) h0 z41 befC (befL_swo (fun x : S41 => x.f0)) ?_ (enters_of Tryd.func39 (by kernel_rfl) rfl) ?_).mono fun e w' h => ⟨h.1, sortC_eq l hn ▸ h.2.1, h.2.2⟩
   ·intro i j hi hj h1 h2
    refine nodup_at hn hi hj (befL_eq _ _ ?_)
    have := befL_neg (l.getD i z41).f0 (l.getD j z41).f0
    unfold befC at h1 h2
    omega
   ·intro x y cx cy W' hx hy kx ky
    obtain ⟨A0, c0, A1, c1, rfl, g0, g1, g2, g3⟩ := k41_open kx
    obtain ⟨A2, c2, A3, c3, rfl, g4, g5, g6, g7⟩ := k41_open ky
    have h1 := List.all_eq_true.1 (List.all_eq_true.1 hc x hx) y hy
    exact (zCi.exact CU.k A0 c0 x.f0 A1 c1 x.f1 A2 c2 y.f0 A3 c3 y.f1 (befC x y) W' g1 g0 g3 g2 g5 g4 g7 g6 (by simpa using h1)).mono fun e w' h => ⟨h.1, h.2.2⟩
/-- The operations of a region, by its number, in a loop over a function too. -/
def opsB : Code → Nat → Option (Array Oper)
 | .region id ops _, k => if id == k then some ops else none
 | .seq a b, k => match opsB a k with
  | some o => some o
  | none => opsB b k
 | .cond _ a b, k => match opsB a k with
  | some o => some o
  | none => opsB b k
 | .block _ c, k => opsB c k
 | .rangeFunc _ _ _ c, k => opsB c k
 | _, _ => none
def opsG (f : Func) (k : Nat) : Array Oper := ((f.body.bind fun c => opsB c k)).getD #[]
def notDefer : Op → Bool
 | .defer _ => false
 | _ => true
theorem nd_of {ops : Array Oper} (h : (ops.all fun o => notDefer o.op) = true) : ∀ (i : Nat) (o : Oper), ops[i]? = some o → ∀ c, o.op ≠ .defer c := by
 intro i o ho c e
 have h1 := Array.all_eq_true'.1 h o (Array.mem_of_getElem? ho)
 rw [e] at h1
 cases h1
def CU.T11 : Bool × List (List Nat × List Nat) := (true, [([], []), ([], []), ([1], [1]), ([], []), ([3, 2], [3]), ([2, 4], [2, 4]), ([5], [5]), ([0, 6, 4], [0, 6]), ([7, 7, 0, 1, 2, 3, 4, 5, 6, 7], [7])])
def CU.B11 : List Nat := [0, 0, 2, 0, 14, 30, 62, 127, 255]
theorem CU.tab11 : rtab .any (opsG Tryd.f10 11) = CU.T11 := by kernel_rfl
theorem CU.bits11 : waitsOk CU.T11.2 CU.B11 = true := by kernel_rfl
theorem cell_alloc_l {W : World} {a : Addr} {v : Value} (o : Obj) (h : W.cell? a = some v) : (W.alloc o).cell? a = some v := cell_kept h (World.grownBy_alloc W o none) (fun r e => by cases e)
set_option maxHeartbeats 1000000 in
theorem subsets_make (AL : Option Addr) (n cL : Nat) (m : Int) (w : World) :
  Calls Tryd.prog 36 #[.slice AL n cL, .int .u64 m] w fun e w' => e = .returned (.func (.func 66) #[] #[.pointer (some ⟨w.heap.size + 1, 0, none⟩), .pointer (some ⟨w.heap.size, 0, none⟩)]) ∧ w' = (w.alloc (.cells #[.slice AL n cL] 70)).alloc (.cells #[.int .u64 m] 71) := by
 go_enter Tryd.func36, Tryd.ntmps36
 go_wp2
 go_ret
 exact ⟨rfl, rfl⟩

set_option maxRecDepth 100000 in
set_option maxHeartbeats 4000000 in
theorem CU.calls (a0_0 : Int) (A0_1 : Option Addr) (c0_1 : Nat) (l0_1 : List (S68)) (A1 : Option Addr) (c1 : Nat) (l1 : List Int) (r1 : List (S41)) (r2 : Int) (w : World) (hr0_1 : Kd.C k68 w A0_1 l0_1.length l0_1) (hc0_1 : l0_1.length ≤ c0_1) (hr1 : Kd.C (Kd.int .i64) w A1 l1.length l1) (hc1 : l1.length ≤ c1) (hG : Kd.C (Kd.int .u8) w (some tabA) tabL.length tabL) (h : CU.f a0_0 l0_1 l1 = some (r1, r2)) :
  Calls Tryd.prog 10 #[.agg #[.int .i64 a0_0, .slice A0_1 l0_1.length c0_1], .slice A1 l1.length c1] w fun e w' => ∃ v0_ : Value, e = .returned (.tuple #[v0_, .int .i64 r2]) ∧ Kd.S k41 41 w' w.heap.size (fun _ => True) v0_ r1 ∧ Below w.heap.size w w' := by
 have hu28 := Tryd.underlying28
 have hu41 := Tryd.underlying41
 unfold CU.f at h
 obtain ⟨⟨L, m, er⟩, hop, h1⟩ := Option.bind_eq_some_iff.1 h
 dsimp only at h1
 have HR0 := zA1.mk hr0_1
 have HC0 := zA1.mk hc0_1
 have HR1 := zA1.mk hr1
 have HC1 := zA1.mk hc1
 have HG := zA1.mk hG
 have HOP := zA1.mk hop
 have H := zA1.mk h1
 have HOPC : ∀ w', Below w.heap.size w w' → _ := fun w' hb => (callsIn_wide (n := 5)).2 (zBq.calls CU.k a0_0 A0_1 c0_1 l0_1 A1 c1 l1 L m er w' (Kd.zB1 hr0_1 hb) hc0_1 (Kd.zB1 hr1 hb) hc1 hop)
 have HO := zA1.mk HOPC
 clear HOPC hr0_1 hc0_1 hr1 hc1 hG hop h h1
 refine (callsIn_wide (n := 6)).1 ?_
 refine callsIn_of_wp_marks Tryd.func10 rfl trivial ?_ rfl
 simp only [Tryd.ntmps10, List.size_toArray, List.length_cons, List.length_nil, Nat.reduceAdd, Nat.reduceSub, Array.replicate_succ, Array.replicate_zero, List.push_toArray, List.append_toArray, List.nil_append, List.cons_append]
 by_cases he : er = 0
 case neg =>
  have heb : (er != 0) = true := by simpa using he
  gi_wp2_with (refine ⟨trivial, ?_⟩; gi_at_call 34; refine (HO.out _ (zA2 (Below.refl _ _) _)).mono ?_; rintro e w2 ⟨vL, rfl, hL, hb⟩; obtain ⟨AL, cL, rfl⟩ := Kd.zC5 hL; have hb2 := (zA2 (Below.refl w.heap.size w) (.cells #[.int .i64 a0_0, .slice A0_1 l0_1.length c0_1] 28)).trans (hb.mono (by simp)); clear hb; have HB := zA1.mk hb2; clear hb2)
  have hh := H.out
  rw [if_neg he] at hh
  injection hh with hh
  injection hh with e1 e2
  subst e1 e2
  exact ⟨.tuple #[.slice none 0 0, .int .i64 er], by simp [results, Tryd.f10, go_sem], .slice none 0 0, rfl, Kd.S_nil _ _ _ _ _, zA2 (zA2 HB.out _) _⟩
 case pos =>
  subst he
  have hh := H.out
  rw [if_pos rfl] at hh
  obtain ⟨c, hc, hh⟩ := Option.bind_eq_some_iff.1 hh
  have H2 := zA1.mk hh
  have HC := zA1.mk hc
  clear H hc hh
  cases c with
  | false =>
   gi_wp2_with (first
    | (refine ⟨trivial, ?_⟩; gi_at_call 34; refine (HO.out _ (zA2 (Below.refl _ _) _)).mono ?_; rintro e w2 ⟨vL, rfl, hL, hb⟩; obtain ⟨AL, cL, rfl⟩ := Kd.zC5 hL; have hb2 := (zA2 (Below.refl w.heap.size w) (.cells #[.int .i64 a0_0, .slice A0_1 l0_1.length c0_1] 28)).trans (hb.mono (by simp)); clear hb; have HB := zA1.mk hb2; clear hb2; have HLC := zA1.mk (Kd.zAw hL); clear hL)
    | (refine ⟨trivial, ?_⟩; gi_at_call 35; refine (callsIn_wide.2 (zAr.calls CU.k _ _ L m false _ (Kd.zAf (Kd.zAf HLC.out.2.2 _) _) HLC.out.2.1 (Kd.zAf (Kd.zAf (Kd.zB1 HG.out HB.out) _) _) HC.out)).mono ?_; rintro e w3 ⟨rfl, hb3⟩; have HB3 := zA1.mk ((zA2 (zA2 HB.out _) _).trans (hb3.mono (by have := HB.out.size; simp; omega))); clear hb3))
   have hh := H2.out
   rw [if_neg (by simp)] at hh
   injection hh with hh
   injection hh with e1 e2
   subst e1 e2
   exact ⟨.tuple #[.slice none 0 0, .int .i64 17], by simp [results, Tryd.f10, go_sem], .slice none 0 0, rfl, Kd.S_nil _ _ _ _ _, HB3.out⟩
  | true =>
   gi_wp2_with (first
    | (refine ⟨trivial, ?_⟩; gi_at_call 34; refine (HO.out _ (zA2 (Below.refl _ _) _)).mono ?_; rintro e w2 ⟨vL, rfl, hL, hb⟩; obtain ⟨AL, cL, rfl⟩ := Kd.zC5 hL; have hb2 := (zA2 (Below.refl w.heap.size w) (.cells #[.int .i64 a0_0, .slice A0_1 l0_1.length c0_1] 28)).trans (hb.mono (by simp)); clear hb; have HB := zA1.mk hb2; clear hb2; have HLC := zA1.mk (Kd.zAw hL); clear hL)
    | (refine ⟨trivial, ?_⟩; gi_at_call 35; refine (callsIn_wide.2 (zAr.calls CU.k _ _ L m true _ (Kd.zAf (Kd.zAf HLC.out.2.2 _) _) HLC.out.2.1 (Kd.zAf (Kd.zAf (Kd.zB1 HG.out HB.out) _) _) HC.out)).mono ?_; rintro e w3 ⟨rfl, hb3⟩; have HB3 := zA1.mk ((zA2 (zA2 HB.out _) _).trans (hb3.mono (by have := HB.out.size; simp; omega))); have HB4 := zA1.mk hb3; have HLB := zA1.mk (zAt (zA5 (blk_new w2 (.cells #[.slice AL L.length cL] 70)) (.cells #[.int .u64 m] 71)) hb3); have HMB := zA1.mk (zAt (show ((w2.alloc (.cells #[.slice AL L.length cL] 70)).alloc (.cells #[.int .u64 m] 71)).heap[w2.heap.size + 1]? = _ from by have h_ := blk_new (w2.alloc (.cells #[.slice AL L.length cL] 70)) (.cells #[.int .u64 m] 71); rwa [World.size_alloc] at h_) hb3); have hl3 : w3.cell? ⟨w2.heap.size, 0, none⟩ = some (.slice AL L.length cL) := (zA9 HLB.out 0).trans rfl; have hm3 : w3.cell? ⟨w2.heap.size + 1, 0, none⟩ = some (.int .u64 m) := (zA9 HMB.out 0).trans rfl; have hl4 := cell_alloc_l (.cells #[.slice none 0 0] 30) hl3; have hm4 := cell_alloc_l (.cells #[.slice none 0 0] 30) hm3; clear hl3 hm3; clear hb3)
    | (refine ⟨trivial, ?_⟩; gi_at_call 36; refine (callsIn_wide.2 (subsets_make AL L.length cL m _)).mono ?_; rintro e w4 ⟨rfl, rfl⟩))
   have hh := H2.out
   simp only [if_true] at hh
   obtain ⟨ms, hms, hh⟩ := Option.bind_eq_some_iff.1 hh
   split at hh
   case isFalse => cases hh
   rename_i hsome
   obtain ⟨out, hout, hh⟩ := Option.bind_eq_some_iff.1 hh
   split at hh
   case isFalse => cases hh
   rename_i hok
   injection hh with hh
   injection hh with e1 e2
   subst e1 e2
   have hch := subs_chain m 1000 m ms hms
   have hlen := subs_len m 1000 m ms hms
   have hcn : ∀ s ∈ ms, zAr.f CU.k L s = some (cnB L s) := by
    intro s hs
    have h1 := List.all_eq_true.1 hsome s hs
    unfold cnB
    cases e : zAr.f CU.k L s with
    | none => rw [e] at h1; cases h1
    | some b => rfl
   have hat := fun x hx => allO_at hout x hx
   -- the world where the loop begins
   obtain ⟨W0, hW0⟩ : ∃ W0, ((w3.alloc (.cells #[.slice none 0 0] 30)).alloc (.cells #[.slice AL L.length cL] 70)).alloc (.cells #[.int .u64 m] 71) = W0 := ⟨_, rfl⟩
   have hs0 : W0.heap.size = w3.heap.size + 3 := by rw [← hW0]; simp
   have hO0 : W0.heap[w3.heap.size]? = some (.cells #[.slice none 0 0] 30 (0, 0)) := by rw [← hW0]; exact zA5 (zA5 (blk_new w3 _) _) _
   have hL0 : W0.heap[w3.heap.size + 1]? = some (.cells #[.slice AL L.length cL] 70 (0, 0)) := by
    rw [← hW0]; have h_ := blk_new (w3.alloc (.cells #[.slice none 0 0] 30)) (.cells #[.slice AL L.length cL] 70); rw [World.size_alloc] at h_; exact zA5 h_ _
   have hM0 : W0.heap[w3.heap.size + 1 + 1]? = some (.cells #[.int .u64 m] 71 (0, 0)) := by
    rw [← hW0]; have h_ := blk_new ((w3.alloc (.cells #[.slice none 0 0] 30)).alloc (.cells #[.slice AL L.length cL] 70)) (.cells #[.int .u64 m] 71); rwa [World.size_alloc, World.size_alloc] at h_
   have h30 : Below w3.heap.size w3 W0 := by rw [← hW0]; exact zA2 (zA2 (zA2 (Below.refl _ _) _) _) _
   have hBW : Below w.heap.size w W0 := HB3.out.trans (h30.mono HB3.out.size)
   have h23 : w2.heap.size + 2 ≤ w3.heap.size := by have := HB4.out.size; simpa using this
   have hLC0 : ∀ W', Kq w3.heap.size (w3.heap.size + 1 + 1) (w3.heap.size + 1) W0 W' → Kd.C (Kd.int .u64) W' AL L.length L := fun W' h => Kd.zB1 (Kd.zB1 (Kd.zAf (Kd.zAf HLC.out.2.2 _) _) HB4.out) (h30.trans h.b)
   have hG0 : ∀ W', Kq w3.heap.size (w3.heap.size + 1 + 1) (w3.heap.size + 1) W0 W' → Kd.C (Kd.int .u8) W' (some tabA) tabL.length tabL := fun W' h => Kd.zB1 (Kd.zB1 HG.out HB3.out) (h30.trans h.b)
   rw [hW0]
   have HAT := zA1.mk hat
   have HLC0 := zA1.mk hLC0
   have HG0 := zA1.mk hG0
   have HS0 := zA1.mk hs0
   have HLEN := zA1.mk hlen
   have HOUT := zA1.mk hout
   have HOK := zA1.mk hok
   have HBW := zA1.mk hBW
   have hlb := h30.block w2.heap.size (by omega)
   rw [HLB.out] at hlb
   have hmb := h30.block (w2.heap.size + 1) (by omega)
   rw [HMB.out] at hmb
   have HLB0 := zA1.mk hlb
   have HMB0 := zA1.mk hmb
   have H23 := zA1.mk h23
   have HO0 := zA1.mk hO0
   clear hat hLC0 hG0 hs0 hlen hout hok hBW hlb hmb h23
   refine wpIn_rangeFunc_ownG (N := (ms.filter (cnB L)).length) rfl (by omega) (gf := 66) (lb := #[.pointer (some ⟨w3.heap.size + 1 + 1, 0, none⟩), .pointer (some ⟨w3.heap.size + 1, 0, none⟩)]) rfl trivial (enters_of Tryd.func66 (by kernel_rfl) rfl)
    (subsets_stops CU.k AL cL L m ms (cnB L) (w3.heap.size + 1 + 1) (w3.heap.size + 1) w3.heap.size 5 W0 (by have := HS0.out; omega) ((zA9 hM0 0).trans rfl) ((zA9 hL0 0).trans rfl) HLC0.out HLC.out.2.1 HG0.out hch hcn)
    (fun h k => h.trans k) ?hKb (Below.refl _ _) (fun _ => rfl)
    (fun pre W => ∃ v ys, allO L m (pre.map fun x => x.1) = some ys ∧ W.heap[w3.heap.size]? = some (.cells #[v] 30 (0, 0)) ∧ Kd.S k41 41 W (w3.heap.size + 3) (fun _ => True) v ys ∧ Kq w3.heap.size (w3.heap.size + 1 + 1) (w3.heap.size + 1) W0 W)
    (fun _ _ _ => False) ?hI (fun _ _ _ _ _ h => h.elim) ⟨_, [], rfl, HO0.out, Kd.S_nil _ _ _ _ _, Kq.refl _ _ _ _⟩
    (fun x => { tmps := #[.agg #[.int .i64 a0_0, .slice A0_1 l0_1.length c0_1], .slice A1 l1.length c1, .pointer (some ⟨w.heap.size, 0, none⟩), undef, .slice none 0 0, .int .i64 0, .pointer (some ⟨w2.heap.size, 0, none⟩), .pointer (some ⟨w2.heap.size + 1, 0, none⟩), .int .i64 0, .pointer (some ⟨w3.heap.size, 0, none⟩), .int .u64 x.1, undef, .tuple #[.slice AL L.length cL, .int .u64 m, .int .i64 0], .agg #[.int .i64 a0_0, .slice A0_1 l0_1.length c0_1], .slice A1 l1.length c1, .tuple #[.slice AL L.length cL, .int .u64 m, .int .i64 0], .slice AL L.length cL, .int .u64 m, .int .i64 0, .int .i64 0, .bool false, undef, .slice AL L.length cL, .int .u64 m, .bool true, .bool false, .slice AL L.length cL, .int .u64 m, .func (.func 66) #[] #[.pointer (some ⟨w3.heap.size + 1 + 1, 0, none⟩), .pointer (some ⟨w3.heap.size + 1, 0, none⟩)], .int .u64 x.1, undef, undef, undef, undef, undef, undef, undef, undef, undef, undef, undef, undef, undef, undef, undef, undef, undef, undef, undef, undef, undef, undef, undef, undef, undef, undef, undef, undef, undef, undef], defers := [] }) ?assign ?body ?done ?stop
   case hKb =>
    intro W l o o' hl ho hc hw
    exact ⟨belowK_b (w := W0) (by have := HS0.out; omega) W l o o' hl ho hc hw, World.putObj_heap_other (by have := HS0.out; omega), World.putObj_heap_other (by have := HS0.out; omega)⟩
   case hI =>
    rintro s A B row ⟨v, ys, hall, hO, hS, hK⟩ hg hr
    have hOl := (Array.getElem?_eq_some_iff.1 hO).1
    have hle := hK.b.size
    have hs := HS0.out
    refine ⟨v, ys, hall, (hg.block _ hOl (fun e => by have := (hr _ e.symm).1; omega)).trans hO, Kd.S_mono (Kd.S_step (Kd.S_bound hS) (fun k hk hlt => hg.block k hlt (fun e => ?_))) (fun _ _ => trivial), hK.trans ⟨(Below.refl _ A).grown hg (by omega) (fun k e => by have := (hr _ e).1; omega), hg.block _ (by omega) (fun e => by have := (hr _ e.symm).1; omega), hg.block _ (by omega) (fun e => by have := (hr _ e.symm).1; omega)⟩⟩
    obtain ⟨_, o, ho, hc⟩ := hr k e.symm
    obtain ⟨_, _, _, q, _, cells, hcell⟩ := hk
    rw [hcell] at ho
    cases ho
    cases hc
   case stop => intro D c pre W _ _ h; exact h.elim
   case assign =>
    intro l x W K hK
    gi_wp2
    exact hK
   case body =>
    rintro l pre x W ⟨v, ys, hall, hO, hS, hK⟩ hlt
    obtain ⟨a, ha⟩ := HAT.out x.1 x.2
    have hsn : allO L m ((pre ++ [x]).map fun x => x.1) = some (ys ++ a) := by rw [List.map_append]; exact allO_snoc hall ha
    have hys : ys.length ≤ 1000 := by
     have h1 := allO_len hall
     have h2 := List.length_filter_le (cnB L) ms
     have h3 := HLEN.out
     rw [List.length_map] at h1
     omega
    have hmC : W.cell? ⟨w2.heap.size + 1, 0, none⟩ = some (.int .u64 m) := (zA9 ((hK.b.block _ (by have := H23.out; omega)).trans HMB0.out) 0).trans rfl
    have hlC : W.cell? ⟨w2.heap.size, 0, none⟩ = some (.slice AL L.length cL) := (zA9 ((hK.b.block _ (by have := H23.out; omega)).trans HLB0.out) 0).trans rfl
    have hOc : W.cell? ⟨w3.heap.size, 0, none⟩ = some v := (zA9 hO 0).trans rfl
    have hOf := zAd hO 0
    have HLW := zA1.mk (HLC0.out W hK)
    have HGW := zA1.mk (HG0.out W hK)
    have HSN := zA1.mk hsn
    have HYS := zA1.mk hys
    have HOO := zA1.mk hO
    have HSS := zA1.mk hS
    have HKK := zA1.mk hK
    clear hall hsn hys hO hS hK
    unfold ctO at ha
    by_cases z1 : Go.bits .and .u64 x.1 (Go.bits .and .u64 m (IntKind.u64.wrap (-m))) = 0
    ·rw [if_pos z1] at ha
     injection ha with ha
     subst ha
     have zb : (Go.bits .and .u64 x.1 (Go.bits .and .u64 m (IntKind.u64.wrap (-m))) != 0) = false := by rw [z1]; rfl
     clear z1
     gi_wp2
     refine ⟨trivial, ?_⟩
     gi_wp2
     exact ⟨KeepsFrom.refl _ _, Kq.refl _ _ _ _, v, ys, by have := HSN.out; rwa [List.append_nil] at this, HOO.out, HSS.out, HKK.out⟩
    ·rw [if_neg z1] at ha
     have zb : (Go.bits .and .u64 x.1 (Go.bits .and .u64 m (IntKind.u64.wrap (-m))) != 0) = true := by simpa using z1
     clear z1
     by_cases z2 : Go.bits .andNot .u64 m x.1 = 0
     ·rw [if_pos z2] at ha
      injection ha with ha
      subst ha
      have zc : (Go.bits .andNot .u64 m x.1 != 0) = false := by rw [z2]; rfl
      clear z2
      gi_wp2
      refine ⟨trivial, ?_⟩
      gi_wp2
      exact ⟨KeepsFrom.refl _ _, Kq.refl _ _ _ _, v, ys, by have := HSN.out; rwa [List.append_nil] at this, HOO.out, HSS.out, HKK.out⟩
     ·rw [if_neg z2] at ha
      have zc : (Go.bits .andNot .u64 m x.1 != 0) = true := by simpa using z2
      clear z2
      obtain ⟨c, hc2, ha⟩ := Option.bind_eq_some_iff.1 ha
      have HC2 := zA1.mk hc2
      clear hc2
      cases c with
      | false =>
       simp only [Bool.false_eq_true, if_false] at ha
       injection ha with ha
       subst ha
       gi_wp2_with (refine ⟨trivial, ?_⟩; gi_at_call 35; refine (CallsIn.inRound l (callsIn_wide.2 (zAr.calls CU.k AL cL L _ false W HLW.out HLC.out.2.1 HGW.out HC2.out))).mono ?_; rintro e w5 ⟨rfl, hb5⟩)
       have hsz := HKK.out.b.size
       have hs := HS0.out
       exact ⟨KeepsFrom.of_grownBy (grown_of_below hb5) (fun _ e => by cases e), Kq.of hb5 (by omega) (by omega) (by omega), v, ys, by have := HSN.out; rwa [List.append_nil] at this, (hb5.block _ (by omega)).trans HOO.out, Kd.S_below HSS.out hb5, HKK.out.trans (Kq.of hb5 (by omega) (by omega) (by omega))⟩
      | true =>
       simp only [if_true] at ha
       obtain ⟨la, hla, ha⟩ := Option.bind_eq_some_iff.1 ha
       obtain ⟨lb, hlb, ha⟩ := Option.bind_eq_some_iff.1 ha
       injection ha with ha
       subst ha
       have HLA := zA1.mk hla
       have HLBB := zA1.mk hlb
       clear hla hlb
       gi_wp2_with (refine ⟨trivial, ?_⟩; gi_at_call 35; refine (CallsIn.inRound l (callsIn_wide.2 (zAr.calls CU.k AL cL L _ true W HLW.out HLC.out.2.1 HGW.out HC2.out))).mono ?_; rintro e w5 ⟨rfl, hb5⟩; have HB5 := zA1.mk hb5; clear hb5)
       have hsz := HKK.out.b.size
       have hs := HS0.out
       have hOl := zCm HOO.out
       have hb6 : Below W.heap.size W w5.drew := below_drew HB5.out
       have HS6 := zA1.mk (Kd.S_below HSS.out hb6)
       have hO6 := (hb6.block _ hOl).trans HOO.out
       have HG6 := zA1.mk (Kd.zB1 HGW.out hb6)
       have HB6 := zA1.mk hb6
       clear hb6
       refine start_in (n := 9) (S := fun w' => w'.cell? ⟨w3.heap.size, 0, none⟩ = some v) (ds := [8]) #[false, false, false, false, false, false, false, false, false] (by kernel_rfl) rfl rfl (by rintro ⟨_, _, h_⟩; exact h_) (nd_of (by kernel_rfl)) ((zA9 hO6 0).trans rfl) (fun hHeld => ?_)
       refine with_tabW CU.tab11 CU.bits11 (fun HT_ HW_ => ?_)
       have HO6 := zA1.mk hO6
       clear hO6 hmC hlC hOc hOf zb zc
       generalize w5.drew = w6 at HS6 HO6 HG6 HB6 hHeld ⊢
       refine pure_ (i := 1) (N := some 50) (v := ?_) (a' := ?_) #[false, true, false, false, false, false, false, false, false] rfl rfl (zB6 HT_.out (by kernel_rfl)) (fun _ _ _ h => h) (Or.inl ⟨by rfl, ?_⟩) ?_ ?_
       rotate_left
       ·intro w'
        go_simp
        with_reducible rfl
       rotate_left
       ·simp only [Act.put, List.setIfInBounds_toArray, List.set_cons_zero, List.set_cons_succ, i64_w, i32_w]
        rfl
       refine pure_ (i := 3) (N := some 52) (v := ?_) (a' := ?_) #[false, true, false, true, false, false, false, false, false] rfl rfl (zB6 HT_.out (by kernel_rfl)) (fun _ _ _ h => h) (Or.inl ⟨by rfl, ?_⟩) ?_ ?_
       rotate_left
       ·intro w'
        go_simp
        with_reducible rfl
       rotate_left
       ·simp only [Act.put, List.setIfInBounds_toArray, List.set_cons_zero, List.set_cons_succ, i64_w, i32_w]
        rfl
       refine take_ (i := 0) (N := some 49) (v := ?_) (a' := ?_) #[true, true, false, true, false, false, false, false, false] rfl rfl (zBt HT_.out HW_.out (by kernel_rfl)) (fun _ _ _ h => h) (Or.inl ⟨by rfl, ?_⟩) hHeld ?_ ?_
       rotate_left
       ·intro w' s0
        go_simp
        with_reducible rfl
       rotate_left
       ·simp only [Act.put, List.setIfInBounds_toArray, List.set_cons_zero, List.set_cons_succ, i64_w, i32_w]
        rfl
       refine one_ (i := 2) (N := some 51) #[true, true, true, true, false, false, false, false, false] rfl rfl (one_of HT_.out (by kernel_rfl)) (by decide) (fun K hK => ?_)
       refine goes_ Tryd.func37 (by kernel_rfl) rfl #[.int .u64 x.1] (by rfl) rfl rfl (by (try simp only [List.map_toArray, List.map_cons, List.map_nil]); first | done | rfl) ?_
       refine (zBe.calls CU.k _ la _ HG6.out HLA.out).mono ?_
       rintro e w7 ⟨va, rfl, hva, hb7⟩
       obtain ⟨Ava, ca, rfl⟩ := Kd.zC5 hva
       refine ⟨_, rfl, ?_⟩
       refine hK.out _ _ ((hb7.cell (World.block_lt_of_cell? _ _ hHeld)).trans hHeld) (fun hHeld => ?_)
       clear hK K
       refine one_ (i := 4) (N := some 53) #[true, true, true, true, true, false, false, false, false] rfl rfl (one_of HT_.out (by kernel_rfl)) (by decide) (fun K hK => ?_)
       refine goes_ Tryd.func37 (by kernel_rfl) rfl #[.int .u64 (Go.bits .andNot .u64 m x.1)] (by rfl) rfl rfl (by (try simp only [List.map_toArray, List.map_cons, List.map_nil]); first | done | rfl) ?_
       refine (zBe.calls CU.k _ lb _ (Kd.zB1 HG6.out hb7) HLBB.out).mono ?_
       rintro e w8 ⟨vb, rfl, hvb, hb8⟩
       obtain ⟨Avb, cb, rfl⟩ := Kd.zC5 hvb
       refine ⟨_, rfl, ?_⟩
       refine hK.out _ _ ((hb8.cell (World.block_lt_of_cell? _ _ hHeld)).trans hHeld) (fun hHeld => ?_)
       clear hK K
       refine pure_ (i := 5) (N := some 54) (v := ?_) (a' := ?_) #[true, true, true, true, true, true, false, false, false] rfl rfl (zB6 HT_.out (by kernel_rfl)) (fun _ _ _ h => h) (Or.inl ⟨by rfl, ?_⟩) ?_ ?_
       rotate_left
       ·intro w'
        go_simp
        with_reducible rfl
       rotate_left
       ·simp only [Act.put, List.setIfInBounds_toArray, List.set_cons_zero, List.set_cons_succ, i64_w, i32_w]
        rfl
       have hlt6 := HB6.out.size
       have hVA := zA1.mk (Kd.zC3 (ok' := fun k => w6.heap.size ≤ k) (Kd.zCk (Kd.R_bound (Kd.zBi hva hb8)) (base' := w3.heap.size + 3) (by omega)) (fun k hk => hk.2.1))
       have hVB := zA1.mk (Kd.zC3 (ok' := fun k => w6.heap.size ≤ k) (Kd.zCk (Kd.R_bound hvb) (base' := w3.heap.size + 3) (by have := hb7.size; omega)) (fun k hk => Nat.le_trans hb7.size hk.2.1))
       have hb68 := hb7.trans (hb8.mono hb7.size)
       have HB68 := zA1.mk hb68
       have HS8 := zA1.mk (Kd.S_mono (ok' := fun k => True ∧ ¬ w6.heap.size ≤ k) (Kd.S_below (Kd.S_bound HS6.out) hb68) (fun k hk => ⟨trivial, by have := hk.2.2.1; omega⟩))
       have hVne : ∀ k, w6.heap.size ≤ k → some k ≠ v.ownBlock := fun k hk e => by have := Kd.S_lt HS6.out k e.symm; omega
       have HO8 := zA1.mk ((hb68.block _ (zCm HO6.out)).trans HO6.out)
       have HSZ6 := zA1.mk hlt6
       have hle8 : w3.heap.size + 3 ≤ w8.heap.size := by have := hb68.size; omega
       clear hva hvb hb7 hb8 hb68 hsz hs hlt6
       refine one_ (i := 6) (N := some 55) #[true, true, true, true, true, true, true, false, false] rfl rfl (one_of HT_.out (by kernel_rfl)) (by decide) (fun K hK => ?_)
       refine event_step (v := ?_) (w1 := w8.alloc (.cells [.slice Ava la.length ca, .slice Avb lb.length cb].toArray 41)) (by rfl) ?_ ?_
       rotate_left
       ·go_simp
        rfl
       refine hK.out _ _ (cell_alloc_l _ hHeld) (fun hHeld => ?_)
       clear hK K
       refine one_ (i := 7) (N := some 56) #[true, true, true, true, true, true, true, true, false] rfl rfl (one_of HT_.out (by kernel_rfl)) (by decide) (fun K hK => ?_)
       refine Kd.S_append_step (w0 := w8) (W := w8) k41 (w3.heap.size + 3) (by rfl) (.tmp 49) (.tmp 55) 30 41 (.agg #[(.slice none 0 0), (.slice none 0 0)]) 48 rfl Tryd.underlying30 info41 rfl (by decide) (by omega) v ys ⟨la, lb⟩ [.slice Ava la.length ca, .slice Avb lb.length cb] (fun _ => True) (fun k => w6.heap.size ≤ k) rfl rfl (k41_mkM _ _ _ ⟨la, lb⟩ hVA.out hVB.out) (fun k hk => ⟨trivial, hVne k hk⟩) (fun _ _ => trivial) HS8.out (Below.refl _ _) hle8 (by have := HYS.out; omega) ?_
       intro v9 w9 hS9 hb9 hg9 _
       refine hK.out _ _ ?_ (fun hHeld => ?_)
       ·exact (zA9 ((hb9.block _ (by omega)).trans HO8.out) 0).trans rfl
       clear hK K
       refine last_ (i := 8) (N := none) #[true, true, true, true, true, true, true, true, true] rfl rfl (one_of HT_.out (by kernel_rfl)) (by decide) (fun K hK => ?_)
       obtain ⟨A9, c9, e9⟩ := Kd.S_slice hS9
       rw [show (ys ++ [(⟨la, lb⟩ : S41)]).length = ys.length + 1 by simp] at e9
       subst e9
       have hO9 := (hb9.block _ (show w3.heap.size < w3.heap.size + 3 by omega)).trans HO8.out
       have hf9 := zAd hO9 0
       refine skip_ (w1 := ?_) (by rfl) rfl ?_ ?_
       rotate_left
       ·go_simp
        rfl
       refine hK.out _ _ ?_
       clear hK K
       refine done_ (done_of HT_.out (by kernel_rfl)) ?_
       have hW8 : Below W.heap.size W w8 := HB6.out.trans (HB68.out.mono HSZ6.out)
       have hK8 : Kq w3.heap.size (w3.heap.size + 1 + 1) (w3.heap.size + 1) W w8 := Kq.of hW8 (by have := HKK.out.b.size; have := HS0.out; omega) (by have := HKK.out.b.size; have := HS0.out; omega) (by have := HKK.out.b.size; have := HS0.out; omega)
       have hKW : Kq w3.heap.size (w3.heap.size + 1 + 1) (w3.heap.size + 1) W (w9.setCell ⟨w3.heap.size, 0, none⟩ (.slice A9 (ys.length + 1) c9)) :=
        (hK8.trans (Kq.of hb9 (by omega) (by omega) (by omega))).trans ⟨(Below.refl _ _).setCell (p := ⟨w3.heap.size, 0, none⟩) (by simp) _, Below.heap_setCell _ _ _ _ (by simp; omega), Below.heap_setCell _ _ _ _ (by simp)⟩
       refine ⟨?_, hKW, _, _, HSN.out, blk_set hO9 0 _, ?_, HKK.out.trans hKW⟩
       ·refine ((KeepsFrom.of_grownBy (grown_of_below hW8) (fun _ e => by cases e)).trans ⟨hg9.size, fun k o hB hk ho => (hg9.block k (zCm hk) (fun e => ?_)).trans hk⟩).trans ((KeepsOthers.setCell _ _ _).from _)
        obtain ⟨cells, hc⟩ := Kd.S_typed HS8.out k e.symm
        rw [hc] at hk
        cases hk
        cases ho
       ·exact Kd.S_mono (Kd.S_far (Kd.S_bound hS9) (p := ⟨w3.heap.size, 0, none⟩) (fun k hk => by have := hk.2.1; simp; omega) _) (fun _ _ => trivial)
   case done =>
    rintro D xs W hD hxs ⟨v, ys, hall, hO, hS, hK⟩ hDef
    rw [hxs, HOUT.out] at hall
    injection hall with hall
    subst hall
    have hOc : W.cell? ⟨w3.heap.size, 0, none⟩ = some v := (zA9 hO 0).trans rfl
    obtain ⟨A, c, rfl⟩ := Kd.S_slice hS
    have hB : Below w.heap.size w W := HBW.out.trans (hK.b.mono HB3.out.size)
    have hB3s := HB3.out.size
    have HSS := zA1.mk hS
    have HOO := zA1.mk hO
    have HKK := zA1.mk hK
    have HBB := zA1.mk hB
    have HDD := zA1.mk hDef
    have HD := zA1.mk hD
    clear hS hO hK hB hDef hD
    gi_wp2_with (refine ⟨trivial, ?_⟩; gi_at_call 38; refine (callsIn_wide.2 (sortCallC W (w3.heap.size + 3) _ out HOK.out HSS.out)).mono ?_; rintro e w9 ⟨rfl, hS9, hg9⟩; have hSn := Kd.S_base HSS.out; have hO9 := blk_grown HOO.out hg9 (fun e_ => by have := hSn _ e_.symm; omega); have hOc9 : w9.cell? ⟨w3.heap.size, 0, none⟩ = some (.slice A out.length c) := (zA9 hO9 0).trans rfl; have hD9 := blk_grown HDD.out hg9 (fun e_ => by obtain ⟨cells, hc⟩ := Kd.S_typed HSS.out _ e_.symm; have h_ := HDD.out; rw [hc] at h_; cases h_))
    refine ⟨by simp, .inl ⟨_, _, rfl, run_takeDeferred hD9, ?_⟩⟩
    have hpD := grownBy_putObj' w9 D (.deferred none)
    have hDs := HD.out
    have hs := HS0.out
    have hB9 : Below w.heap.size w w9 := HBB.out.grown hg9 (by have := HKK.out.b.size; omega) (fun k hk => by have := hSn k hk; omega)
    refine ⟨.tuple #[.slice A out.length c, .int .i64 0], by simp [results, Tryd.f10, go_sem], .slice A out.length c, rfl, ?_, hB9.grown hpD (by have := HKK.out.b.size; have := hg9.size; omega) (fun k hk => by cases hk; omega)⟩
    refine Kd.S_lower (Kd.S_mono (Kd.S_step (Kd.S_bound hS9) (fun k hk hlt => hpD.block k hlt (fun e => ?_))) (fun _ _ => trivial)) (by omega)
    cases e
    obtain ⟨_, _, _, q, _, cells, hcell⟩ := hk
    rw [hcell] at hD9
    cases hD9
end
end Go.Proofs.YtbghfbhlbfcloaaDoor.PL
namespace Go.Proofs.YtbghfbhlbfcloaaDoor.PL
section
open Go.RowKit Go.Proofs.YtbghfbhlbfcloaaDoorW.PrintWords Go.Proofs.YtbghfbhlbfcloaaDoorW.PrintLast Go.Proofs.YtbghfbhlbfcloaaDoorW.PrintMore
attribute [local go_sem] zC2 zC0 zC9 zC8 zBs zBr zC1 zBz   -- for this text's walks alone
set_option linter.unusedVariables false
set_option linter.unusedSimpArgs false
attribute [local go_sem high] eqA68
/-! ### liaison_Cuts: function 10 -/
def liaison_Cuts.f (a0_0 : Int) (l0_1 : List (S68)) (l1 : List Int) : Option ((List (S41)) × Int) := CU.f a0_0 l0_1 l1
theorem liaison_Cuts.calls (a0_0 : Int) (A0_1 : Option Addr) (c0_1 : Nat) (l0_1 : List (S68)) (A1 : Option Addr) (c1 : Nat) (l1 : List Int) (r1 : List (S41)) (r2 : Int) (w : World) (hr0_1 : Kd.C k68 w A0_1 l0_1.length l0_1) (hc0_1 : l0_1.length ≤ c0_1) (hr1 : Kd.C (Kd.int .i64) w A1 l1.length l1) (hc1 : l1.length ≤ c1) (hG : Kd.C (Kd.int .u8) w (some tabA) tabL.length tabL) (h : liaison_Cuts.f a0_0 l0_1 l1 = some (r1, r2)) :
  Calls Tryd.prog 10 #[.agg #[.int .i64 a0_0, .slice A0_1 l0_1.length c0_1], .slice A1 l1.length c1] w fun e w' => ∃ v0_ : Value, e = .returned (.tuple #[v0_, .int .i64 r2]) ∧ Kd.S k41 41 w' w.heap.size (fun _ => True) v0_ r1 ∧ Below w.heap.size w w' :=
  CU.calls a0_0 A0_1 c0_1 l0_1 A1 c1 l1 r1 r2 w hr0_1 hc0_1 hr1 hc1 hG h
end
end Go.Proofs.YtbghfbhlbfcloaaDoor.PL
namespace Go.Proofs.YtbghfbhlbfcloaaDoor.PL
section
open Go.RowKit Go.Proofs.YtbghfbhlbfcloaaDoorW.PrintWords Go.Proofs.YtbghfbhlbfcloaaDoorW.PrintLast Go.Proofs.YtbghfbhlbfcloaaDoorW.PrintMore
attribute [local go_sem] zC2 zC0 zC9 zC8 zBs zBr zC1 zBz   -- for this text's walks alone
set_option linter.unusedVariables false
set_option linter.unusedSimpArgs false
attribute [local go_sem high] eqA68
/-! ### zB2: function 11 -/
def zB2.l0 : Nat → List Int → List Int → Int → List Int → List Int → Int → Int → Option (List Int × Int)
 | 0, _, _, _, _, _, _, _ => none
 | k + 1, x1, x6, x7, x9, x26, x27, x28 => if x28 < x27 then (if 0 ≤ x28 then (if x28 < (x26.length : Int) then (if (x1.length : Int) > 2 then (if 0 ≤ (rd x26 x28) then ((zAr.f k x6 (Go.bits .andNot .u64 x7 (shl .u64 1 (rd x26 x28)))).bind fun t188 => (if t188 = true then (zB2.l0 k x1 x6 x7 x9 x26 x27 (wrap64 (x28 + 1))) else (if x9.length < 17592186044416 then (zB2.l0 k x1 x6 x7 (x9 ++ [rd x26 x28]) x26 x27 (wrap64 (x28 + 1))) else (none)))) else (none)) else (zB2.l0 k x1 x6 x7 x9 x26 x27 (wrap64 (x28 + 1)))) else (none)) else (none)) else (some (x9, 0))
def zB2.f (k : Nat) (a0_0 : Int) (l0_1 : List (S68)) (l1 : List Int) : Option (List Int × Int) := (zBq.f k a0_0 l0_1 l1).bind fun bt181 => (if bt181.2.2 = 0 then ((zAr.f k bt181.1 bt181.2.1).bind fun t186 => (if t186 = true then (zB2.l0 k l1 bt181.1 bt181.2.1 ([] : List Int) l1 (l1.length : Int) 0) else (some (([] : List Int), 17)))) else (some (([] : List Int), bt181.2.2)))
theorem zB2.zBx : ∀ k, (∀ y0 y1 y2 y3 y4 y5 y6, LeO (zB2.l0 k y0 y1 y2 y3 y4 y5 y6) (zB2.l0 (k + 1) y0 y1 y2 y3 y4 y5 y6))
 | 0 => fun _ _ _ _ _ _ _ r h => by simp [zB2.l0] at h
 | k + 1 => by
  have ih0 := zB2.zBx k
  ·intro y0 y1 y2 y3 y4 y5 y6
   unfold zB2.l0
   repeat' first
   | (with_reducible exact ih0 _ _ _ _ _ _ _)
   | (with_reducible exact zAr.mono _ _ _)
   | (with_reducible exact zBq.mono _ _ _ _)
   | (with_reducible exact LeO.refl _)
   | (with_reducible exact LeO.none _)
   | (with_reducible refine LeO.ite ?_ ?_)
   | (with_reducible refine LeO.bind ?_ (fun _ => ?_))
theorem zB2.mono : ∀ a0 a1 a2 k, LeO (zB2.f k a0 a1 a2) (zB2.f (k + 1) a0 a1 a2) := by
 intro a0 a1 a2 k
 have ih0 := zB2.zBx k
 unfold zB2.f
 repeat' first
   | (with_reducible exact ih0 _ _ _ _ _ _ _)
   | (with_reducible exact zAr.mono _ _ _)
   | (with_reducible exact zBq.mono _ _ _ _)
   | (with_reducible exact LeO.refl _)
   | (with_reducible exact LeO.none _)
   | (with_reducible refine LeO.ite ?_ ?_)
   | (with_reducible refine LeO.bind ?_ (fun _ => ?_))
set_option maxHeartbeats 8000000 in
set_option maxRecDepth 100000 in
theorem zB2.calls (k : Nat) (a0_0 : Int) (A0_1 : Option Addr) (c0_1 : Nat) (l0_1 : List (S68)) (A1 : Option Addr) (c1 : Nat) (l1 : List Int) (r1 : List Int) (r2 : Int) (w : World) (hr0_1 : Kd.C k68 w A0_1 l0_1.length l0_1) (hc0_1 : l0_1.length ≤ c0_1) (hr1 : Kd.C (Kd.int .i64) w A1 l1.length l1) (hc1 : l1.length ≤ c1) (hG : Kd.C (Kd.int .u8) w (some tabA) tabL.length tabL) (h : zB2.f k a0_0 l0_1 l1 = some (r1, r2)) :
  Calls Tryd.prog 11 #[.agg #[.int .i64 a0_0, .slice A0_1 l0_1.length c0_1], .slice A1 l1.length c1] w fun e w' => ∃ v0_ : Value, e = .returned (.tuple #[v0_, .int .i64 r2]) ∧ Kd.R (Kd.int .i64) 3 w' w.heap.size (fun _ => True) v0_ r1 ∧ Below w.heap.size w w' := by
 have hu28 := Tryd.underlying28
 have HR0_1 := zA1.mk hr0_1
 have HC0_1 := zA1.mk hc0_1
 clear hr0_1 hc0_1
 have HR1 := zA1.mk hr1
 have HC1 := zA1.mk hc1
 clear hr1 hc1
 have HB := zA1.mk (Below.refl w.heap.size w)
 have HG := zA1.mk hG
 clear hG
 have H : ((zBq.f k a0_0 l0_1 l1).bind fun bt181 => (if bt181.2.2 = 0 then ((zAr.f k bt181.1 bt181.2.1).bind fun t186 => (if t186 = true then (zB2.l0 k l1 bt181.1 bt181.2.1 ([] : List Int) l1 (l1.length : Int) 0) else (some (([] : List Int), 17)))) else (some (([] : List Int), bt181.2.2)))) = some (r1, r2) := h
 clear h
 replace H := Option.bind_eq_some_iff.mp H
 obtain ⟨⟨t181, t184, t185⟩, A30, H⟩ := H
 replace H : (if t185 = 0 then ((zAr.f k t181 t184).bind fun t186 => (if t186 = true then (zB2.l0 k l1 t181 t184 ([] : List Int) l1 (l1.length : Int) 0) else (some (([] : List Int), 17)))) else (some (([] : List Int), t185))) = some (r1, r2) := H
 have A3 := zA1.mk A30
 clear A30
 by_cases c4 : t185 = 0
 ·rw [if_pos c4] at H
  have c4b0 : (t185 == 0) = true := beq_iff_eq.mpr c4
  have c4b1 : (t185 != 0) = false := bne_eq_false_iff_eq.mpr c4
  clear c4
  replace H := Option.bind_eq_some_iff.mp H
  obtain ⟨t186, A50, H⟩ := H
  replace H : (if t186 = true then (zB2.l0 k l1 t181 t184 ([] : List Int) l1 (l1.length : Int) 0) else (some (([] : List Int), 17))) = some (r1, r2) := H
  have A5 := zA1.mk A50
  clear A50
  by_cases c6 : t186 = true
  ·subst c6
   have H1 : (zB2.l0 k l1 t181 t184 ([] : List Int) l1 (l1.length : Int) 0) = some (r1, r2) := by rw [if_pos rfl] at H; exact H
   clear H
   have H := H1
   clear H1
   have H' := zA1.mk H
   clear H
   go_enter Tryd.func11, Tryd.ntmps11
   go_wp2_with (first | ((with_reducible refine zBk (N := 2) rfl ?_); refine zBj ?hg (N := 2) ?hd (cs := #[.int .i64 a0_0, .slice A0_1 l0_1.length c0_1]) (t := 28) ?hr ?_; (case hd => rfl); (case hg => rfl); (case hr => first | (go_simp; done) | (go_simp; rfl)); intro gb180 hg w7 hbox hb; have n0_ := zA1.mk (zAe (by repeat (first | (with_reducible first | exact HB.out | apply zA2 | apply zA0 | apply zA3) | exact HB.out)) hb); have n1_ := zA1.mk (hbox); have n2_ := zA1.mk ((by rw [hg]; exact (zAb (by repeat (first | (with_reducible first | exact HB.out | apply zA2 | apply zA0 | apply zA3) | exact HB.out))) : w.heap.size ≤ gb180)); have n3_ := zA1.mk ((by rw [hg]; exact (zAb (by repeat (first | (with_reducible first | exact HB.out | apply zA2 | apply zA0 | apply zA3) | exact HB.out))) : w.heap.size ≤ gb180)); clear HB; have HB := n0_; have BK180 := n1_; have GW180 := n2_; have GE180 := n3_; clear n0_ n1_ n2_ n3_; clear hb hbox hg; have hcz8_0 : w7.cell? ⟨gb180, 0, none⟩ = some (.int .i64 a0_0) := (zA9 BK180.out 0).trans rfl; have hcz8_1 : w7.cell? ⟨gb180, 1, none⟩ = some (.slice A0_1 l0_1.length c0_1) := (zA9 BK180.out 1).trans rfl; have hfz8_0 := zAd BK180.out 0; have hfz8_1 := zAd BK180.out 1) | ((with_reducible refine zBc (f := 34) rfl ?_); refine zCf (some 15) rfl rfl Tryd.func34 (by kernel_rfl) rfl #[.agg #[.int .i64 a0_0, .slice A0_1 l0_1.length c0_1], .slice A1 l1.length c1] rfl (by (try simp only [List.map_toArray, List.map_cons, List.map_nil]); first | done | rfl | (simp only [List.length_drop, List.length_take]; rfl)) ?_; (with_reducible refine (zBq.calls k a0_0 _ _ l0_1 _ _ l1 t181 t184 t185 _ ?side1 ?side2 ?side3 ?side4 A3.out).mono ?_); (case side1 => repeat (first | exact (Kd.zB1 HR0_1.out HB.out) | (with_reducible refine Kd.zAf ?_ _) | (with_reducible refine Kd.zAk ?_ _) | (with_reducible refine Kd.zAv ?_))); (case side2 => exact HC0_1.out); (case side3 => repeat (first | exact (Kd.zB1 HR1.out HB.out) | (with_reducible refine Kd.zAf ?_ _) | (with_reducible refine Kd.zAk ?_ _) | (with_reducible refine Kd.zAv ?_))); (case side4 => exact HC1.out); rintro e w9 ⟨v182, rfl, ho0, hb⟩; refine ⟨_, rfl, ?_⟩; have n0_ := zA1.mk (Kd.zCk ho0 (zAb (by repeat (first | (with_reducible first | exact HB.out | apply zA2 | apply zA0 | apply zA3 | refine zA4 ?_ GE180.out) | exact HB.out)))); have n1_ := zA1.mk (zAt (g := gb180) (o := .cells #[.int .i64 a0_0, .slice A0_1 l0_1.length c0_1] 28 (0, 0)) (by (with_reducible repeat (first | refine zA6 ?_ _ | refine zA8 ?_ | refine zA5 ?_ _)); exact BK180.out) hb); have n2_ := zA1.mk (zAe (by repeat (first | (with_reducible first | exact HB.out | apply zA2 | apply zA0 | apply zA3 | refine zA4 ?_ GE180.out) | exact HB.out)) hb); clear BK180; clear HB; have HO183 := n0_; have BK180 := n1_; have HB := n2_; clear n0_ n1_ n2_; (try clear hb); (try clear hb2); (try clear hk); (try clear hi); (try clear ho0); obtain ⟨Ao10, co10, eo10⟩ := Kd.zC5 HO183.out; subst eo10) | ((with_reducible refine zBc (f := 35) rfl ?_); refine zCf (some 24) rfl rfl Tryd.func35 (by kernel_rfl) rfl #[.slice Ao10 t181.length co10, .int .u64 t184] rfl (by (try simp only [List.map_toArray, List.map_cons, List.map_nil]); first | done | rfl | (simp only [List.length_drop, List.length_take]; rfl)) ?_; (with_reducible refine (zAr.calls k _ _ t181 t184 true _ ?side1 ?side2 ?side3 A5.out).mono ?_); (case side1 => repeat (first | exact (Kd.zAw HO183.out).2.2 | (with_reducible refine Kd.zAf ?_ _) | (with_reducible refine Kd.zAk ?_ _) | (with_reducible refine Kd.zAv ?_))); (case side2 => exact (Kd.zAw HO183.out).2.1); (case side3 => repeat (first | exact (Kd.zB1 HG.out HB.out) | (with_reducible refine Kd.zAf ?_ _) | (with_reducible refine Kd.zAk ?_ _) | (with_reducible refine Kd.zAv ?_))); rintro e w11 ⟨rfl, hb⟩; refine ⟨_, rfl, ?_⟩; have n0_ := zA1.mk (Kd.zBi (by (with_reducible repeat (first | apply Kd.zAi | apply Kd.zAh | apply Kd.zAp)); exact HO183.out) hb); have n1_ := zA1.mk (zAt (g := gb180) (o := .cells #[.int .i64 a0_0, .slice A0_1 l0_1.length c0_1] 28 (0, 0)) (by (with_reducible repeat (first | refine zA6 ?_ _ | refine zA8 ?_ | refine zA5 ?_ _)); exact BK180.out) hb); have n2_ := zA1.mk (zAe (by repeat (first | (with_reducible first | exact HB.out | apply zA2 | apply zA0 | apply zA3 | refine zA4 ?_ GE180.out) | exact HB.out)) hb); clear HO183; clear BK180; clear HB; have HO183 := n0_; have BK180 := n1_; have HB := n2_; clear n0_ n1_ n2_; (try clear hb); (try clear hb2); (try clear hk); (try clear hi)))
   go_loopg [9, 28] k (fun kq v9 v28 w' => ∃ (x9_1 : List Int) (x28_1 : Int), v28 = .int .i64 x28_1 ∧ zA1 (zB2.l0 kq l1 t181 t184 x9_1 l1 (l1.length : Int) x28_1 = some (r1, r2)) ∧ zA1 (kq ≤ k) ∧ zA1 (Kd.R (Kd.int .u64) 71 w' w.heap.size (fun _ => True) (.slice Ao10 t181.length co10) t181) ∧ zA1 (Kd.R (Kd.int .i64) 3 w' w.heap.size (fun _ => True) v9 x9_1) ∧ zA1 (w'.heap[gb180]? = some (.cells #[.int .i64 a0_0, (.slice A0_1 l0_1.length c0_1)] 28 (0, 0))) ∧ zA1 (Below w.heap.size w w'))
   case atStart => exact ⟨(([] : List Int)), (0), (by first | rfl | (simp; done) | (simp [*]; done)), H', ⟨Nat.le_refl _⟩, ⟨by (with_reducible repeat (first | apply Kd.zAi | apply Kd.zAh | apply Kd.zAp)); exact HO183.out⟩, ⟨by first | exact Kd.R_nil _ _ _ _ _ | exact Kd.N_nil _ _ _ _ _ | exact Kd.V_nil _ _ _ _ _ | exact Kd.Q_nil _ _ _ _ _ | exact Kd.S_nil _ _ _ _ _⟩, ⟨by (with_reducible repeat (first | refine zA6 ?_ _ | refine zA8 ?_ | refine zA5 ?_ _)); exact BK180.out⟩, ⟨by repeat (first | (with_reducible first | exact HB.out | apply zA2 | apply zA0 | apply zA3 | refine zA4 ?_ GE180.out) | exact HB.out)⟩⟩
   case round =>
    clear H'
    try clear c1
    try clear p2
    try clear c3
    try clear c4
    try clear c4b0
    try clear c4b1
    try clear c6
    try clear c11
    try clear hcz8_0
    try clear hcz8_1
    try clear hfz8_0
    try clear hfz8_1
    obtain ⟨x9_1, x28_1, rfl, HA, HK1, HO_6, HO_9, BK180, HB⟩ := hrel
    cases gk with
    | zero => exact absurd HA.out (by simp [zB2.l0])
    | succ k1 =>
     have H := HA.out
     clear HA
     simp only [zB2.l0] at H
     by_cases c12 : x28_1 < (l1.length : Int)
     ·rw [if_pos c12] at H
      have c12b0 : decide (x28_1 < (l1.length : Int)) = true := decide_eq_true c12
      clear c12
      by_cases c13 : 0 ≤ x28_1
      ·rw [if_pos c13] at H
       have c13b0 : decide (0 ≤ x28_1) = true := decide_eq_true c13
       clear c13
       by_cases c14 : x28_1 < (l1.length : Int)
       ·rw [if_pos c14] at H
        have c14b0 : decide (x28_1 < (l1.length : Int)) = true := decide_eq_true c14
        clear c14
        by_cases c15 : (l1.length : Int) > 2
        ·rw [if_pos c15] at H
         have c15b0 : decide (2 < (l1.length : Int)) = true := decide_eq_true c15
         have c15b1 : decide (2 < l1.length) = true := decide_eq_true (by omega)
         clear c15
         by_cases c16 : 0 ≤ (rd l1 x28_1)
         ·rw [if_pos c16] at H
          have c16b0 := eq_true c16
          have c16b1 : decide (0 ≤ (rd l1 x28_1)) = true := decide_eq_true c16
          clear c16
          obtain ⟨ji17, hji17⟩ : ∃ j_ : Int, (shl .u64 1 (rd l1 x28_1)) = j_ := ⟨_, rfl⟩
          replace H : ((zAr.f k1 t181 (Go.bits .andNot .u64 t184 (ji17))).bind fun t188 => (if t188 = true then (zB2.l0 k1 l1 t181 t184 x9_1 l1 (l1.length : Int) (wrap64 (x28_1 + 1))) else (if x9_1.length < 17592186044416 then (zB2.l0 k1 l1 t181 t184 (x9_1 ++ [rd l1 x28_1]) l1 (l1.length : Int) (wrap64 (x28_1 + 1))) else (none)))) = some (r1, r2) := by first | (rw [hji17] at H; exact H) | (simp only [hji17] at H ⊢; exact H)
          have hji17_ : (IntKind.u64.wrap (1 * 2 ^ min (rd l1 x28_1).toNat 64)) = ji17 := hji17
          have hji17z : (rd l1 x28_1) ≤ 64 → (IntKind.u64.wrap (1 * 2 ^ (rd l1 x28_1).toNat)) = ji17 := shl_small hji17
          have hji17u : (IntKind.u64.wrap (2 ^ min (rd l1 x28_1).toNat 64)) = ji17 := by have h_ := hji17_; rw [Int.one_mul] at h_; exact h_
          have hji17v : (rd l1 x28_1) ≤ 64 → (IntKind.u64.wrap (2 ^ (rd l1 x28_1).toNat)) = ji17 := fun hle_ => by have h_ := hji17z hle_; rw [Int.one_mul] at h_; exact h_
          replace H := Option.bind_eq_some_iff.mp H
          obtain ⟨t188, A180, H⟩ := H
          replace H : (if t188 = true then (zB2.l0 k1 l1 t181 t184 x9_1 l1 (l1.length : Int) (wrap64 (x28_1 + 1))) else (if x9_1.length < 17592186044416 then (zB2.l0 k1 l1 t181 t184 (x9_1 ++ [rd l1 x28_1]) l1 (l1.length : Int) (wrap64 (x28_1 + 1))) else (none))) = some (r1, r2) := H
          have A18 := zA1.mk A180
          clear A180
          by_cases c19 : t188 = true
          ·subst c19
           have H1 : (zB2.l0 k1 l1 t181 t184 x9_1 l1 (l1.length : Int) (wrap64 (x28_1 + 1))) = some (r1, r2) := by rw [if_pos rfl] at H; exact H
           clear H
           have H := H1
           clear H1
           have H' := zA1.mk H
           clear H
           have p187 : 0 ≤ (x28_1 : Int) := of_decide_eq_true (by first | (with_reducible assumption) | assumption)
           have q187 : x28_1 < (l1.length : Int) := of_decide_eq_true (by first | (with_reducible assumption) | assumption)
           obtain ⟨ad187, e187, hx187_0⟩ := Kd.zCb HR1.out x28_1 p187 q187
           cases e187
           replace hx187_0 := (HB.out.cell (World.block_lt_of_cell? w _ hx187_0)).trans hx187_0
           replace p187 := eq_true p187
           replace q187 := eq_true q187
           go_wp2_with (first | (go_at_call 35; (with_reducible refine (zAr.calls k1 _ _ t181 (Go.bits .andNot .u64 t184 (ji17)) true _ ?side1 ?side2 ?side3 A18.out).mono ?_); (case side1 => repeat (first | exact (Kd.zAw HO_6.out).2.2 | (with_reducible refine Kd.zAf ?_ _) | (with_reducible refine Kd.zAk ?_ _) | (with_reducible refine Kd.zAv ?_))); (case side2 => exact (Kd.zAw HO_6.out).2.1); (case side3 => repeat (first | exact (Kd.zB1 HG.out HB.out) | (with_reducible refine Kd.zAf ?_ _) | (with_reducible refine Kd.zAk ?_ _) | (with_reducible refine Kd.zAv ?_))); rintro e w20 ⟨rfl, hb⟩; have n0_ := zA1.mk (Kd.zBi (by (with_reducible repeat (first | apply Kd.zAi | apply Kd.zAh | apply Kd.zAp)); exact HO_6.out) hb); have n1_ := zA1.mk (Kd.zBi (by (with_reducible repeat (first | apply Kd.zAi | apply Kd.zAh | apply Kd.zAp)); exact HO_9.out) hb); have n2_ := zA1.mk (zAt (g := gb180) (o := .cells #[.int .i64 a0_0, .slice A0_1 l0_1.length c0_1] 28 (0, 0)) (by (with_reducible repeat (first | refine zA6 ?_ _ | refine zA8 ?_ | refine zA5 ?_ _)); exact BK180.out) hb); have n3_ := zA1.mk (zAe (by repeat (first | (with_reducible first | exact HB.out | apply zA2 | apply zA0 | apply zA3 | refine zA4 ?_ GE180.out) | exact HB.out)) hb); clear HO_6; clear HO_9; clear BK180; clear HB; have HO_6 := n0_; have HO_9 := n1_; have BK180 := n2_; have HB := n3_; clear n0_ n1_ n2_ n3_; (try clear hb); (try clear hb2); (try clear hk); (try clear hi)))
           go_roundg k1
           case measure => have := HK1.out; omega
           case rel => exact ⟨(x9_1), (wrap64 (x28_1 + 1)), (by first | rfl | (simp; done) | (simp [*]; done)), H', ⟨by have := HK1.out; omega⟩, ⟨by (with_reducible repeat (first | apply Kd.zAi | apply Kd.zAh | apply Kd.zAp)); exact HO_6.out⟩, ⟨by (with_reducible repeat (first | apply Kd.zAi | apply Kd.zAh | apply Kd.zAp)); exact HO_9.out⟩, ⟨by (with_reducible repeat (first | refine zA6 ?_ _ | refine zA8 ?_ | refine zA5 ?_ _)); exact BK180.out⟩, ⟨by repeat (first | (with_reducible first | exact HB.out | apply zA2 | apply zA0 | apply zA3 | refine zA4 ?_ GE180.out) | exact HB.out)⟩⟩
          ·replace c19 := Bool.eq_false_iff.mpr c19
           subst c19
           have H1 : (if x9_1.length < 17592186044416 then (zB2.l0 k1 l1 t181 t184 (x9_1 ++ [rd l1 x28_1]) l1 (l1.length : Int) (wrap64 (x28_1 + 1))) else (none)) = some (r1, r2) := by rw [if_neg (show ¬ (false = true) by decide)] at H; exact H
           clear H
           have H := H1
           clear H1
           by_cases c21 : x9_1.length < 17592186044416
           ·rw [if_pos c21] at H
            have LMc21 := zA1.mk c21
            clear c21
            obtain ⟨y189, hy189⟩ : ∃ y_ : List Int, y_ = (x9_1 ++ [rd l1 x28_1]) := ⟨_, rfl⟩
            replace H : (zB2.l0 k1 l1 t181 t184 y189 l1 (l1.length : Int) (wrap64 (x28_1 + 1))) = some (r1, r2) := by first | (rw [hy189]; with_reducible exact H) | (have H2_ := (Option.bind_some _ _).symm.trans H; rw [hy189]; with_reducible exact H2_) | (have H2_ := (Option.bind_some _ _).symm.trans H; with_reducible exact H2_) | with_reducible exact H | (rw [hy189]; exact H) | exact H
            have Ny189 := zA1.mk hy189
            clear hy189
            have H' := zA1.mk H
            clear H
            have p187 : 0 ≤ (x28_1 : Int) := of_decide_eq_true (by first | (with_reducible assumption) | assumption)
            have q187 : x28_1 < (l1.length : Int) := of_decide_eq_true (by first | (with_reducible assumption) | assumption)
            obtain ⟨ad187, e187, hx187_0⟩ := Kd.zCb HR1.out x28_1 p187 q187
            cases e187
            replace hx187_0 := (HB.out.cell (World.block_lt_of_cell? w _ hx187_0)).trans hx187_0
            replace p187 := eq_true p187
            replace q187 := eq_true q187
            go_wp2_with (first | (go_at_call 35; (with_reducible refine (zAr.calls k1 _ _ t181 (Go.bits .andNot .u64 t184 (ji17)) false _ ?side1 ?side2 ?side3 A18.out).mono ?_); (case side1 => repeat (first | exact (Kd.zAw HO_6.out).2.2 | (with_reducible refine Kd.zAf ?_ _) | (with_reducible refine Kd.zAk ?_ _) | (with_reducible refine Kd.zAv ?_))); (case side2 => exact (Kd.zAw HO_6.out).2.1); (case side3 => repeat (first | exact (Kd.zB1 HG.out HB.out) | (with_reducible refine Kd.zAf ?_ _) | (with_reducible refine Kd.zAk ?_ _) | (with_reducible refine Kd.zAv ?_))); rintro e w22 ⟨rfl, hb⟩; have n0_ := zA1.mk (Kd.zBi (by (with_reducible repeat (first | apply Kd.zAi | apply Kd.zAh | apply Kd.zAp)); exact HO_6.out) hb); have n1_ := zA1.mk (Kd.zBi (by (with_reducible repeat (first | apply Kd.zAi | apply Kd.zAh | apply Kd.zAp)); exact HO_9.out) hb); have n2_ := zA1.mk (zAt (g := gb180) (o := .cells #[.int .i64 a0_0, .slice A0_1 l0_1.length c0_1] 28 (0, 0)) (by (with_reducible repeat (first | refine zA6 ?_ _ | refine zA8 ?_ | refine zA5 ?_ _)); exact BK180.out) hb); have n3_ := zA1.mk (zAe (by repeat (first | (with_reducible first | exact HB.out | apply zA2 | apply zA0 | apply zA3 | refine zA4 ?_ GE180.out) | exact HB.out)) hb); clear HO_6; clear HO_9; clear BK180; clear HB; have HO_6 := n0_; have HO_9 := n1_; have BK180 := n2_; have HB := n3_; clear n0_ n1_ n2_ n3_; (try clear hb); (try clear hb2); (try clear hk); (try clear hi)) | ((with_reducible refine zCg (b := .append) (xs := #[.tmp 44, .tmp 46]) rfl ?_); at_builtin; refine Kd.R_append (Kd.int .i64) (w0 := w) w.heap.size rfl (.tmp 44) (.tmp 46) 23 3 (.int .i64 0) 8 rfl Tryd.underlying23 info3 rfl (by decide) (by omega) u9 x9_1 (rd l1 x28_1) [.int .i64 (rd l1 x28_1)] (fun _ => True) (fun _ => False) rfl rfl ?aP (fun _ hk => hk.elim) ?aF ?aO ?aB ?aS ?aL ?_; (case aP => exact rfl); (case aB => exact (by repeat (first | (with_reducible first | exact HB.out | apply zA2 | apply zA0 | apply zA3 | refine zA4 ?_ GE180.out) | exact HB.out))); (case aF => exact (fun _ _ => trivial)); (case aO => exact (by (with_reducible repeat (first | apply Kd.zAi | apply Kd.zAh | apply Kd.zAp)); exact HO_9.out)); (case aS => exact (zAb (by repeat (first | (with_reducible first | exact HB.out | apply zA2 | apply zA0 | apply zA3 | refine zA4 ?_ GE180.out) | exact HB.out)))); (case aL => have := LMc21.out; omega); intro v190 w23 ho hb hg hat; rw [← Ny189.out] at ho; have n0_ := zA1.mk (Kd.R_over' (by (with_reducible repeat (first | apply Kd.zAi | apply Kd.zAh | apply Kd.zAp)); exact HO_6.out) (Kd.R_typed (by (with_reducible repeat (first | apply Kd.zAi | apply Kd.zAh | apply Kd.zAp)); exact HO_9.out)) (by decide) hg); have n1_ := zA1.mk (blk_grown (g := gb180) (o := .cells #[.int .i64 a0_0, .slice A0_1 l0_1.length c0_1] 28 (0, 0)) (by (with_reducible repeat (first | refine zA6 ?_ _ | refine zA8 ?_ | refine zA5 ?_ _)); exact BK180.out) hg (Kd.R_ne HO_9.out BK180.out (by decide))); have n2_ := zA1.mk (hb); have n3_ := zA1.mk (ho); clear HO_6; clear BK180; clear HB; clear HO_9; have HO_6 := n0_; have BK180 := n1_; have HB := n2_; have HO191 := n3_; clear n0_ n1_ n2_ n3_; clear ho hb hg hat))
            go_roundg k1
            case measure => have := HK1.out; omega
            case rel => exact ⟨(y189), (wrap64 (x28_1 + 1)), (by first | rfl | (simp; done) | (simp [*]; done)), H', ⟨by have := HK1.out; omega⟩, ⟨by (with_reducible repeat (first | apply Kd.zAi | apply Kd.zAh | apply Kd.zAp)); exact HO_6.out⟩, ⟨by (with_reducible repeat (first | apply Kd.zAi | apply Kd.zAh | apply Kd.zAp)); exact HO191.out⟩, ⟨by (with_reducible repeat (first | refine zA6 ?_ _ | refine zA8 ?_ | refine zA5 ?_ _)); exact BK180.out⟩, ⟨by repeat (first | (with_reducible first | exact HB.out | apply zA2 | apply zA0 | apply zA3 | refine zA4 ?_ GE180.out) | exact HB.out)⟩⟩
           ·rw [if_neg c21] at H
            exact absurd H (by simp)
         ·rw [if_neg c16] at H
          exact absurd H (by simp)
        ·rw [if_neg c15] at H
         have c15b0 : decide (2 < (l1.length : Int)) = false := decide_eq_false c15
         have c15b1 : decide (2 < l1.length) = false := decide_eq_false (by omega)
         clear c15
         have H' := zA1.mk H
         clear H
         have p187 : 0 ≤ (x28_1 : Int) := of_decide_eq_true (by first | (with_reducible assumption) | assumption)
         have q187 : x28_1 < (l1.length : Int) := of_decide_eq_true (by first | (with_reducible assumption) | assumption)
         obtain ⟨ad187, e187, hx187_0⟩ := Kd.zCb HR1.out x28_1 p187 q187
         cases e187
         replace hx187_0 := (HB.out.cell (World.block_lt_of_cell? w _ hx187_0)).trans hx187_0
         replace p187 := eq_true p187
         replace q187 := eq_true q187
         go_wp2
         go_roundg k1
         case measure => have := HK1.out; omega
         case rel => exact ⟨(x9_1), (wrap64 (x28_1 + 1)), (by first | rfl | (simp; done) | (simp [*]; done)), H', ⟨by have := HK1.out; omega⟩, ⟨by (with_reducible repeat (first | apply Kd.zAi | apply Kd.zAh | apply Kd.zAp)); exact HO_6.out⟩, ⟨by (with_reducible repeat (first | apply Kd.zAi | apply Kd.zAh | apply Kd.zAp)); exact HO_9.out⟩, ⟨by (with_reducible repeat (first | refine zA6 ?_ _ | refine zA8 ?_ | refine zA5 ?_ _)); exact BK180.out⟩, ⟨by repeat (first | (with_reducible first | exact HB.out | apply zA2 | apply zA0 | apply zA3 | refine zA4 ?_ GE180.out) | exact HB.out)⟩⟩
       ·rw [if_neg c14] at H
        exact absurd H (by simp)
      ·rw [if_neg c13] at H
       exact absurd H (by simp)
     ·rw [if_neg c12] at H
      have c12b0 : decide (x28_1 < (l1.length : Int)) = false := decide_eq_false c12
      clear c12
      simp only [Option.some.injEq, Prod.mk.injEq] at H
      obtain ⟨rfl, rfl⟩ := H
      go_wp2
      go_ret2
      exact ⟨_, by first | rfl | (simp [zAy, zAx] <;> rfl) | (simp [*, zAy, zAx] <;> rfl), by (with_reducible repeat (first | apply Kd.zAi | apply Kd.zAh | apply Kd.zAp)); exact HO_9.out, by repeat (first | (with_reducible first | exact HB.out | apply zA2 | apply zA0 | apply zA3 | refine zA4 ?_ GE180.out) | exact HB.out)⟩
  ·replace c6 := Bool.eq_false_iff.mpr c6
   subst c6
   have H1 : (some (([] : List Int), 17)) = some (r1, r2) := by rw [if_neg (show ¬ (false = true) by decide)] at H; exact H
   clear H
   have H := H1
   clear H1
   simp only [Option.some.injEq, Prod.mk.injEq] at H
   obtain ⟨rfl, rfl⟩ := H
   go_enter Tryd.func11, Tryd.ntmps11
   go_wp2_with (first | ((with_reducible refine zBk (N := 2) rfl ?_); refine zBj ?hg (N := 2) ?hd (cs := #[.int .i64 a0_0, .slice A0_1 l0_1.length c0_1]) (t := 28) ?hr ?_; (case hd => rfl); (case hg => rfl); (case hr => first | (go_simp; done) | (go_simp; rfl)); intro gb180 hg w24 hbox hb; have n0_ := zA1.mk (zAe (by repeat (first | (with_reducible first | exact HB.out | apply zA2 | apply zA0 | apply zA3) | exact HB.out)) hb); have n1_ := zA1.mk (hbox); have n2_ := zA1.mk ((by rw [hg]; exact (zAb (by repeat (first | (with_reducible first | exact HB.out | apply zA2 | apply zA0 | apply zA3) | exact HB.out))) : w.heap.size ≤ gb180)); have n3_ := zA1.mk ((by rw [hg]; exact (zAb (by repeat (first | (with_reducible first | exact HB.out | apply zA2 | apply zA0 | apply zA3) | exact HB.out))) : w.heap.size ≤ gb180)); clear HB; have HB := n0_; have BK180 := n1_; have GW180 := n2_; have GE180 := n3_; clear n0_ n1_ n2_ n3_; clear hb hbox hg; have hcz25_0 : w24.cell? ⟨gb180, 0, none⟩ = some (.int .i64 a0_0) := (zA9 BK180.out 0).trans rfl; have hcz25_1 : w24.cell? ⟨gb180, 1, none⟩ = some (.slice A0_1 l0_1.length c0_1) := (zA9 BK180.out 1).trans rfl; have hfz25_0 := zAd BK180.out 0; have hfz25_1 := zAd BK180.out 1) | ((with_reducible refine zBc (f := 34) rfl ?_); refine zCf (some 15) rfl rfl Tryd.func34 (by kernel_rfl) rfl #[.agg #[.int .i64 a0_0, .slice A0_1 l0_1.length c0_1], .slice A1 l1.length c1] rfl (by (try simp only [List.map_toArray, List.map_cons, List.map_nil]); first | done | rfl | (simp only [List.length_drop, List.length_take]; rfl)) ?_; (with_reducible refine (zBq.calls k a0_0 _ _ l0_1 _ _ l1 t181 t184 t185 _ ?side1 ?side2 ?side3 ?side4 A3.out).mono ?_); (case side1 => repeat (first | exact (Kd.zB1 HR0_1.out HB.out) | (with_reducible refine Kd.zAf ?_ _) | (with_reducible refine Kd.zAk ?_ _) | (with_reducible refine Kd.zAv ?_))); (case side2 => exact HC0_1.out); (case side3 => repeat (first | exact (Kd.zB1 HR1.out HB.out) | (with_reducible refine Kd.zAf ?_ _) | (with_reducible refine Kd.zAk ?_ _) | (with_reducible refine Kd.zAv ?_))); (case side4 => exact HC1.out); rintro e w26 ⟨v182, rfl, ho0, hb⟩; refine ⟨_, rfl, ?_⟩; have n0_ := zA1.mk (Kd.zCk ho0 (zAb (by repeat (first | (with_reducible first | exact HB.out | apply zA2 | apply zA0 | apply zA3 | refine zA4 ?_ GE180.out) | exact HB.out)))); have n1_ := zA1.mk (zAt (g := gb180) (o := .cells #[.int .i64 a0_0, .slice A0_1 l0_1.length c0_1] 28 (0, 0)) (by (with_reducible repeat (first | refine zA6 ?_ _ | refine zA8 ?_ | refine zA5 ?_ _)); exact BK180.out) hb); have n2_ := zA1.mk (zAe (by repeat (first | (with_reducible first | exact HB.out | apply zA2 | apply zA0 | apply zA3 | refine zA4 ?_ GE180.out) | exact HB.out)) hb); clear BK180; clear HB; have HO183 := n0_; have BK180 := n1_; have HB := n2_; clear n0_ n1_ n2_; (try clear hb); (try clear hb2); (try clear hk); (try clear hi); (try clear ho0); obtain ⟨Ao27, co27, eo27⟩ := Kd.zC5 HO183.out; subst eo27) | ((with_reducible refine zBc (f := 35) rfl ?_); refine zCf (some 24) rfl rfl Tryd.func35 (by kernel_rfl) rfl #[.slice Ao27 t181.length co27, .int .u64 t184] rfl (by (try simp only [List.map_toArray, List.map_cons, List.map_nil]); first | done | rfl | (simp only [List.length_drop, List.length_take]; rfl)) ?_; (with_reducible refine (zAr.calls k _ _ t181 t184 false _ ?side1 ?side2 ?side3 A5.out).mono ?_); (case side1 => repeat (first | exact (Kd.zAw HO183.out).2.2 | (with_reducible refine Kd.zAf ?_ _) | (with_reducible refine Kd.zAk ?_ _) | (with_reducible refine Kd.zAv ?_))); (case side2 => exact (Kd.zAw HO183.out).2.1); (case side3 => repeat (first | exact (Kd.zB1 HG.out HB.out) | (with_reducible refine Kd.zAf ?_ _) | (with_reducible refine Kd.zAk ?_ _) | (with_reducible refine Kd.zAv ?_))); rintro e w28 ⟨rfl, hb⟩; refine ⟨_, rfl, ?_⟩; have n0_ := zA1.mk (Kd.zBi (by (with_reducible repeat (first | apply Kd.zAi | apply Kd.zAh | apply Kd.zAp)); exact HO183.out) hb); have n1_ := zA1.mk (zAt (g := gb180) (o := .cells #[.int .i64 a0_0, .slice A0_1 l0_1.length c0_1] 28 (0, 0)) (by (with_reducible repeat (first | refine zA6 ?_ _ | refine zA8 ?_ | refine zA5 ?_ _)); exact BK180.out) hb); have n2_ := zA1.mk (zAe (by repeat (first | (with_reducible first | exact HB.out | apply zA2 | apply zA0 | apply zA3 | refine zA4 ?_ GE180.out) | exact HB.out)) hb); clear HO183; clear BK180; clear HB; have HO183 := n0_; have BK180 := n1_; have HB := n2_; clear n0_ n1_ n2_; (try clear hb); (try clear hb2); (try clear hk); (try clear hi)))
   go_ret2
   exact ⟨_, by first | rfl | (simp [zAy, zAx] <;> rfl) | (simp [*, zAy, zAx] <;> rfl), by first | exact Kd.R_nil _ _ _ _ _ | exact Kd.N_nil _ _ _ _ _ | exact Kd.V_nil _ _ _ _ _ | exact Kd.Q_nil _ _ _ _ _ | exact Kd.S_nil _ _ _ _ _, by repeat (first | (with_reducible first | exact HB.out | apply zA2 | apply zA0 | apply zA3 | refine zA4 ?_ GE180.out) | exact HB.out)⟩
 ·rw [if_neg c4] at H
  have c4b0 : (t185 == 0) = false := beq_eq_false_iff_ne.mpr c4
  have c4b1 : (t185 != 0) = true := bne_iff_ne.mpr c4
  simp only [Option.some.injEq, Prod.mk.injEq] at H
  obtain ⟨rfl, rfl⟩ := H
  go_enter Tryd.func11, Tryd.ntmps11
  go_wp2_with (first | ((with_reducible refine zBk (N := 2) rfl ?_); refine zBj ?hg (N := 2) ?hd (cs := #[.int .i64 a0_0, .slice A0_1 l0_1.length c0_1]) (t := 28) ?hr ?_; (case hd => rfl); (case hg => rfl); (case hr => first | (go_simp; done) | (go_simp; rfl)); intro gb180 hg w29 hbox hb; have n0_ := zA1.mk (zAe (by repeat (first | (with_reducible first | exact HB.out | apply zA2 | apply zA0 | apply zA3) | exact HB.out)) hb); have n1_ := zA1.mk (hbox); have n2_ := zA1.mk ((by rw [hg]; exact (zAb (by repeat (first | (with_reducible first | exact HB.out | apply zA2 | apply zA0 | apply zA3) | exact HB.out))) : w.heap.size ≤ gb180)); have n3_ := zA1.mk ((by rw [hg]; exact (zAb (by repeat (first | (with_reducible first | exact HB.out | apply zA2 | apply zA0 | apply zA3) | exact HB.out))) : w.heap.size ≤ gb180)); clear HB; have HB := n0_; have BK180 := n1_; have GW180 := n2_; have GE180 := n3_; clear n0_ n1_ n2_ n3_; clear hb hbox hg; have hcz30_0 : w29.cell? ⟨gb180, 0, none⟩ = some (.int .i64 a0_0) := (zA9 BK180.out 0).trans rfl; have hcz30_1 : w29.cell? ⟨gb180, 1, none⟩ = some (.slice A0_1 l0_1.length c0_1) := (zA9 BK180.out 1).trans rfl; have hfz30_0 := zAd BK180.out 0; have hfz30_1 := zAd BK180.out 1) | ((with_reducible refine zBc (f := 34) rfl ?_); refine zCf (some 15) rfl rfl Tryd.func34 (by kernel_rfl) rfl #[.agg #[.int .i64 a0_0, .slice A0_1 l0_1.length c0_1], .slice A1 l1.length c1] rfl (by (try simp only [List.map_toArray, List.map_cons, List.map_nil]); first | done | rfl | (simp only [List.length_drop, List.length_take]; rfl)) ?_; (with_reducible refine (zBq.calls k a0_0 _ _ l0_1 _ _ l1 t181 t184 t185 _ ?side1 ?side2 ?side3 ?side4 A3.out).mono ?_); (case side1 => repeat (first | exact (Kd.zB1 HR0_1.out HB.out) | (with_reducible refine Kd.zAf ?_ _) | (with_reducible refine Kd.zAk ?_ _) | (with_reducible refine Kd.zAv ?_))); (case side2 => exact HC0_1.out); (case side3 => repeat (first | exact (Kd.zB1 HR1.out HB.out) | (with_reducible refine Kd.zAf ?_ _) | (with_reducible refine Kd.zAk ?_ _) | (with_reducible refine Kd.zAv ?_))); (case side4 => exact HC1.out); rintro e w31 ⟨v182, rfl, ho0, hb⟩; refine ⟨_, rfl, ?_⟩; have n0_ := zA1.mk (Kd.zCk ho0 (zAb (by repeat (first | (with_reducible first | exact HB.out | apply zA2 | apply zA0 | apply zA3 | refine zA4 ?_ GE180.out) | exact HB.out)))); have n1_ := zA1.mk (zAt (g := gb180) (o := .cells #[.int .i64 a0_0, .slice A0_1 l0_1.length c0_1] 28 (0, 0)) (by (with_reducible repeat (first | refine zA6 ?_ _ | refine zA8 ?_ | refine zA5 ?_ _)); exact BK180.out) hb); have n2_ := zA1.mk (zAe (by repeat (first | (with_reducible first | exact HB.out | apply zA2 | apply zA0 | apply zA3 | refine zA4 ?_ GE180.out) | exact HB.out)) hb); clear BK180; clear HB; have HO183 := n0_; have BK180 := n1_; have HB := n2_; clear n0_ n1_ n2_; (try clear hb); (try clear hb2); (try clear hk); (try clear hi); (try clear ho0)))
  go_ret2
  exact ⟨_, by first | rfl | (simp [zAy, zAx] <;> rfl) | (simp [*, zAy, zAx] <;> rfl), by first | exact Kd.R_nil _ _ _ _ _ | exact Kd.N_nil _ _ _ _ _ | exact Kd.V_nil _ _ _ _ _ | exact Kd.Q_nil _ _ _ _ _ | exact Kd.S_nil _ _ _ _ _, by repeat (first | (with_reducible first | exact HB.out | apply zA2 | apply zA0 | apply zA3 | refine zA4 ?_ GE180.out) | exact HB.out)⟩
end
end Go.Proofs.YtbghfbhlbfcloaaDoor.PL
namespace Go.Proofs.YtbghfbhlbfcloaaDoor.PL
section
open Go.RowKit Go.Proofs.YtbghfbhlbfcloaaDoorW.PrintWords Go.Proofs.YtbghfbhlbfcloaaDoorW.PrintLast Go.Proofs.YtbghfbhlbfcloaaDoorW.PrintMore
attribute [local go_sem] zC2 zC0 zC9 zC8 zBs zBr zC1 zBz   -- for this text's walks alone
set_option linter.unusedVariables false
set_option linter.unusedSimpArgs false
/-! ### zBn: function 17 -/
def zBn.l0 : Nat → List Int → Int → List (List Int) → Option ((List (List Int)) × Int)
 | 0, _, _, _ => none
 | k + 1, x6, x7, x9 => if x7 = 0 then (some (x9, 0)) else ((zAl.f k x6 x7).bind fun t357 => ((zBe.f k t357).bind fun t358 => (if x9.length < 5864062014805 then (zBn.l0 k x6 (Go.bits .andNot .u64 x7 t357) (x9 ++ [t358])) else (none))))
def zBn.f (k : Nat) (a0_0 : Int) (l0_1 : List (S68)) (l1 : List Int) : Option ((List (List Int)) × Int) := (zBq.f k a0_0 l0_1 l1).bind fun bt352 => (if bt352.2.2 = 0 then (zBn.l0 k bt352.1 bt352.2.1 ([] : List (List Int))) else (some (([] : List (List Int)), bt352.2.2)))
theorem zBn.zBx : ∀ k, (∀ y0 y1 y2, LeO (zBn.l0 k y0 y1 y2) (zBn.l0 (k + 1) y0 y1 y2))
 | 0 => fun _ _ _ r h => by simp [zBn.l0] at h
 | k + 1 => by
  have ih0 := zBn.zBx k
  ·intro y0 y1 y2
   unfold zBn.l0
   repeat' first
   | (with_reducible exact ih0 _ _ _)
   | (with_reducible exact zAl.mono _ _ _)
   | (with_reducible exact zBe.mono _ _)
   | (with_reducible exact zBq.mono _ _ _ _)
   | (with_reducible exact LeO.refl _)
   | (with_reducible exact LeO.none _)
   | (with_reducible refine LeO.ite ?_ ?_)
   | (with_reducible refine LeO.bind ?_ (fun _ => ?_))
theorem zBn.mono : ∀ a0 a1 a2 k, LeO (zBn.f k a0 a1 a2) (zBn.f (k + 1) a0 a1 a2) := by
 intro a0 a1 a2 k
 have ih0 := zBn.zBx k
 unfold zBn.f
 repeat' first
   | (with_reducible exact ih0 _ _ _)
   | (with_reducible exact zAl.mono _ _ _)
   | (with_reducible exact zBe.mono _ _)
   | (with_reducible exact zBq.mono _ _ _ _)
   | (with_reducible exact LeO.refl _)
   | (with_reducible exact LeO.none _)
   | (with_reducible refine LeO.ite ?_ ?_)
   | (with_reducible refine LeO.bind ?_ (fun _ => ?_))
set_option maxHeartbeats 8000000 in
set_option maxRecDepth 100000 in
theorem zBn.calls (k : Nat) (a0_0 : Int) (A0_1 : Option Addr) (c0_1 : Nat) (l0_1 : List (S68)) (A1 : Option Addr) (c1 : Nat) (l1 : List Int) (r1 : List (List Int)) (r2 : Int) (w : World) (hr0_1 : Kd.C k68 w A0_1 l0_1.length l0_1) (hc0_1 : l0_1.length ≤ c0_1) (hr1 : Kd.C (Kd.int .i64) w A1 l1.length l1) (hc1 : l1.length ≤ c1) (hG : Kd.C (Kd.int .u8) w (some tabA) tabL.length tabL) (h : zBn.f k a0_0 l0_1 l1 = some (r1, r2)) :
  Calls Tryd.prog 17 #[.agg #[.int .i64 a0_0, .slice A0_1 l0_1.length c0_1], .slice A1 l1.length c1] w fun e w' => ∃ v0_ : Value, e = .returned (.tuple #[v0_, .int .i64 r2]) ∧ Kd.S (Kd.slice 3 (Kd.int .i64)) 23 w' w.heap.size (fun _ => True) v0_ r1 ∧ Below w.heap.size w w' := by
 have hu28 := Tryd.underlying28
 have HR0_1 := zA1.mk hr0_1
 have HC0_1 := zA1.mk hc0_1
 clear hr0_1 hc0_1
 have HR1 := zA1.mk hr1
 have HC1 := zA1.mk hc1
 clear hr1 hc1
 have HB := zA1.mk (Below.refl w.heap.size w)
 have HG := zA1.mk hG
 clear hG
 have H : ((zBq.f k a0_0 l0_1 l1).bind fun bt352 => (if bt352.2.2 = 0 then (zBn.l0 k bt352.1 bt352.2.1 ([] : List (List Int))) else (some (([] : List (List Int)), bt352.2.2)))) = some (r1, r2) := h
 clear h
 replace H := Option.bind_eq_some_iff.mp H
 obtain ⟨⟨t352, t355, t356⟩, A30, H⟩ := H
 replace H : (if t356 = 0 then (zBn.l0 k t352 t355 ([] : List (List Int))) else (some (([] : List (List Int)), t356))) = some (r1, r2) := H
 have A3 := zA1.mk A30
 clear A30
 by_cases c4 : t356 = 0
 ·rw [if_pos c4] at H
  have c4b0 : (t356 == 0) = true := beq_iff_eq.mpr c4
  have c4b1 : (t356 != 0) = false := bne_eq_false_iff_eq.mpr c4
  clear c4
  have H' := zA1.mk H
  clear H
  go_enter Tryd.func17, Tryd.ntmps17
  go_wp2_with (first | ((with_reducible refine zBk (N := 2) rfl ?_); refine zBj ?hg (N := 2) ?hd (cs := #[.int .i64 a0_0, .slice A0_1 l0_1.length c0_1]) (t := 28) ?hr ?_; (case hd => rfl); (case hg => rfl); (case hr => first | (go_simp; done) | (go_simp; rfl)); intro gb351 hg w5 hbox hb; have n0_ := zA1.mk (zAe (by repeat (first | (with_reducible first | exact HB.out | apply zA2 | apply zA0 | apply zA3) | exact HB.out)) hb); have n1_ := zA1.mk (hbox); have n2_ := zA1.mk ((by rw [hg]; exact (zAb (by repeat (first | (with_reducible first | exact HB.out | apply zA2 | apply zA0 | apply zA3) | exact HB.out))) : w.heap.size ≤ gb351)); have n3_ := zA1.mk ((by rw [hg]; exact (zAb (by repeat (first | (with_reducible first | exact HB.out | apply zA2 | apply zA0 | apply zA3) | exact HB.out))) : w.heap.size ≤ gb351)); clear HB; have HB := n0_; have BK351 := n1_; have GW351 := n2_; have GE351 := n3_; clear n0_ n1_ n2_ n3_; clear hb hbox hg; have hcz6_0 : w5.cell? ⟨gb351, 0, none⟩ = some (.int .i64 a0_0) := (zA9 BK351.out 0).trans rfl; have hcz6_1 : w5.cell? ⟨gb351, 1, none⟩ = some (.slice A0_1 l0_1.length c0_1) := (zA9 BK351.out 1).trans rfl; have hfz6_0 := zAd BK351.out 0; have hfz6_1 := zAd BK351.out 1) | ((with_reducible refine zBc (f := 34) rfl ?_); refine zCf (some 14) rfl rfl Tryd.func34 (by kernel_rfl) rfl #[.agg #[.int .i64 a0_0, .slice A0_1 l0_1.length c0_1], .slice A1 l1.length c1] rfl (by (try simp only [List.map_toArray, List.map_cons, List.map_nil]); first | done | rfl | (simp only [List.length_drop, List.length_take]; rfl)) ?_; (with_reducible refine (zBq.calls k a0_0 _ _ l0_1 _ _ l1 t352 t355 t356 _ ?side1 ?side2 ?side3 ?side4 A3.out).mono ?_); (case side1 => repeat (first | exact (Kd.zB1 HR0_1.out HB.out) | (with_reducible refine Kd.zAf ?_ _) | (with_reducible refine Kd.zAk ?_ _) | (with_reducible refine Kd.zAv ?_))); (case side2 => exact HC0_1.out); (case side3 => repeat (first | exact (Kd.zB1 HR1.out HB.out) | (with_reducible refine Kd.zAf ?_ _) | (with_reducible refine Kd.zAk ?_ _) | (with_reducible refine Kd.zAv ?_))); (case side4 => exact HC1.out); rintro e w7 ⟨v353, rfl, ho0, hb⟩; refine ⟨_, rfl, ?_⟩; have n0_ := zA1.mk (Kd.zCk ho0 (zAb (by repeat (first | (with_reducible first | exact HB.out | apply zA2 | apply zA0 | apply zA3 | refine zA4 ?_ GE351.out) | exact HB.out)))); have n1_ := zA1.mk (zAt (g := gb351) (o := .cells #[.int .i64 a0_0, .slice A0_1 l0_1.length c0_1] 28 (0, 0)) (by (with_reducible repeat (first | refine zA6 ?_ _ | refine zA8 ?_ | refine zA5 ?_ _)); exact BK351.out) hb); have n2_ := zA1.mk (zAe (by repeat (first | (with_reducible first | exact HB.out | apply zA2 | apply zA0 | apply zA3 | refine zA4 ?_ GE351.out) | exact HB.out)) hb); clear BK351; clear HB; have HO354 := n0_; have BK351 := n1_; have HB := n2_; clear n0_ n1_ n2_; (try clear hb); (try clear hb2); (try clear hk); (try clear hi); (try clear ho0)))
  go_loopg [7, 9] k (fun kq v7 v9 w' => ∃ (x7_1 : Int) (x9_1 : List (List Int)), v7 = .int .u64 x7_1 ∧ zA1 (zBn.l0 kq t352 x7_1 x9_1 = some (r1, r2)) ∧ zA1 (kq ≤ k) ∧ zA1 (Kd.R (Kd.int .u64) 71 w' w.heap.size (fun _ => True) v353 t352) ∧ zA1 (Kd.S (Kd.slice 3 (Kd.int .i64)) 23 w' w.heap.size (fun _ => True) v9 x9_1) ∧ zA1 (w'.heap[gb351]? = some (.cells #[.int .i64 a0_0, (.slice A0_1 l0_1.length c0_1)] 28 (0, 0))) ∧ zA1 (Below w.heap.size w w'))
  case atStart => exact ⟨(t355), (([] : List (List Int))), (by first | rfl | (simp; done) | (simp [*]; done)), H', ⟨Nat.le_refl _⟩, ⟨by (with_reducible repeat (first | apply Kd.zAi | apply Kd.zAh | apply Kd.zAp)); exact HO354.out⟩, ⟨by first | exact Kd.S_nil _ _ _ _ _ | exact Kd.N_nil _ _ _ _ _ | exact Kd.V_nil _ _ _ _ _ | exact Kd.Q_nil _ _ _ _ _ | exact Kd.R_nil _ _ _ _ _⟩, ⟨by (with_reducible repeat (first | refine zA6 ?_ _ | refine zA8 ?_ | refine zA5 ?_ _)); exact BK351.out⟩, ⟨by repeat (first | (with_reducible first | exact HB.out | apply zA2 | apply zA0 | apply zA3 | refine zA4 ?_ GE351.out) | exact HB.out)⟩⟩
  case round =>
   clear H'
   try clear c1
   try clear p2
   try clear c3
   try clear c4
   try clear c4b0
   try clear c4b1
   try clear hcz6_0
   try clear hcz6_1
   try clear hfz6_0
   try clear hfz6_1
   obtain ⟨x7_1, x9_1, rfl, HA, HK1, HO_6, HO_9, BK351, HB⟩ := hrel
   cases gk with
   | zero => exact absurd HA.out (by simp [zBn.l0])
   | succ k1 =>
    have H := HA.out
    clear HA
    simp only [zBn.l0] at H
    by_cases c8 : x7_1 = 0
    ·rw [if_pos c8] at H
     have c8b0 : (x7_1 == 0) = true := beq_iff_eq.mpr c8
     have c8b1 : (x7_1 != 0) = false := bne_eq_false_iff_eq.mpr c8
     clear c8
     simp only [Option.some.injEq, Prod.mk.injEq] at H
     obtain ⟨rfl, rfl⟩ := H
     go_wp2
     go_ret2
     exact ⟨_, by first | rfl | (simp [zAy, zAx] <;> rfl) | (simp [*, zAy, zAx] <;> rfl), by (with_reducible repeat (first | apply Kd.S_alloc | apply Kd.S_drewN | apply Kd.S_drew)); exact HO_9.out, by repeat (first | (with_reducible first | exact HB.out | apply zA2 | apply zA0 | apply zA3 | refine zA4 ?_ GE351.out) | exact HB.out)⟩
    ·rw [if_neg c8] at H
     have c8b0 : (x7_1 == 0) = false := beq_eq_false_iff_ne.mpr c8
     have c8b1 : (x7_1 != 0) = true := bne_iff_ne.mpr c8
     replace H := Option.bind_eq_some_iff.mp H
     obtain ⟨t357, A90, H⟩ := H
     replace H : ((zBe.f k1 t357).bind fun t358 => (if x9_1.length < 5864062014805 then (zBn.l0 k1 t352 (Go.bits .andNot .u64 x7_1 t357) (x9_1 ++ [t358])) else (none))) = some (r1, r2) := H
     have A9 := zA1.mk A90
     clear A90
     replace H := Option.bind_eq_some_iff.mp H
     obtain ⟨t358, A100, H⟩ := H
     replace H : (if x9_1.length < 5864062014805 then (zBn.l0 k1 t352 (Go.bits .andNot .u64 x7_1 t357) (x9_1 ++ [t358])) else (none)) = some (r1, r2) := H
     have A10 := zA1.mk A100
     clear A100
     by_cases c11 : x9_1.length < 5864062014805
     ·rw [if_pos c11] at H
      have LMc11 := zA1.mk c11
      clear c11
      obtain ⟨y361, hy361⟩ : ∃ y_ : List (List Int), y_ = (x9_1 ++ [t358]) := ⟨_, rfl⟩
      replace H : (zBn.l0 k1 t352 (Go.bits .andNot .u64 x7_1 t357) y361) = some (r1, r2) := by first | (rw [hy361]; with_reducible exact H) | (have H2_ := (Option.bind_some _ _).symm.trans H; rw [hy361]; with_reducible exact H2_) | (have H2_ := (Option.bind_some _ _).symm.trans H; with_reducible exact H2_) | with_reducible exact H | (rw [hy361]; exact H) | exact H
      have Ny361 := zA1.mk hy361
      clear hy361
      have H' := zA1.mk H
      clear H
      obtain ⟨Ao12, co12, eo12⟩ := Kd.zC5 HO_6.out
      subst eo12
      go_wp2_with (first | ((with_reducible refine zBc (f := 44) rfl ?_); refine zCf (some 25) rfl rfl Tryd.func44 (by kernel_rfl) rfl #[.slice Ao12 t352.length co12, .int .u64 x7_1] rfl (by (try simp only [List.map_toArray, List.map_cons, List.map_nil]); first | done | rfl | (simp only [List.length_drop, List.length_take]; rfl)) ?_; (with_reducible refine (zAl.calls k1 _ _ t352 x7_1 t357 _ ?side1 ?side2 ?side3 A9.out).mono ?_); (case side1 => repeat (first | exact (Kd.zAw HO_6.out).2.2 | (with_reducible refine Kd.zAf ?_ _) | (with_reducible refine Kd.zAk ?_ _) | (with_reducible refine Kd.zAv ?_))); (case side2 => exact (Kd.zAw HO_6.out).2.1); (case side3 => repeat (first | exact (Kd.zB1 HG.out HB.out) | (with_reducible refine Kd.zAf ?_ _) | (with_reducible refine Kd.zAk ?_ _) | (with_reducible refine Kd.zAv ?_))); rintro e w13 ⟨rfl, hb⟩; refine ⟨_, rfl, ?_⟩; have n0_ := zA1.mk (Kd.zBi (by (with_reducible repeat (first | apply Kd.zAi | apply Kd.zAh | apply Kd.zAp)); exact HO_6.out) hb); have n1_ := zA1.mk (Kd.S_below (by (with_reducible repeat (first | apply Kd.S_alloc | apply Kd.S_drewN | apply Kd.S_drew)); exact HO_9.out) hb); have n2_ := zA1.mk (zAt (g := gb351) (o := .cells #[.int .i64 a0_0, .slice A0_1 l0_1.length c0_1] 28 (0, 0)) (by (with_reducible repeat (first | refine zA6 ?_ _ | refine zA8 ?_ | refine zA5 ?_ _)); exact BK351.out) hb); have n3_ := zA1.mk (zAe (by repeat (first | (with_reducible first | exact HB.out | apply zA2 | apply zA0 | apply zA3 | refine zA4 ?_ GE351.out) | exact HB.out)) hb); clear HO_6; clear HO_9; clear BK351; clear HB; have HO_6 := n0_; have HO_9 := n1_; have BK351 := n2_; have HB := n3_; clear n0_ n1_ n2_ n3_; (try clear hb); (try clear hb2); (try clear hk); (try clear hi)) | ((with_reducible refine zBc (f := 37) rfl ?_); refine zCf (some 28) rfl rfl Tryd.func37 (by kernel_rfl) rfl #[.int .u64 t357] rfl (by (try simp only [List.map_toArray, List.map_cons, List.map_nil]); first | done | rfl | (simp only [List.length_drop, List.length_take]; rfl)) ?_; (with_reducible refine (zBe.calls k1 t357 t358 _ ?side1 A10.out).mono ?_); (case side1 => repeat (first | exact (Kd.zB1 HG.out HB.out) | (with_reducible refine Kd.zAf ?_ _) | (with_reducible refine Kd.zAk ?_ _) | (with_reducible refine Kd.zAv ?_))); rintro e w14 ⟨v359, rfl, ho0, hb⟩; refine ⟨_, rfl, ?_⟩; have n0_ := zA1.mk (Kd.zBi (by (with_reducible repeat (first | apply Kd.zAi | apply Kd.zAh | apply Kd.zAp)); exact HO_6.out) hb); have n1_ := zA1.mk (Kd.S_elder' (by (with_reducible repeat (first | apply Kd.S_alloc | apply Kd.S_drewN | apply Kd.S_drew)); exact HO_9.out) (Kd.R_base ho0) hb); have n2_ := zA1.mk (Kd.zCk ho0 (zAb (by repeat (first | (with_reducible first | exact HB.out | apply zA2 | apply zA0 | apply zA3 | refine zA4 ?_ GE351.out) | exact HB.out)))); have n3_ := zA1.mk (zAt (g := gb351) (o := .cells #[.int .i64 a0_0, .slice A0_1 l0_1.length c0_1] 28 (0, 0)) (by (with_reducible repeat (first | refine zA6 ?_ _ | refine zA8 ?_ | refine zA5 ?_ _)); exact BK351.out) hb); have n4_ := zA1.mk (zAe (by repeat (first | (with_reducible first | exact HB.out | apply zA2 | apply zA0 | apply zA3 | refine zA4 ?_ GE351.out) | exact HB.out)) hb); clear HO_6; clear HO_9; clear BK351; clear HB; have HO_6 := n0_; have HO_9 := n1_; have HO360 := n2_; have BK351 := n3_; have HB := n4_; clear n0_ n1_ n2_ n3_ n4_; (try clear hb); (try clear hb2); (try clear hk); (try clear hi); (try clear ho0); obtain ⟨Ao16, co16, eo16⟩ := Kd.zC5 HO360.out; subst eo16) | ((with_reducible refine zCg (b := .append) (xs := #[.tmp 26, .tmp 29]) rfl ?_); at_builtin; refine Kd.S_append (Kd.slice 3 (Kd.int .i64)) (w0 := w) w.heap.size rfl (.tmp 26) (.tmp 29) 45 23 (.slice none 0 0) 24 rfl Tryd.underlying45 info23 rfl (by decide) (by omega) u9 x9_1 t358 [.slice Ao16 t358.length co16] (fun _ => True) (fun k_ => some k_ = (.slice Ao16 t358.length co16 : Value).ownBlock) rfl rfl ?aP (fun k_ hk_ => ((Kd.zC3 (ok' := fun k_ => ((fun _ => True)) k_ ∧ some k_ ≠ (u9 : Value).ownBlock) (Kd.R_apart' (HO360.out) (Kd.S_typed HO_9.out) (by decide)) (fun k_ hk => ⟨trivial, hk.2⟩))).1 k_ hk_.symm) ?aF ?aO ?aB ?aS ?aL ?_; (case aP => exact Kd.M_row (Kd.zC3 (Kd.R_tight rfl (Kd.zC3 (ok' := fun k_ => ((fun _ => True)) k_ ∧ some k_ ≠ (u9 : Value).ownBlock) (Kd.R_apart' (HO360.out) (Kd.S_typed HO_9.out) (by decide)) (fun k_ hk => ⟨trivial, hk.2⟩))) (fun _ h_ => h_))); (case aB => exact (by repeat (first | (with_reducible first | exact HB.out | apply zA2 | apply zA0 | apply zA3 | refine zA4 ?_ GE351.out) | exact HB.out))); (case aF => exact (fun _ _ => trivial)); (case aO => exact (by (with_reducible repeat (first | apply Kd.S_alloc | apply Kd.S_drewN | apply Kd.S_drew)); exact Kd.S_mono HO_9.out (fun k_ hk => ⟨trivial, fun e_ => hk.2 e_⟩))); (case aS => exact (zAb (by repeat (first | (with_reducible first | exact HB.out | apply zA2 | apply zA0 | apply zA3 | refine zA4 ?_ GE351.out) | exact HB.out)))); (case aL => have := LMc11.out; omega); intro v362 w15 ho hb hg hat; rw [← Ny361.out] at ho; have n0_ := zA1.mk (Kd.R_over' (by (with_reducible repeat (first | apply Kd.zAi | apply Kd.zAh | apply Kd.zAp)); exact HO_6.out) (Kd.S_typed (by (with_reducible repeat (first | apply Kd.S_alloc | apply Kd.S_drewN | apply Kd.S_drew)); exact HO_9.out)) (by decide) hg); have n1_ := zA1.mk (blk_grown (g := gb351) (o := .cells #[.int .i64 a0_0, .slice A0_1 l0_1.length c0_1] 28 (0, 0)) (by (with_reducible repeat (first | refine zA6 ?_ _ | refine zA8 ?_ | refine zA5 ?_ _)); exact BK351.out) hg (Kd.S_ne HO_9.out BK351.out (by decide))); have n2_ := zA1.mk (hb); have n3_ := zA1.mk (ho); clear HO_6; clear BK351; clear HB; clear HO_9; clear HO360; have HO_6 := n0_; have BK351 := n1_; have HB := n2_; have HO363 := n3_; clear n0_ n1_ n2_ n3_; clear ho hb hg hat))
      go_roundg k1
      case measure => have := HK1.out; omega
      case rel => exact ⟨(Go.bits .andNot .u64 x7_1 t357), (y361), (by first | rfl | (simp; done) | (simp [*]; done)), H', ⟨by have := HK1.out; omega⟩, ⟨by (with_reducible repeat (first | apply Kd.zAi | apply Kd.zAh | apply Kd.zAp)); exact HO_6.out⟩, ⟨by (with_reducible repeat (first | apply Kd.S_alloc | apply Kd.S_drewN | apply Kd.S_drew)); exact HO363.out⟩, ⟨by (with_reducible repeat (first | refine zA6 ?_ _ | refine zA8 ?_ | refine zA5 ?_ _)); exact BK351.out⟩, ⟨by repeat (first | (with_reducible first | exact HB.out | apply zA2 | apply zA0 | apply zA3 | refine zA4 ?_ GE351.out) | exact HB.out)⟩⟩
     ·rw [if_neg c11] at H
      exact absurd H (by simp)
 ·rw [if_neg c4] at H
  have c4b0 : (t356 == 0) = false := beq_eq_false_iff_ne.mpr c4
  have c4b1 : (t356 != 0) = true := bne_iff_ne.mpr c4
  simp only [Option.some.injEq, Prod.mk.injEq] at H
  obtain ⟨rfl, rfl⟩ := H
  go_enter Tryd.func17, Tryd.ntmps17
  go_wp2_with (first | ((with_reducible refine zBk (N := 2) rfl ?_); refine zBj ?hg (N := 2) ?hd (cs := #[.int .i64 a0_0, .slice A0_1 l0_1.length c0_1]) (t := 28) ?hr ?_; (case hd => rfl); (case hg => rfl); (case hr => first | (go_simp; done) | (go_simp; rfl)); intro gb351 hg w17 hbox hb; have n0_ := zA1.mk (zAe (by repeat (first | (with_reducible first | exact HB.out | apply zA2 | apply zA0 | apply zA3) | exact HB.out)) hb); have n1_ := zA1.mk (hbox); have n2_ := zA1.mk ((by rw [hg]; exact (zAb (by repeat (first | (with_reducible first | exact HB.out | apply zA2 | apply zA0 | apply zA3) | exact HB.out))) : w.heap.size ≤ gb351)); have n3_ := zA1.mk ((by rw [hg]; exact (zAb (by repeat (first | (with_reducible first | exact HB.out | apply zA2 | apply zA0 | apply zA3) | exact HB.out))) : w.heap.size ≤ gb351)); clear HB; have HB := n0_; have BK351 := n1_; have GW351 := n2_; have GE351 := n3_; clear n0_ n1_ n2_ n3_; clear hb hbox hg; have hcz18_0 : w17.cell? ⟨gb351, 0, none⟩ = some (.int .i64 a0_0) := (zA9 BK351.out 0).trans rfl; have hcz18_1 : w17.cell? ⟨gb351, 1, none⟩ = some (.slice A0_1 l0_1.length c0_1) := (zA9 BK351.out 1).trans rfl; have hfz18_0 := zAd BK351.out 0; have hfz18_1 := zAd BK351.out 1) | ((with_reducible refine zBc (f := 34) rfl ?_); refine zCf (some 14) rfl rfl Tryd.func34 (by kernel_rfl) rfl #[.agg #[.int .i64 a0_0, .slice A0_1 l0_1.length c0_1], .slice A1 l1.length c1] rfl (by (try simp only [List.map_toArray, List.map_cons, List.map_nil]); first | done | rfl | (simp only [List.length_drop, List.length_take]; rfl)) ?_; (with_reducible refine (zBq.calls k a0_0 _ _ l0_1 _ _ l1 t352 t355 t356 _ ?side1 ?side2 ?side3 ?side4 A3.out).mono ?_); (case side1 => repeat (first | exact (Kd.zB1 HR0_1.out HB.out) | (with_reducible refine Kd.zAf ?_ _) | (with_reducible refine Kd.zAk ?_ _) | (with_reducible refine Kd.zAv ?_))); (case side2 => exact HC0_1.out); (case side3 => repeat (first | exact (Kd.zB1 HR1.out HB.out) | (with_reducible refine Kd.zAf ?_ _) | (with_reducible refine Kd.zAk ?_ _) | (with_reducible refine Kd.zAv ?_))); (case side4 => exact HC1.out); rintro e w19 ⟨v353, rfl, ho0, hb⟩; refine ⟨_, rfl, ?_⟩; have n0_ := zA1.mk (Kd.zCk ho0 (zAb (by repeat (first | (with_reducible first | exact HB.out | apply zA2 | apply zA0 | apply zA3 | refine zA4 ?_ GE351.out) | exact HB.out)))); have n1_ := zA1.mk (zAt (g := gb351) (o := .cells #[.int .i64 a0_0, .slice A0_1 l0_1.length c0_1] 28 (0, 0)) (by (with_reducible repeat (first | refine zA6 ?_ _ | refine zA8 ?_ | refine zA5 ?_ _)); exact BK351.out) hb); have n2_ := zA1.mk (zAe (by repeat (first | (with_reducible first | exact HB.out | apply zA2 | apply zA0 | apply zA3 | refine zA4 ?_ GE351.out) | exact HB.out)) hb); clear BK351; clear HB; have HO354 := n0_; have BK351 := n1_; have HB := n2_; clear n0_ n1_ n2_; (try clear hb); (try clear hb2); (try clear hk); (try clear hi); (try clear ho0)))
  go_ret2
  exact ⟨_, by first | rfl | (simp [zAy, zAx] <;> rfl) | (simp [*, zAy, zAx] <;> rfl), by first | exact Kd.S_nil _ _ _ _ _ | exact Kd.N_nil _ _ _ _ _ | exact Kd.V_nil _ _ _ _ _ | exact Kd.Q_nil _ _ _ _ _ | exact Kd.R_nil _ _ _ _ _, by repeat (first | (with_reducible first | exact HB.out | apply zA2 | apply zA0 | apply zA3 | refine zA4 ?_ GE351.out) | exact HB.out)⟩
end
end Go.Proofs.YtbghfbhlbfcloaaDoor.PL
namespace Go.Proofs.YtbghfbhlbfcloaaDoor.PL
section
open Go.RowKit Go.Proofs.YtbghfbhlbfcloaaDoorW.PrintWords Go.Proofs.YtbghfbhlbfcloaaDoorW.PrintLast Go.Proofs.YtbghfbhlbfcloaaDoorW.PrintMore
attribute [local go_sem] zC2 zC0 zC9 zC8 zBs zBr zC1 zBz   -- for this text's walks alone
set_option linter.unusedVariables false
set_option linter.unusedSimpArgs false
/-! ### zCd: function 52 -/
def zCd.f (k : Nat) (a0_0 : ByteArray) (l0_1 : List Int) (a1_0 : ByteArray) (l1_1 : List Int) : Option (Bool) := (zB0.f k l0_1).bind fun t481 => ((zB0.f k l1_1).bind fun t482 => (if t481 = t482 then (some false) else (some ((Go.bits .and .u64 t481 t482) == t481))))
theorem zCd.mono : ∀ a0 a1 a2 a3 k, LeO (zCd.f k a0 a1 a2 a3) (zCd.f (k + 1) a0 a1 a2 a3) := by
 intro a0 a1 a2 a3 k
 unfold zCd.f
 repeat' first
   | (with_reducible exact zB0.mono _ _)
   | (with_reducible exact LeO.refl _)
   | (with_reducible exact LeO.none _)
   | (with_reducible refine LeO.ite ?_ ?_)
   | (with_reducible refine LeO.bind ?_ (fun _ => ?_))
set_option maxHeartbeats 8000000 in
set_option maxRecDepth 100000 in
theorem zCd.calls (k : Nat) (a0_0 : ByteArray) (A0_1 : Option Addr) (c0_1 : Nat) (l0_1 : List Int) (a1_0 : ByteArray) (A1_1 : Option Addr) (c1_1 : Nat) (l1_1 : List Int) (r : Bool) (w : World) (hr0_1 : Kd.C (Kd.int .i64) w A0_1 l0_1.length l0_1) (hc0_1 : l0_1.length ≤ c0_1) (hr1_1 : Kd.C (Kd.int .i64) w A1_1 l1_1.length l1_1) (hc1_1 : l1_1.length ≤ c1_1) (h : zCd.f k a0_0 l0_1 a1_0 l1_1 = some r) :
  Calls Tryd.prog 52 #[.agg #[.string a0_0, .slice A0_1 l0_1.length c0_1], .agg #[.string a1_0, .slice A1_1 l1_1.length c1_1]] w fun e w' => e = .returned (.bool r) ∧ Below w.heap.size w w' := by
 have hu57 := Tryd.underlying57
 have HR0_1 := zA1.mk hr0_1
 have HC0_1 := zA1.mk hc0_1
 clear hr0_1 hc0_1
 have HR1_1 := zA1.mk hr1_1
 have HC1_1 := zA1.mk hc1_1
 clear hr1_1 hc1_1
 have HB := zA1.mk (Below.refl w.heap.size w)
 have H : ((zB0.f k l0_1).bind fun t481 => ((zB0.f k l1_1).bind fun t482 => (if t481 = t482 then (some false) else (some ((Go.bits .and .u64 t481 t482) == t481))))) = some r := h
 clear h
 replace H := Option.bind_eq_some_iff.mp H
 obtain ⟨t481, A30, H⟩ := H
 replace H : ((zB0.f k l1_1).bind fun t482 => (if t481 = t482 then (some false) else (some ((Go.bits .and .u64 t481 t482) == t481)))) = some r := H
 have A3 := zA1.mk A30
 clear A30
 replace H := Option.bind_eq_some_iff.mp H
 obtain ⟨t482, A40, H⟩ := H
 replace H : (if t481 = t482 then (some false) else (some ((Go.bits .and .u64 t481 t482) == t481))) = some r := H
 have A4 := zA1.mk A40
 clear A40
 by_cases c5 : t481 = t482
 ·rw [if_pos c5] at H
  have c5b0 : (t481 == t482) = true := beq_iff_eq.mpr c5
  have c5b1 : (t481 != t482) = false := bne_eq_false_iff_eq.mpr c5
  clear c5
  obtain rfl := Option.some.inj H
  go_enter Tryd.func52, Tryd.ntmps52
  go_wp2_with (first | ((with_reducible refine zBk (N := 2) rfl ?_); refine zBj ?hg (N := 2) ?hd (cs := #[.string a0_0, .slice A0_1 l0_1.length c0_1]) (t := 57) ?hr ?_; (case hd => rfl); (case hg => rfl); (case hr => first | (go_simp; done) | (go_simp; rfl)); intro gb479 hg w6 hbox hb; have n0_ := zA1.mk (zAe (by repeat (first | (with_reducible first | exact HB.out | apply zA2 | apply zA0 | apply zA3) | exact HB.out)) hb); have n1_ := zA1.mk (hbox); have n2_ := zA1.mk ((by rw [hg]; exact (zAb (by repeat (first | (with_reducible first | exact HB.out | apply zA2 | apply zA0 | apply zA3) | exact HB.out))) : w.heap.size ≤ gb479)); have n3_ := zA1.mk ((by rw [hg]; exact (zAb (by repeat (first | (with_reducible first | exact HB.out | apply zA2 | apply zA0 | apply zA3) | exact HB.out))) : w.heap.size ≤ gb479)); clear HB; have HB := n0_; have BK479 := n1_; have GW479 := n2_; have GE479 := n3_; clear n0_ n1_ n2_ n3_; clear hb hbox hg) | ((with_reducible refine zBk (N := 3) rfl ?_); refine zBj ?hg (N := 3) ?hd (cs := #[.string a1_0, .slice A1_1 l1_1.length c1_1]) (t := 57) ?hr ?_; (case hd => rfl); (case hg => rfl); (case hr => first | (go_simp; done) | (go_simp; rfl)); intro gb480 hg w7 hbox hb; have n0_ := zA1.mk (zAt (g := gb479) (o := .cells #[.string a0_0, .slice A0_1 l0_1.length c0_1] 57 (0, 0)) (by (with_reducible repeat (first | refine zA6 ?_ _ | refine zA8 ?_ | refine zA5 ?_ _)); exact BK479.out) hb); have n1_ := zA1.mk (zAe (by repeat (first | (with_reducible first | exact HB.out | apply zA2 | apply zA0 | apply zA3 | refine zA4 ?_ GE479.out) | exact HB.out)) hb); have n2_ := zA1.mk (hbox); have n3_ := zA1.mk ((by rw [hg]; exact (zAb (by repeat (first | (with_reducible first | exact HB.out | apply zA2 | apply zA0 | apply zA3 | refine zA4 ?_ GE479.out) | exact HB.out))) : w.heap.size ≤ gb480)); have n4_ := zA1.mk ((by rw [hg]; exact (zAb (by repeat (first | (with_reducible first | exact HB.out | apply zA2 | apply zA0 | apply zA3 | refine zA4 ?_ GE479.out) | exact HB.out))) : w.heap.size ≤ gb480)); have n5_ := zA1.mk ((by rw [hg]; exact Nat.ne_of_lt (zCm (g := gb479) (o := .cells #[.string a0_0, .slice A0_1 l0_1.length c0_1] 57 (0, 0)) (by (with_reducible repeat (first | refine zA6 ?_ _ | refine zA8 ?_ | refine zA5 ?_ _)); exact BK479.out)) : gb479 ≠ gb480)); have n6_ := zA1.mk ((by rw [hg]; exact Nat.ne_of_gt (zCm (g := gb479) (o := .cells #[.string a0_0, .slice A0_1 l0_1.length c0_1] 57 (0, 0)) (by (with_reducible repeat (first | refine zA6 ?_ _ | refine zA8 ?_ | refine zA5 ?_ _)); exact BK479.out)) : gb480 ≠ gb479)); clear BK479; clear HB; have BK479 := n0_; have HB := n1_; have BK480 := n2_; have GW480 := n3_; have GE480 := n4_; have NB479_480 := n5_; have NB480_479 := n6_; clear n0_ n1_ n2_ n3_ n4_ n5_ n6_; clear hb hbox hg; have hnb8 := NB479_480.out; have hnc8 := NB480_479.out; have hcz9_0 : w7.cell? ⟨gb479, 0, none⟩ = some (.string a0_0) := (zA9 BK479.out 0).trans rfl; have hcz9_1 : w7.cell? ⟨gb479, 1, none⟩ = some (.slice A0_1 l0_1.length c0_1) := (zA9 BK479.out 1).trans rfl; have hfz9_0 := zAd BK479.out 0; have hfz9_1 := zAd BK479.out 1) | (go_at_call 47; (with_reducible refine (zB0.calls k _ _ l0_1 t481 _ ?side1 ?side2 A3.out).mono ?_); (case side1 => repeat (first | exact (Kd.zB1 HR0_1.out HB.out) | (with_reducible refine Kd.zAf ?_ _) | (with_reducible refine Kd.zAk ?_ _) | (with_reducible refine Kd.zAv ?_))); (case side2 => exact HC0_1.out); rintro e w' ⟨rfl, ⟨nd, rfl⟩⟩; (try first | exact ⟨rfl, _, World.drewN_drewN _ _ _⟩ | exact ⟨rfl, _, Eq.trans (World.drewN_drewN _ _ _) (congrArg (World.drewN _) (Nat.add_assoc _ _ _))⟩); have hcz10_0 : w7.cell? ⟨gb480, 0, none⟩ = some (.string a1_0) := (zA9 BK480.out 0).trans rfl; have hcz10_1 : w7.cell? ⟨gb480, 1, none⟩ = some (.slice A1_1 l1_1.length c1_1) := (zA9 BK480.out 1).trans rfl; have hfz10_0 := zAd BK480.out 0; have hfz10_1 := zAd BK480.out 1) | (go_at_call 47; (with_reducible refine (zB0.calls k _ _ l1_1 t482 _ ?side1 ?side2 A4.out).mono ?_); (case side1 => repeat (first | exact (Kd.zB1 HR1_1.out (by repeat (first | (with_reducible first | exact HB.out | apply zA2 | apply zA0 | apply zA3 | refine zA4 ?_ GE479.out | refine zA4 ?_ GE480.out) | exact HB.out))) | (with_reducible refine Kd.zAf ?_ _) | (with_reducible refine Kd.zAk ?_ _) | (with_reducible refine Kd.zAv ?_))); (case side2 => exact HC1_1.out); rintro e w' ⟨rfl, ⟨nd, rfl⟩⟩; (try first | exact ⟨rfl, _, World.drewN_drewN _ _ _⟩ | exact ⟨rfl, _, Eq.trans (World.drewN_drewN _ _ _) (congrArg (World.drewN _) (Nat.add_assoc _ _ _))⟩)))
  repeat (go_quiet (first | ((with_reducible refine zBk (N := 2) rfl ?_); refine zBj ?hg (N := 2) ?hd (cs := #[.string a0_0, .slice A0_1 l0_1.length c0_1]) (t := 57) ?hr ?_; (case hd => rfl); (case hg => rfl); (case hr => first | (go_simp; done) | (go_simp; rfl)); intro gb479 hg w6 hbox hb; have n0_ := zA1.mk (zAe (by repeat (first | (with_reducible first | exact HB.out | apply zA2 | apply zA0 | apply zA3) | exact HB.out)) hb); have n1_ := zA1.mk (hbox); have n2_ := zA1.mk ((by rw [hg]; exact (zAb (by repeat (first | (with_reducible first | exact HB.out | apply zA2 | apply zA0 | apply zA3) | exact HB.out))) : w.heap.size ≤ gb479)); have n3_ := zA1.mk ((by rw [hg]; exact (zAb (by repeat (first | (with_reducible first | exact HB.out | apply zA2 | apply zA0 | apply zA3) | exact HB.out))) : w.heap.size ≤ gb479)); clear HB; have HB := n0_; have BK479 := n1_; have GW479 := n2_; have GE479 := n3_; clear n0_ n1_ n2_ n3_; clear hb hbox hg) | ((with_reducible refine zBk (N := 3) rfl ?_); refine zBj ?hg (N := 3) ?hd (cs := #[.string a1_0, .slice A1_1 l1_1.length c1_1]) (t := 57) ?hr ?_; (case hd => rfl); (case hg => rfl); (case hr => first | (go_simp; done) | (go_simp; rfl)); intro gb480 hg w7 hbox hb; have n0_ := zA1.mk (zAt (g := gb479) (o := .cells #[.string a0_0, .slice A0_1 l0_1.length c0_1] 57 (0, 0)) (by (with_reducible repeat (first | refine zA6 ?_ _ | refine zA8 ?_ | refine zA5 ?_ _)); exact BK479.out) hb); have n1_ := zA1.mk (zAe (by repeat (first | (with_reducible first | exact HB.out | apply zA2 | apply zA0 | apply zA3 | refine zA4 ?_ GE479.out) | exact HB.out)) hb); have n2_ := zA1.mk (hbox); have n3_ := zA1.mk ((by rw [hg]; exact (zAb (by repeat (first | (with_reducible first | exact HB.out | apply zA2 | apply zA0 | apply zA3 | refine zA4 ?_ GE479.out) | exact HB.out))) : w.heap.size ≤ gb480)); have n4_ := zA1.mk ((by rw [hg]; exact (zAb (by repeat (first | (with_reducible first | exact HB.out | apply zA2 | apply zA0 | apply zA3 | refine zA4 ?_ GE479.out) | exact HB.out))) : w.heap.size ≤ gb480)); have n5_ := zA1.mk ((by rw [hg]; exact Nat.ne_of_lt (zCm (g := gb479) (o := .cells #[.string a0_0, .slice A0_1 l0_1.length c0_1] 57 (0, 0)) (by (with_reducible repeat (first | refine zA6 ?_ _ | refine zA8 ?_ | refine zA5 ?_ _)); exact BK479.out)) : gb479 ≠ gb480)); have n6_ := zA1.mk ((by rw [hg]; exact Nat.ne_of_gt (zCm (g := gb479) (o := .cells #[.string a0_0, .slice A0_1 l0_1.length c0_1] 57 (0, 0)) (by (with_reducible repeat (first | refine zA6 ?_ _ | refine zA8 ?_ | refine zA5 ?_ _)); exact BK479.out)) : gb480 ≠ gb479)); clear BK479; clear HB; have BK479 := n0_; have HB := n1_; have BK480 := n2_; have GW480 := n3_; have GE480 := n4_; have NB479_480 := n5_; have NB480_479 := n6_; clear n0_ n1_ n2_ n3_ n4_ n5_ n6_; clear hb hbox hg; have hnb8 := NB479_480.out; have hnc8 := NB480_479.out; have hcz9_0 : w7.cell? ⟨gb479, 0, none⟩ = some (.string a0_0) := (zA9 BK479.out 0).trans rfl; have hcz9_1 : w7.cell? ⟨gb479, 1, none⟩ = some (.slice A0_1 l0_1.length c0_1) := (zA9 BK479.out 1).trans rfl; have hfz9_0 := zAd BK479.out 0; have hfz9_1 := zAd BK479.out 1) | (go_at_call 47; (with_reducible refine (zB0.calls k _ _ l0_1 t481 _ ?side1 ?side2 A3.out).mono ?_); (case side1 => repeat (first | exact (Kd.zB1 HR0_1.out HB.out) | (with_reducible refine Kd.zAf ?_ _) | (with_reducible refine Kd.zAk ?_ _) | (with_reducible refine Kd.zAv ?_))); (case side2 => exact HC0_1.out); rintro e w' ⟨rfl, ⟨nd, rfl⟩⟩; (try first | exact ⟨rfl, _, World.drewN_drewN _ _ _⟩ | exact ⟨rfl, _, Eq.trans (World.drewN_drewN _ _ _) (congrArg (World.drewN _) (Nat.add_assoc _ _ _))⟩); have hcz10_0 : w7.cell? ⟨gb480, 0, none⟩ = some (.string a1_0) := (zA9 BK480.out 0).trans rfl; have hcz10_1 : w7.cell? ⟨gb480, 1, none⟩ = some (.slice A1_1 l1_1.length c1_1) := (zA9 BK480.out 1).trans rfl; have hfz10_0 := zAd BK480.out 0; have hfz10_1 := zAd BK480.out 1) | (go_at_call 47; (with_reducible refine (zB0.calls k _ _ l1_1 t482 _ ?side1 ?side2 A4.out).mono ?_); (case side1 => repeat (first | exact (Kd.zB1 HR1_1.out (by repeat (first | (with_reducible first | exact HB.out | apply zA2 | apply zA0 | apply zA3 | refine zA4 ?_ GE479.out | refine zA4 ?_ GE480.out) | exact HB.out))) | (with_reducible refine Kd.zAf ?_ _) | (with_reducible refine Kd.zAk ?_ _) | (with_reducible refine Kd.zAv ?_))); (case side2 => exact HC1_1.out); rintro e w' ⟨rfl, ⟨nd, rfl⟩⟩; (try first | exact ⟨rfl, _, World.drewN_drewN _ _ _⟩ | exact ⟨rfl, _, Eq.trans (World.drewN_drewN _ _ _) (congrArg (World.drewN _) (Nat.add_assoc _ _ _))⟩))); try go_wp2_with (first | ((with_reducible refine zBk (N := 2) rfl ?_); refine zBj ?hg (N := 2) ?hd (cs := #[.string a0_0, .slice A0_1 l0_1.length c0_1]) (t := 57) ?hr ?_; (case hd => rfl); (case hg => rfl); (case hr => first | (go_simp; done) | (go_simp; rfl)); intro gb479 hg w6 hbox hb; have n0_ := zA1.mk (zAe (by repeat (first | (with_reducible first | exact HB.out | apply zA2 | apply zA0 | apply zA3) | exact HB.out)) hb); have n1_ := zA1.mk (hbox); have n2_ := zA1.mk ((by rw [hg]; exact (zAb (by repeat (first | (with_reducible first | exact HB.out | apply zA2 | apply zA0 | apply zA3) | exact HB.out))) : w.heap.size ≤ gb479)); have n3_ := zA1.mk ((by rw [hg]; exact (zAb (by repeat (first | (with_reducible first | exact HB.out | apply zA2 | apply zA0 | apply zA3) | exact HB.out))) : w.heap.size ≤ gb479)); clear HB; have HB := n0_; have BK479 := n1_; have GW479 := n2_; have GE479 := n3_; clear n0_ n1_ n2_ n3_; clear hb hbox hg) | ((with_reducible refine zBk (N := 3) rfl ?_); refine zBj ?hg (N := 3) ?hd (cs := #[.string a1_0, .slice A1_1 l1_1.length c1_1]) (t := 57) ?hr ?_; (case hd => rfl); (case hg => rfl); (case hr => first | (go_simp; done) | (go_simp; rfl)); intro gb480 hg w7 hbox hb; have n0_ := zA1.mk (zAt (g := gb479) (o := .cells #[.string a0_0, .slice A0_1 l0_1.length c0_1] 57 (0, 0)) (by (with_reducible repeat (first | refine zA6 ?_ _ | refine zA8 ?_ | refine zA5 ?_ _)); exact BK479.out) hb); have n1_ := zA1.mk (zAe (by repeat (first | (with_reducible first | exact HB.out | apply zA2 | apply zA0 | apply zA3 | refine zA4 ?_ GE479.out) | exact HB.out)) hb); have n2_ := zA1.mk (hbox); have n3_ := zA1.mk ((by rw [hg]; exact (zAb (by repeat (first | (with_reducible first | exact HB.out | apply zA2 | apply zA0 | apply zA3 | refine zA4 ?_ GE479.out) | exact HB.out))) : w.heap.size ≤ gb480)); have n4_ := zA1.mk ((by rw [hg]; exact (zAb (by repeat (first | (with_reducible first | exact HB.out | apply zA2 | apply zA0 | apply zA3 | refine zA4 ?_ GE479.out) | exact HB.out))) : w.heap.size ≤ gb480)); have n5_ := zA1.mk ((by rw [hg]; exact Nat.ne_of_lt (zCm (g := gb479) (o := .cells #[.string a0_0, .slice A0_1 l0_1.length c0_1] 57 (0, 0)) (by (with_reducible repeat (first | refine zA6 ?_ _ | refine zA8 ?_ | refine zA5 ?_ _)); exact BK479.out)) : gb479 ≠ gb480)); have n6_ := zA1.mk ((by rw [hg]; exact Nat.ne_of_gt (zCm (g := gb479) (o := .cells #[.string a0_0, .slice A0_1 l0_1.length c0_1] 57 (0, 0)) (by (with_reducible repeat (first | refine zA6 ?_ _ | refine zA8 ?_ | refine zA5 ?_ _)); exact BK479.out)) : gb480 ≠ gb479)); clear BK479; clear HB; have BK479 := n0_; have HB := n1_; have BK480 := n2_; have GW480 := n3_; have GE480 := n4_; have NB479_480 := n5_; have NB480_479 := n6_; clear n0_ n1_ n2_ n3_ n4_ n5_ n6_; clear hb hbox hg; have hnb8 := NB479_480.out; have hnc8 := NB480_479.out; have hcz9_0 : w7.cell? ⟨gb479, 0, none⟩ = some (.string a0_0) := (zA9 BK479.out 0).trans rfl; have hcz9_1 : w7.cell? ⟨gb479, 1, none⟩ = some (.slice A0_1 l0_1.length c0_1) := (zA9 BK479.out 1).trans rfl; have hfz9_0 := zAd BK479.out 0; have hfz9_1 := zAd BK479.out 1) | (go_at_call 47; (with_reducible refine (zB0.calls k _ _ l0_1 t481 _ ?side1 ?side2 A3.out).mono ?_); (case side1 => repeat (first | exact (Kd.zB1 HR0_1.out HB.out) | (with_reducible refine Kd.zAf ?_ _) | (with_reducible refine Kd.zAk ?_ _) | (with_reducible refine Kd.zAv ?_))); (case side2 => exact HC0_1.out); rintro e w' ⟨rfl, ⟨nd, rfl⟩⟩; (try first | exact ⟨rfl, _, World.drewN_drewN _ _ _⟩ | exact ⟨rfl, _, Eq.trans (World.drewN_drewN _ _ _) (congrArg (World.drewN _) (Nat.add_assoc _ _ _))⟩); have hcz10_0 : w7.cell? ⟨gb480, 0, none⟩ = some (.string a1_0) := (zA9 BK480.out 0).trans rfl; have hcz10_1 : w7.cell? ⟨gb480, 1, none⟩ = some (.slice A1_1 l1_1.length c1_1) := (zA9 BK480.out 1).trans rfl; have hfz10_0 := zAd BK480.out 0; have hfz10_1 := zAd BK480.out 1) | (go_at_call 47; (with_reducible refine (zB0.calls k _ _ l1_1 t482 _ ?side1 ?side2 A4.out).mono ?_); (case side1 => repeat (first | exact (Kd.zB1 HR1_1.out (by repeat (first | (with_reducible first | exact HB.out | apply zA2 | apply zA0 | apply zA3 | refine zA4 ?_ GE479.out | refine zA4 ?_ GE480.out) | exact HB.out))) | (with_reducible refine Kd.zAf ?_ _) | (with_reducible refine Kd.zAk ?_ _) | (with_reducible refine Kd.zAv ?_))); (case side2 => exact HC1_1.out); rintro e w' ⟨rfl, ⟨nd, rfl⟩⟩; (try first | exact ⟨rfl, _, World.drewN_drewN _ _ _⟩ | exact ⟨rfl, _, Eq.trans (World.drewN_drewN _ _ _) (congrArg (World.drewN _) (Nat.add_assoc _ _ _))⟩))))
  go_ret
  exact ⟨by first | rfl | (simp [zAy, zAx] <;> rfl) | (simp [*, zAy, zAx] <;> rfl), by repeat (first | (with_reducible first | exact HB.out | apply zA2 | apply zA0 | apply zA3 | refine zA4 ?_ GE479.out | refine zA4 ?_ GE480.out) | exact HB.out)⟩
 ·rw [if_neg c5] at H
  have c5b0 : (t481 == t482) = false := beq_eq_false_iff_ne.mpr c5
  have c5b1 : (t481 != t482) = true := bne_iff_ne.mpr c5
  obtain rfl := Option.some.inj H
  go_enter Tryd.func52, Tryd.ntmps52
  go_wp2_with (first | ((with_reducible refine zBk (N := 2) rfl ?_); refine zBj ?hg (N := 2) ?hd (cs := #[.string a0_0, .slice A0_1 l0_1.length c0_1]) (t := 57) ?hr ?_; (case hd => rfl); (case hg => rfl); (case hr => first | (go_simp; done) | (go_simp; rfl)); intro gb479 hg w11 hbox hb; have n0_ := zA1.mk (zAe (by repeat (first | (with_reducible first | exact HB.out | apply zA2 | apply zA0 | apply zA3) | exact HB.out)) hb); have n1_ := zA1.mk (hbox); have n2_ := zA1.mk ((by rw [hg]; exact (zAb (by repeat (first | (with_reducible first | exact HB.out | apply zA2 | apply zA0 | apply zA3) | exact HB.out))) : w.heap.size ≤ gb479)); have n3_ := zA1.mk ((by rw [hg]; exact (zAb (by repeat (first | (with_reducible first | exact HB.out | apply zA2 | apply zA0 | apply zA3) | exact HB.out))) : w.heap.size ≤ gb479)); clear HB; have HB := n0_; have BK479 := n1_; have GW479 := n2_; have GE479 := n3_; clear n0_ n1_ n2_ n3_; clear hb hbox hg) | ((with_reducible refine zBk (N := 3) rfl ?_); refine zBj ?hg (N := 3) ?hd (cs := #[.string a1_0, .slice A1_1 l1_1.length c1_1]) (t := 57) ?hr ?_; (case hd => rfl); (case hg => rfl); (case hr => first | (go_simp; done) | (go_simp; rfl)); intro gb480 hg w12 hbox hb; have n0_ := zA1.mk (zAt (g := gb479) (o := .cells #[.string a0_0, .slice A0_1 l0_1.length c0_1] 57 (0, 0)) (by (with_reducible repeat (first | refine zA6 ?_ _ | refine zA8 ?_ | refine zA5 ?_ _)); exact BK479.out) hb); have n1_ := zA1.mk (zAe (by repeat (first | (with_reducible first | exact HB.out | apply zA2 | apply zA0 | apply zA3 | refine zA4 ?_ GE479.out) | exact HB.out)) hb); have n2_ := zA1.mk (hbox); have n3_ := zA1.mk ((by rw [hg]; exact (zAb (by repeat (first | (with_reducible first | exact HB.out | apply zA2 | apply zA0 | apply zA3 | refine zA4 ?_ GE479.out) | exact HB.out))) : w.heap.size ≤ gb480)); have n4_ := zA1.mk ((by rw [hg]; exact (zAb (by repeat (first | (with_reducible first | exact HB.out | apply zA2 | apply zA0 | apply zA3 | refine zA4 ?_ GE479.out) | exact HB.out))) : w.heap.size ≤ gb480)); have n5_ := zA1.mk ((by rw [hg]; exact Nat.ne_of_lt (zCm (g := gb479) (o := .cells #[.string a0_0, .slice A0_1 l0_1.length c0_1] 57 (0, 0)) (by (with_reducible repeat (first | refine zA6 ?_ _ | refine zA8 ?_ | refine zA5 ?_ _)); exact BK479.out)) : gb479 ≠ gb480)); have n6_ := zA1.mk ((by rw [hg]; exact Nat.ne_of_gt (zCm (g := gb479) (o := .cells #[.string a0_0, .slice A0_1 l0_1.length c0_1] 57 (0, 0)) (by (with_reducible repeat (first | refine zA6 ?_ _ | refine zA8 ?_ | refine zA5 ?_ _)); exact BK479.out)) : gb480 ≠ gb479)); clear BK479; clear HB; have BK479 := n0_; have HB := n1_; have BK480 := n2_; have GW480 := n3_; have GE480 := n4_; have NB479_480 := n5_; have NB480_479 := n6_; clear n0_ n1_ n2_ n3_ n4_ n5_ n6_; clear hb hbox hg; have hnb13 := NB479_480.out; have hnc13 := NB480_479.out; have hcz14_0 : w12.cell? ⟨gb479, 0, none⟩ = some (.string a0_0) := (zA9 BK479.out 0).trans rfl; have hcz14_1 : w12.cell? ⟨gb479, 1, none⟩ = some (.slice A0_1 l0_1.length c0_1) := (zA9 BK479.out 1).trans rfl; have hfz14_0 := zAd BK479.out 0; have hfz14_1 := zAd BK479.out 1) | (go_at_call 47; (with_reducible refine (zB0.calls k _ _ l0_1 t481 _ ?side1 ?side2 A3.out).mono ?_); (case side1 => repeat (first | exact (Kd.zB1 HR0_1.out HB.out) | (with_reducible refine Kd.zAf ?_ _) | (with_reducible refine Kd.zAk ?_ _) | (with_reducible refine Kd.zAv ?_))); (case side2 => exact HC0_1.out); rintro e w' ⟨rfl, ⟨nd, rfl⟩⟩; (try first | exact ⟨rfl, _, World.drewN_drewN _ _ _⟩ | exact ⟨rfl, _, Eq.trans (World.drewN_drewN _ _ _) (congrArg (World.drewN _) (Nat.add_assoc _ _ _))⟩); have hcz15_0 : w12.cell? ⟨gb480, 0, none⟩ = some (.string a1_0) := (zA9 BK480.out 0).trans rfl; have hcz15_1 : w12.cell? ⟨gb480, 1, none⟩ = some (.slice A1_1 l1_1.length c1_1) := (zA9 BK480.out 1).trans rfl; have hfz15_0 := zAd BK480.out 0; have hfz15_1 := zAd BK480.out 1) | (go_at_call 47; (with_reducible refine (zB0.calls k _ _ l1_1 t482 _ ?side1 ?side2 A4.out).mono ?_); (case side1 => repeat (first | exact (Kd.zB1 HR1_1.out (by repeat (first | (with_reducible first | exact HB.out | apply zA2 | apply zA0 | apply zA3 | refine zA4 ?_ GE479.out | refine zA4 ?_ GE480.out) | exact HB.out))) | (with_reducible refine Kd.zAf ?_ _) | (with_reducible refine Kd.zAk ?_ _) | (with_reducible refine Kd.zAv ?_))); (case side2 => exact HC1_1.out); rintro e w' ⟨rfl, ⟨nd, rfl⟩⟩; (try first | exact ⟨rfl, _, World.drewN_drewN _ _ _⟩ | exact ⟨rfl, _, Eq.trans (World.drewN_drewN _ _ _) (congrArg (World.drewN _) (Nat.add_assoc _ _ _))⟩)))
  repeat (go_quiet (first | ((with_reducible refine zBk (N := 2) rfl ?_); refine zBj ?hg (N := 2) ?hd (cs := #[.string a0_0, .slice A0_1 l0_1.length c0_1]) (t := 57) ?hr ?_; (case hd => rfl); (case hg => rfl); (case hr => first | (go_simp; done) | (go_simp; rfl)); intro gb479 hg w11 hbox hb; have n0_ := zA1.mk (zAe (by repeat (first | (with_reducible first | exact HB.out | apply zA2 | apply zA0 | apply zA3) | exact HB.out)) hb); have n1_ := zA1.mk (hbox); have n2_ := zA1.mk ((by rw [hg]; exact (zAb (by repeat (first | (with_reducible first | exact HB.out | apply zA2 | apply zA0 | apply zA3) | exact HB.out))) : w.heap.size ≤ gb479)); have n3_ := zA1.mk ((by rw [hg]; exact (zAb (by repeat (first | (with_reducible first | exact HB.out | apply zA2 | apply zA0 | apply zA3) | exact HB.out))) : w.heap.size ≤ gb479)); clear HB; have HB := n0_; have BK479 := n1_; have GW479 := n2_; have GE479 := n3_; clear n0_ n1_ n2_ n3_; clear hb hbox hg) | ((with_reducible refine zBk (N := 3) rfl ?_); refine zBj ?hg (N := 3) ?hd (cs := #[.string a1_0, .slice A1_1 l1_1.length c1_1]) (t := 57) ?hr ?_; (case hd => rfl); (case hg => rfl); (case hr => first | (go_simp; done) | (go_simp; rfl)); intro gb480 hg w12 hbox hb; have n0_ := zA1.mk (zAt (g := gb479) (o := .cells #[.string a0_0, .slice A0_1 l0_1.length c0_1] 57 (0, 0)) (by (with_reducible repeat (first | refine zA6 ?_ _ | refine zA8 ?_ | refine zA5 ?_ _)); exact BK479.out) hb); have n1_ := zA1.mk (zAe (by repeat (first | (with_reducible first | exact HB.out | apply zA2 | apply zA0 | apply zA3 | refine zA4 ?_ GE479.out) | exact HB.out)) hb); have n2_ := zA1.mk (hbox); have n3_ := zA1.mk ((by rw [hg]; exact (zAb (by repeat (first | (with_reducible first | exact HB.out | apply zA2 | apply zA0 | apply zA3 | refine zA4 ?_ GE479.out) | exact HB.out))) : w.heap.size ≤ gb480)); have n4_ := zA1.mk ((by rw [hg]; exact (zAb (by repeat (first | (with_reducible first | exact HB.out | apply zA2 | apply zA0 | apply zA3 | refine zA4 ?_ GE479.out) | exact HB.out))) : w.heap.size ≤ gb480)); have n5_ := zA1.mk ((by rw [hg]; exact Nat.ne_of_lt (zCm (g := gb479) (o := .cells #[.string a0_0, .slice A0_1 l0_1.length c0_1] 57 (0, 0)) (by (with_reducible repeat (first | refine zA6 ?_ _ | refine zA8 ?_ | refine zA5 ?_ _)); exact BK479.out)) : gb479 ≠ gb480)); have n6_ := zA1.mk ((by rw [hg]; exact Nat.ne_of_gt (zCm (g := gb479) (o := .cells #[.string a0_0, .slice A0_1 l0_1.length c0_1] 57 (0, 0)) (by (with_reducible repeat (first | refine zA6 ?_ _ | refine zA8 ?_ | refine zA5 ?_ _)); exact BK479.out)) : gb480 ≠ gb479)); clear BK479; clear HB; have BK479 := n0_; have HB := n1_; have BK480 := n2_; have GW480 := n3_; have GE480 := n4_; have NB479_480 := n5_; have NB480_479 := n6_; clear n0_ n1_ n2_ n3_ n4_ n5_ n6_; clear hb hbox hg; have hnb13 := NB479_480.out; have hnc13 := NB480_479.out; have hcz14_0 : w12.cell? ⟨gb479, 0, none⟩ = some (.string a0_0) := (zA9 BK479.out 0).trans rfl; have hcz14_1 : w12.cell? ⟨gb479, 1, none⟩ = some (.slice A0_1 l0_1.length c0_1) := (zA9 BK479.out 1).trans rfl; have hfz14_0 := zAd BK479.out 0; have hfz14_1 := zAd BK479.out 1) | (go_at_call 47; (with_reducible refine (zB0.calls k _ _ l0_1 t481 _ ?side1 ?side2 A3.out).mono ?_); (case side1 => repeat (first | exact (Kd.zB1 HR0_1.out HB.out) | (with_reducible refine Kd.zAf ?_ _) | (with_reducible refine Kd.zAk ?_ _) | (with_reducible refine Kd.zAv ?_))); (case side2 => exact HC0_1.out); rintro e w' ⟨rfl, ⟨nd, rfl⟩⟩; (try first | exact ⟨rfl, _, World.drewN_drewN _ _ _⟩ | exact ⟨rfl, _, Eq.trans (World.drewN_drewN _ _ _) (congrArg (World.drewN _) (Nat.add_assoc _ _ _))⟩); have hcz15_0 : w12.cell? ⟨gb480, 0, none⟩ = some (.string a1_0) := (zA9 BK480.out 0).trans rfl; have hcz15_1 : w12.cell? ⟨gb480, 1, none⟩ = some (.slice A1_1 l1_1.length c1_1) := (zA9 BK480.out 1).trans rfl; have hfz15_0 := zAd BK480.out 0; have hfz15_1 := zAd BK480.out 1) | (go_at_call 47; (with_reducible refine (zB0.calls k _ _ l1_1 t482 _ ?side1 ?side2 A4.out).mono ?_); (case side1 => repeat (first | exact (Kd.zB1 HR1_1.out (by repeat (first | (with_reducible first | exact HB.out | apply zA2 | apply zA0 | apply zA3 | refine zA4 ?_ GE479.out | refine zA4 ?_ GE480.out) | exact HB.out))) | (with_reducible refine Kd.zAf ?_ _) | (with_reducible refine Kd.zAk ?_ _) | (with_reducible refine Kd.zAv ?_))); (case side2 => exact HC1_1.out); rintro e w' ⟨rfl, ⟨nd, rfl⟩⟩; (try first | exact ⟨rfl, _, World.drewN_drewN _ _ _⟩ | exact ⟨rfl, _, Eq.trans (World.drewN_drewN _ _ _) (congrArg (World.drewN _) (Nat.add_assoc _ _ _))⟩))); try go_wp2_with (first | ((with_reducible refine zBk (N := 2) rfl ?_); refine zBj ?hg (N := 2) ?hd (cs := #[.string a0_0, .slice A0_1 l0_1.length c0_1]) (t := 57) ?hr ?_; (case hd => rfl); (case hg => rfl); (case hr => first | (go_simp; done) | (go_simp; rfl)); intro gb479 hg w11 hbox hb; have n0_ := zA1.mk (zAe (by repeat (first | (with_reducible first | exact HB.out | apply zA2 | apply zA0 | apply zA3) | exact HB.out)) hb); have n1_ := zA1.mk (hbox); have n2_ := zA1.mk ((by rw [hg]; exact (zAb (by repeat (first | (with_reducible first | exact HB.out | apply zA2 | apply zA0 | apply zA3) | exact HB.out))) : w.heap.size ≤ gb479)); have n3_ := zA1.mk ((by rw [hg]; exact (zAb (by repeat (first | (with_reducible first | exact HB.out | apply zA2 | apply zA0 | apply zA3) | exact HB.out))) : w.heap.size ≤ gb479)); clear HB; have HB := n0_; have BK479 := n1_; have GW479 := n2_; have GE479 := n3_; clear n0_ n1_ n2_ n3_; clear hb hbox hg) | ((with_reducible refine zBk (N := 3) rfl ?_); refine zBj ?hg (N := 3) ?hd (cs := #[.string a1_0, .slice A1_1 l1_1.length c1_1]) (t := 57) ?hr ?_; (case hd => rfl); (case hg => rfl); (case hr => first | (go_simp; done) | (go_simp; rfl)); intro gb480 hg w12 hbox hb; have n0_ := zA1.mk (zAt (g := gb479) (o := .cells #[.string a0_0, .slice A0_1 l0_1.length c0_1] 57 (0, 0)) (by (with_reducible repeat (first | refine zA6 ?_ _ | refine zA8 ?_ | refine zA5 ?_ _)); exact BK479.out) hb); have n1_ := zA1.mk (zAe (by repeat (first | (with_reducible first | exact HB.out | apply zA2 | apply zA0 | apply zA3 | refine zA4 ?_ GE479.out) | exact HB.out)) hb); have n2_ := zA1.mk (hbox); have n3_ := zA1.mk ((by rw [hg]; exact (zAb (by repeat (first | (with_reducible first | exact HB.out | apply zA2 | apply zA0 | apply zA3 | refine zA4 ?_ GE479.out) | exact HB.out))) : w.heap.size ≤ gb480)); have n4_ := zA1.mk ((by rw [hg]; exact (zAb (by repeat (first | (with_reducible first | exact HB.out | apply zA2 | apply zA0 | apply zA3 | refine zA4 ?_ GE479.out) | exact HB.out))) : w.heap.size ≤ gb480)); have n5_ := zA1.mk ((by rw [hg]; exact Nat.ne_of_lt (zCm (g := gb479) (o := .cells #[.string a0_0, .slice A0_1 l0_1.length c0_1] 57 (0, 0)) (by (with_reducible repeat (first | refine zA6 ?_ _ | refine zA8 ?_ | refine zA5 ?_ _)); exact BK479.out)) : gb479 ≠ gb480)); have n6_ := zA1.mk ((by rw [hg]; exact Nat.ne_of_gt (zCm (g := gb479) (o := .cells #[.string a0_0, .slice A0_1 l0_1.length c0_1] 57 (0, 0)) (by (with_reducible repeat (first | refine zA6 ?_ _ | refine zA8 ?_ | refine zA5 ?_ _)); exact BK479.out)) : gb480 ≠ gb479)); clear BK479; clear HB; have BK479 := n0_; have HB := n1_; have BK480 := n2_; have GW480 := n3_; have GE480 := n4_; have NB479_480 := n5_; have NB480_479 := n6_; clear n0_ n1_ n2_ n3_ n4_ n5_ n6_; clear hb hbox hg; have hnb13 := NB479_480.out; have hnc13 := NB480_479.out; have hcz14_0 : w12.cell? ⟨gb479, 0, none⟩ = some (.string a0_0) := (zA9 BK479.out 0).trans rfl; have hcz14_1 : w12.cell? ⟨gb479, 1, none⟩ = some (.slice A0_1 l0_1.length c0_1) := (zA9 BK479.out 1).trans rfl; have hfz14_0 := zAd BK479.out 0; have hfz14_1 := zAd BK479.out 1) | (go_at_call 47; (with_reducible refine (zB0.calls k _ _ l0_1 t481 _ ?side1 ?side2 A3.out).mono ?_); (case side1 => repeat (first | exact (Kd.zB1 HR0_1.out HB.out) | (with_reducible refine Kd.zAf ?_ _) | (with_reducible refine Kd.zAk ?_ _) | (with_reducible refine Kd.zAv ?_))); (case side2 => exact HC0_1.out); rintro e w' ⟨rfl, ⟨nd, rfl⟩⟩; (try first | exact ⟨rfl, _, World.drewN_drewN _ _ _⟩ | exact ⟨rfl, _, Eq.trans (World.drewN_drewN _ _ _) (congrArg (World.drewN _) (Nat.add_assoc _ _ _))⟩); have hcz15_0 : w12.cell? ⟨gb480, 0, none⟩ = some (.string a1_0) := (zA9 BK480.out 0).trans rfl; have hcz15_1 : w12.cell? ⟨gb480, 1, none⟩ = some (.slice A1_1 l1_1.length c1_1) := (zA9 BK480.out 1).trans rfl; have hfz15_0 := zAd BK480.out 0; have hfz15_1 := zAd BK480.out 1) | (go_at_call 47; (with_reducible refine (zB0.calls k _ _ l1_1 t482 _ ?side1 ?side2 A4.out).mono ?_); (case side1 => repeat (first | exact (Kd.zB1 HR1_1.out (by repeat (first | (with_reducible first | exact HB.out | apply zA2 | apply zA0 | apply zA3 | refine zA4 ?_ GE479.out | refine zA4 ?_ GE480.out) | exact HB.out))) | (with_reducible refine Kd.zAf ?_ _) | (with_reducible refine Kd.zAk ?_ _) | (with_reducible refine Kd.zAv ?_))); (case side2 => exact HC1_1.out); rintro e w' ⟨rfl, ⟨nd, rfl⟩⟩; (try first | exact ⟨rfl, _, World.drewN_drewN _ _ _⟩ | exact ⟨rfl, _, Eq.trans (World.drewN_drewN _ _ _) (congrArg (World.drewN _) (Nat.add_assoc _ _ _))⟩))))
  go_ret
  exact ⟨by first | rfl | (simp [zAy, zAx] <;> rfl) | (simp [*, zAy, zAx] <;> rfl), by repeat (first | (with_reducible first | exact HB.out | apply zA2 | apply zA0 | apply zA3 | refine zA4 ?_ GE479.out | refine zA4 ?_ GE480.out) | exact HB.out)⟩
end
end Go.Proofs.YtbghfbhlbfcloaaDoor.PL
namespace Go.Proofs.YtbghfbhlbfcloaaDoor.PL
section
open Go.RowKit Go.Proofs.YtbghfbhlbfcloaaDoorW.PrintWords Go.Proofs.YtbghfbhlbfcloaaDoorW.PrintLast Go.Proofs.YtbghfbhlbfcloaaDoorW.PrintMore
attribute [local go_sem] zC2 zC0 zC9 zC8 zBs zBr zC1 zBz   -- for this text's walks alone
set_option linter.unusedVariables false
set_option linter.unusedSimpArgs false
/-! ### zBa: function 60 -/
def zBa.l0 : Nat → List Int → List Int → Int → Int → Option (Bool)
 | 0, _, _, _, _ => none
 | k + 1, x0, x1, x12, x13 => if x13 < x12 then (if 0 ≤ x13 then (if x13 < (x0.length : Int) then (if x13 < (x1.length : Int) then (if (rd x0 x13) = (rd x1 x13) then (zBa.l0 k x0 x1 x12 (wrap64 (x13 + 1))) else (some false)) else (none)) else (none)) else (none)) else (some true)
def zBa.f (k : Nat) (l0 : List Int) (l1 : List Int) : Option (Bool) := if (l0.length : Int) = (l1.length : Int) then (zBa.l0 k l0 l1 (l0.length : Int) 0) else (some false)
theorem zBa.zBx : ∀ k, (∀ y0 y1 y2 y3, LeO (zBa.l0 k y0 y1 y2 y3) (zBa.l0 (k + 1) y0 y1 y2 y3))
 | 0 => fun _ _ _ _ r h => by simp [zBa.l0] at h
 | k + 1 => by
  have ih0 := zBa.zBx k
  ·intro y0 y1 y2 y3
   unfold zBa.l0
   repeat' first
   | (with_reducible exact ih0 _ _ _ _)
   | (with_reducible exact LeO.refl _)
   | (with_reducible exact LeO.none _)
   | (with_reducible refine LeO.ite ?_ ?_)
   | (with_reducible refine LeO.bind ?_ (fun _ => ?_))
theorem zBa.mono : ∀ a0 a1 k, LeO (zBa.f k a0 a1) (zBa.f (k + 1) a0 a1) := by
 intro a0 a1 k
 have ih0 := zBa.zBx k
 unfold zBa.f
 repeat' first
   | (with_reducible exact ih0 _ _ _ _)
   | (with_reducible exact LeO.refl _)
   | (with_reducible exact LeO.none _)
   | (with_reducible refine LeO.ite ?_ ?_)
   | (with_reducible refine LeO.bind ?_ (fun _ => ?_))
set_option maxHeartbeats 8000000 in
set_option maxRecDepth 100000 in
theorem zBa.calls (k : Nat) (A0 : Option Addr) (c0 : Nat) (l0 : List Int) (A1 : Option Addr) (c1 : Nat) (l1 : List Int) (r : Bool) (w : World) (hr0 : Kd.C (Kd.int .i64) w A0 l0.length l0) (hc0 : l0.length ≤ c0) (hr1 : Kd.C (Kd.int .i64) w A1 l1.length l1) (hc1 : l1.length ≤ c1) (h : zBa.f k l0 l1 = some r) :
  Calls Tryd.prog 60 #[.slice A0 l0.length c0, .slice A1 l1.length c1] w fun e w' => e = .returned (.bool r) ∧ zBd w w' := by
 have HR0 := zA1.mk hr0
 have HC0 := zA1.mk hc0
 clear hr0 hc0
 have HR1 := zA1.mk hr1
 have HC1 := zA1.mk hc1
 clear hr1 hc1
 have H : (if (l0.length : Int) = (l1.length : Int) then (zBa.l0 k l0 l1 (l0.length : Int) 0) else (some false)) = some r := h
 clear h
 by_cases c3 : (l0.length : Int) = (l1.length : Int)
 ·rw [if_pos c3] at H
  have c3b0 : ((l0.length : Int) == (l1.length : Int)) = true := beq_iff_eq.mpr c3
  have c3b1 : ((l0.length : Int) != (l1.length : Int)) = false := bne_eq_false_iff_eq.mpr c3
  have c3b2 : (l0.length == l1.length) = true := by first | simpa using c3 | (simp at c3 ⊢; omega)
  clear c3
  have H' := zA1.mk H
  clear H
  go_enter Tryd.func60, Tryd.ntmps60
  go_wp2
  repeat (go_quiet (fail); try go_wp2)
  go_loopg [13] k (fun kq v13 w' => ∃ (x13_1 : Int), v13 = .int .i64 x13_1 ∧ zA1 (zBa.l0 kq l0 l1 (l0.length : Int) x13_1 = some r) ∧ zA1 (kq ≤ k) ∧ zBd w w')
  case atStart => exact ⟨(0), (by first | rfl | (simp; done) | (simp [*]; done)), H', ⟨Nat.le_refl _⟩, by repeat (first | exact zBd.refl _ | apply zBd.step)⟩
  case round =>
   clear H'
   try clear c1
   try clear p2
   try clear c3
   try clear c3b0
   try clear c3b1
   try clear c3b2
   obtain ⟨x13_1, rfl, HA, HK1, ⟨m1, rfl⟩⟩ := hrel
   cases gk with
   | zero => exact absurd HA.out (by simp [zBa.l0])
   | succ k1 =>
    have H := HA.out
    clear HA
    simp only [zBa.l0] at H
    by_cases c4 : x13_1 < (l0.length : Int)
    ·rw [if_pos c4] at H
     have c4b0 : decide (x13_1 < (l0.length : Int)) = true := decide_eq_true c4
     clear c4
     by_cases c5 : 0 ≤ x13_1
     ·rw [if_pos c5] at H
      have c5b0 : decide (0 ≤ x13_1) = true := decide_eq_true c5
      clear c5
      by_cases c6 : x13_1 < (l0.length : Int)
      ·rw [if_pos c6] at H
       have c6b0 : decide (x13_1 < (l0.length : Int)) = true := decide_eq_true c6
       clear c6
       by_cases c7 : x13_1 < (l1.length : Int)
       ·rw [if_pos c7] at H
        have c7b0 : decide (x13_1 < (l1.length : Int)) = true := decide_eq_true c7
        clear c7
        by_cases c8 : (rd l0 x13_1) = (rd l1 x13_1)
        ·rw [if_pos c8] at H
         have c8b0 : ((rd l0 x13_1) == (rd l1 x13_1)) = true := beq_iff_eq.mpr c8
         have c8b1 : ((rd l0 x13_1) != (rd l1 x13_1)) = false := bne_eq_false_iff_eq.mpr c8
         clear c8
         have H' := zA1.mk H
         clear H
         have p422 : 0 ≤ (x13_1 : Int) := of_decide_eq_true (by first | (with_reducible assumption) | assumption)
         have q422 : x13_1 < (l0.length : Int) := of_decide_eq_true (by first | (with_reducible assumption) | assumption)
         obtain ⟨ad422, e422, hx422_0⟩ := Kd.zCb HR0.out x13_1 p422 q422
         cases e422
         replace p422 := eq_true p422
         replace q422 := eq_true q422
         have p423 : 0 ≤ (x13_1 : Int) := of_decide_eq_true (by first | (with_reducible assumption) | assumption)
         have q423 : x13_1 < (l1.length : Int) := of_decide_eq_true (by first | (with_reducible assumption) | assumption)
         obtain ⟨ad423, e423, hx423_0⟩ := Kd.zCb HR1.out x13_1 p423 q423
         cases e423
         replace p423 := eq_true p423
         replace q423 := eq_true q423
         go_wp2
         repeat (go_quiet (fail); try go_wp2)
         go_roundg k1
         case measure => have := HK1.out; omega
         case rel => exact ⟨(wrap64 (x13_1 + 1)), (by first | rfl | (simp; done) | (simp [*]; done)), H', ⟨by have := HK1.out; omega⟩, by repeat (first | exact zBd.refl _ | apply zBd.step)⟩
        ·rw [if_neg c8] at H
         have c8b0 : ((rd l0 x13_1) == (rd l1 x13_1)) = false := beq_eq_false_iff_ne.mpr c8
         have c8b1 : ((rd l0 x13_1) != (rd l1 x13_1)) = true := bne_iff_ne.mpr c8
         obtain rfl := Option.some.inj H
         have p422 : 0 ≤ (x13_1 : Int) := of_decide_eq_true (by first | (with_reducible assumption) | assumption)
         have q422 : x13_1 < (l0.length : Int) := of_decide_eq_true (by first | (with_reducible assumption) | assumption)
         obtain ⟨ad422, e422, hx422_0⟩ := Kd.zCb HR0.out x13_1 p422 q422
         cases e422
         replace p422 := eq_true p422
         replace q422 := eq_true q422
         have p423 : 0 ≤ (x13_1 : Int) := of_decide_eq_true (by first | (with_reducible assumption) | assumption)
         have q423 : x13_1 < (l1.length : Int) := of_decide_eq_true (by first | (with_reducible assumption) | assumption)
         obtain ⟨ad423, e423, hx423_0⟩ := Kd.zCb HR1.out x13_1 p423 q423
         cases e423
         replace p423 := eq_true p423
         replace q423 := eq_true q423
         go_wp2
         repeat (go_quiet (fail); try go_wp2)
         go_ret
         exact ⟨by first | rfl | (simp; done) | (simp [*]; done), by repeat (first | exact zBd.refl _ | apply zBd.step)⟩
       ·rw [if_neg c7] at H
        exact absurd H (by simp)
      ·rw [if_neg c6] at H
       exact absurd H (by simp)
     ·rw [if_neg c5] at H
      exact absurd H (by simp)
    ·rw [if_neg c4] at H
     have c4b0 : decide (x13_1 < (l0.length : Int)) = false := decide_eq_false c4
     clear c4
     obtain rfl := Option.some.inj H
     go_wp2
     repeat (go_quiet (fail); try go_wp2)
     go_ret
     exact ⟨by first | rfl | (simp; done) | (simp [*]; done), by repeat (first | exact zBd.refl _ | apply zBd.step)⟩
 ·rw [if_neg c3] at H
  have c3b0 : ((l0.length : Int) == (l1.length : Int)) = false := beq_eq_false_iff_ne.mpr c3
  have c3b1 : ((l0.length : Int) != (l1.length : Int)) = true := bne_iff_ne.mpr c3
  have c3b2 : (l0.length == l1.length) = false := by first | simpa using c3 | (simp at c3 ⊢; omega)
  obtain rfl := Option.some.inj H
  go_enter Tryd.func60, Tryd.ntmps60
  go_wp2
  repeat (go_quiet (fail); try go_wp2)
  go_ret
  exact ⟨by first | rfl | (simp; done) | (simp [*]; done), by repeat (first | exact zBd.refl _ | apply zBd.step)⟩
end
end Go.Proofs.YtbghfbhlbfcloaaDoor.PL
namespace Go.Proofs
section
set_option linter.unusedVariables false
set_option linter.unusedSimpArgs false
open Go.Shelf
def Tryd.contG_ren : Go.Shelf.Ren := ⟨fun | 8 => 56 | 6 => 77 | n => n, fun | 22 => 52 | 23 => 57 | 25 => 94 | 4 => 4 | 3 => 3 | 0 => 0 | n => n, fun | n => n⟩
theorem Tryd.contG : Go.Proofs.SlLaysH0.n8 Tryd.prog Tryd.contG_ren := {
 mixed := by kernel_rfl
 f6 := ⟨Tryd.f77.name, by decide, Tryd.func77.trans (congrArg some (by kernel_rfl))⟩
 f8 := ⟨Tryd.f56.name, by decide, Tryd.func56.trans (congrArg some (by kernel_rfl))⟩
 t0 := Tryd.underlying0
 a0 := Tryd.isAgg0
 z0 := Tryd.sizeOf0
 v0 := Tryd.zeroValue0
 t3 := Tryd.underlying3
 a3 := Tryd.isAgg3
 z3 := Tryd.sizeOf3
 v3 := Tryd.zeroValue3
 t4 := Tryd.underlying4
 a4 := Tryd.isAgg4
 z4 := Tryd.sizeOf4
 v4 := Tryd.zeroValue4
 t22 := Tryd.underlying52
 a22 := Tryd.isAgg52
 z22 := Tryd.sizeOf52
 v22 := Tryd.zeroValue52
 t25 := Tryd.underlying94
 a25 := Tryd.isAgg94
 z25 := Tryd.sizeOf94
 v25 := Tryd.zeroValue94 }
def Tryd.contS_ren : Go.Shelf.Ren := ⟨fun | 17 => 75 | 15 => 96 | 20 => 112 | n => n, fun | 9 => 9 | 23 => 104 | 4 => 4 | 3 => 3 | 0 => 0 | 21 => 21 | n => n, fun | n => n⟩
theorem Tryd.contS : Go.Proofs.LaysGw.n17 Tryd.prog Tryd.contS_ren := {
 mixed := by kernel_rfl
 f15 := Tryd.func96.trans (congrArg some (by kernel_rfl))
 f17 := Tryd.func75.trans (congrArg some (by kernel_rfl))
 f20 := Tryd.func112.trans (congrArg some (by kernel_rfl))
 t0 := Tryd.underlying0
 a0 := Tryd.isAgg0
 z0 := Tryd.sizeOf0
 v0 := Tryd.zeroValue0
 i0 := by kernel_rfl
 t3 := Tryd.underlying3
 a3 := Tryd.isAgg3
 z3 := Tryd.sizeOf3
 v3 := Tryd.zeroValue3
 i3 := by kernel_rfl
 t4 := Tryd.underlying4
 a4 := Tryd.isAgg4
 z4 := Tryd.sizeOf4
 v4 := Tryd.zeroValue4
 i4 := by kernel_rfl
 t9 := Tryd.underlying9
 a9 := Tryd.isAgg9
 z9 := Tryd.sizeOf9
 v9 := Tryd.zeroValue9
 i9 := by kernel_rfl
 t21 := Tryd.underlying21
 a21 := Tryd.isAgg21
 z21 := Tryd.sizeOf21
 v21 := Tryd.zeroValue21
 i21 := by kernel_rfl
 t23 := Tryd.underlying104
 a23 := Tryd.isAgg104
 z23 := Tryd.sizeOf104
 v23 := Tryd.zeroValue104
 i23 := by kernel_rfl }
end
end Go.Proofs
namespace Go.Proofs.YtbghfbhlbfcloaaDoor.PL
section
open Go.RowKit Go.Proofs.YtbghfbhlbfcloaaDoorW.PrintWords Go.Proofs.YtbghfbhlbfcloaaDoorW.PrintLast Go.Proofs.YtbghfbhlbfcloaaDoorW.PrintMore
set_option linter.unusedVariables false
set_option linter.unusedSimpArgs false

set_option maxHeartbeats 1000000 in
theorem clo57 (B : Nat) (s y0 : ByteArray) (v : Value) (W : World) (hc : W.cell? ⟨B, 0, none⟩ = some (.string s)) (A : Option Addr) (n c : Nat) (hv : v = .slice A n c) :
  Calls Tryd.prog 57 #[.agg #[.string y0, v], .pointer (some ⟨B, 0, none⟩)] W fun e w' => e = .returned (.bool (y0.toList == s.toList)) ∧ Below W.heap.size W w' := by
 subst hv
 have hu57 := Tryd.underlying57
 have hlt := World.block_lt_of_cell? W _ hc
 have hc2 := (zA2 (Below.refl W.heap.size W) (.cells #[.string y0, .slice A n c] 57)).cell (p := ⟨B, 0, none⟩) hlt
 rw [hc] at hc2
 go_enter Tryd.func57, Tryd.ntmps57
 go_wp2
 go_ret
 exact ⟨rfl, zA2 (Below.refl _ _) _⟩

set_option maxHeartbeats 1000000 in
theorem clo59 (k : Nat) (B : Nat) (y0 : ByteArray) (xs ys : List Int) (A A' : Option Addr) (c c' : Nat) (r : Bool) (W : World) (hc : W.cell? ⟨B, 1, none⟩ = some (.slice A xs.length c)) (hx : Kd.C (Kd.int .i64) W A xs.length xs) (hxc : xs.length ≤ c) (hy : Kd.C (Kd.int .i64) W A' ys.length ys) (hyc : ys.length ≤ c')
  (h : zBa.f k xs ys = some r) :
  Calls Tryd.prog 59 #[.agg #[.string y0, .slice A' ys.length c'], .pointer (some ⟨B, 0, none⟩)] W fun e w' => e = .returned (.bool r) ∧ Below W.heap.size W w' := by
 have hu57 := Tryd.underlying57
 have hlt := World.block_lt_of_cell? W _ hc
 have hc2 := (zA2 (Below.refl W.heap.size W) (.cells #[.string y0, .slice A' ys.length c'] 57)).cell (p := ⟨B, 1, none⟩) hlt
 rw [hc] at hc2
 have HE := zA1.mk (zBa.calls k A c xs A' c' ys r (W.alloc (.cells #[.string y0, .slice A' ys.length c'] 57)) (Kd.zAf hx _) hxc (Kd.zAf hy _) hyc h)
 clear hx hy hxc hyc h
 go_enter Tryd.func59, Tryd.ntmps59
 go_wp2_with (go_at_call 60; refine HE.out.mono ?_; rintro e w' ⟨rfl, ⟨nd, rfl⟩⟩)
 go_ret
 exact ⟨rfl, zA0 (zA2 (Below.refl _ _) _) _⟩
end
end Go.Proofs.YtbghfbhlbfcloaaDoor.PL
namespace Go.Proofs.YtbghfbhlbfcloaaDoor.PL
section
open Go.RowKit Go.Proofs Go.Proofs.YtbghfbhlbfcloaaDoorW.PrintWords Go.Proofs.YtbghfbhlbfcloaaDoorW.PrintLast Go.Proofs.YtbghfbhlbfcloaaDoorW.PrintMore
set_option linter.unusedVariables false
set_option linter.unusedSimpArgs false

def badR (r : Nat) : Bool := decide (r < 33) || decide (126 < r)
def nameB (s : ByteArray) : Bool := decide (0 < s.size) && decide (s.size ≤ 40) && !(decide (0 ≤ Lib.idxFunc badR true s))

theorem pred76 (w : World) : PredAt Tryd.prog 76 #[] encR badR w := fun W r _ => by
 unfold FnGives
 by_cases h1 : (r : Int) < 33
 ·have h2 : r < 33 := by omega
  go_enter Tryd.func76, Tryd.ntmps76
  go_wp2
  go_ret
  exact ⟨by simp [badR, h2], 0, rfl⟩
 ·have h2 : ¬ r < 33 := by omega
  by_cases h3 : (126 : Int) < r
  ·have h4 : 126 < r := by omega
   go_enter Tryd.func76, Tryd.ntmps76
   go_wp2
   go_ret
   exact ⟨by simp [badR, h4], 0, rfl⟩
  ·have h4 : ¬ 126 < r := by omega
   go_enter Tryd.func76, Tryd.ntmps76
   go_wp2
   go_ret
   exact ⟨by simp [badR, h2, h4], 0, rfl⟩

theorem contS (s : ByteArray) (w : World) : Calls Tryd.prog 75 #[.string s, .func (.func 76) #[] #[]] w fun e w' => e = .returned (.bool (decide (0 ≤ Lib.idxFunc badR true s))) ∧ Below w.heap.size w w' :=
 Any.strings_ContainsFunc Tryd.contS 76 #[] (enters_of Tryd.func76 (by kernel_rfl) rfl) badR s w (pred76 w)

set_option maxHeartbeats 1000000 in
theorem nameC (s : ByteArray) (w : World) : Calls Tryd.prog 55 #[.string s] w fun e w' => e = .returned (.bool (nameB s)) ∧ Below w.heap.size w w' := by
 have HC := zA1.mk (fun w => contS s w)
 by_cases h1 : (0 : Int) < s.size
 ·by_cases h2 : (s.size : Int) ≤ 40
  ·go_enter Tryd.func55, Tryd.ntmps55
   go_wp2_with (go_at_call 75; refine (HC.out _).mono ?_; rintro e w' ⟨rfl, hb⟩)
   go_ret
   have e : nameB s = !decide (0 ≤ Lib.idxFunc badR true s) := by unfold nameB; rw [decide_eq_true (show 0 < s.size by omega), decide_eq_true (show s.size ≤ 40 by omega)]; rfl
   exact ⟨by rw [e]; rfl, hb⟩
  ·have e : nameB s = false := by unfold nameB; rw [decide_eq_false (show ¬ s.size ≤ 40 by omega), Bool.and_false]; rfl
   go_enter Tryd.func55, Tryd.ntmps55
   go_wp2
   go_ret
   exact ⟨rfl, Below.refl _ _⟩
 ·have e : nameB s = false := by unfold nameB; rw [decide_eq_false (show ¬ 0 < s.size by omega)]; rfl
  go_enter Tryd.func55, Tryd.ntmps55
  go_wp2
  go_ret
  exact ⟨rfl, Below.refl _ _⟩

theorem any_take_succ {l : List S57} {p : S57 → Bool} {x : Nat} (h : x < l.length) : (l.take (x + 1)).any p = ((l.take x).any p || p (zAs l (x : Int))) := by
 rw [List.take_succ_eq_append_getElem h, List.any_append]
 simp only [List.any_cons, List.any_nil, Bool.or_false]
 unfold zAs
 rw [Int.toNat_natCast, List.getD_eq_getElem?_getD, List.getElem?_eq_getElem h]
 rfl
theorem any_take_false {l : List S57} {p : S57 → Bool} {x i : Nat} (hx : x < i) (hi : i ≤ l.length) (h : p (zAs l (x : Int)) = true) : (l.take i).any p = true := by
 rw [List.any_eq_true]
 refine ⟨zAs l (x : Int), ?_, h⟩
 unfold zAs
 rw [Int.toNat_natCast, List.getD_eq_getElem?_getD, List.getElem?_eq_getElem (by omega)]
 rw [List.mem_iff_getElem?]
 exact ⟨x, by rw [List.getElem?_take_of_lt hx, List.getElem?_eq_getElem (by omega)]; rfl⟩
theorem rd_mem57 {l : List S57} {x : Nat} (h : x < l.length) : zAs l (x : Int) ∈ l := by
 unfold zAs
 rw [Int.toNat_natCast, List.getD_eq_getElem?_getD, List.getElem?_eq_getElem h]
 exact List.getElem_mem h
/-- slices.IndexFunc at a part of the groups, with a closure that reads a group. -/
theorem idxG (A : Option Addr) (cc i : Nat) (l : List S57) (g : Nat) (lb : Array Value) (p : S57 → Bool) (w : World) (hr : Kd.C k57 w A l.length l) (hi : i ≤ l.length) (hl : l.length < 1000000) (eg : ∀ args w, (callFunc g args).run Tryd.prog w = .ok (.enter g args) w)
  (hp : ∀ (W : World) (y : S57) (cy : List Value), y ∈ l → Below w.heap.size w W → k57.K W y cy → Calls Tryd.prog g (#[.agg cy.toArray] ++ lb) W fun e w' => e = .returned (.bool (p y)) ∧ Below W.heap.size W w') :
  Calls Tryd.prog 77 #[.slice A i cc, .func (.func g) #[] lb] w fun e w' => ∃ r : Int, e = .returned (.int .i64 r) ∧ decide (0 ≤ r) = (l.take i).any p ∧ Below w.heap.size w w' := by
 have HP := zA1.mk hp
 have HR := zA1.mk hr
 have HL := zA1.mk hl
 clear hp hr hl
 have hu57 := Tryd.underlying57
 go_enter Tryd.func77, Tryd.ntmps77
 go_wp2
 go_loopw [8] (fun v8 wr => ∃ x : Int, v8 = .int .i64 x ∧ 0 ≤ x ∧ x ≤ i ∧ zA1 ((l.take x.toNat).any p = false) ∧ zA1 (Below w.heap.size w wr)) (fun v8 _ => i - (intOf v8).toNat)
 case atStart => exact ⟨0, rfl, by omega, by omega, ⟨rfl⟩, ⟨Below.refl _ _⟩⟩
 case round =>
  obtain ⟨x, rfl, hx0, hxi, HN, HB⟩ := hrel
  have hle : (i : Int) < 1000000 := by have := HL.out; omega
  by_cases hlt : x < i
  ·obtain ⟨y, hy⟩ : ∃ y : Nat, (y : Int) = x := ⟨x.toNat, by omega⟩
   obtain ⟨ad, A1, c1, rfl, ha0, ha1, hc1, hC1⟩ := at_T57 HR.out x (by omega) (by omega)
   have hb0 := (HB.out.cell (World.block_lt_of_cell? w _ ha0)).trans ha0
   have hb1 := (HB.out.cell (World.block_lt_of_cell? w _ ha1)).trans ha1
   have hmem : zAs l x ∈ l := by rw [← hy]; exact rd_mem57 (by omega)
   have HK := zA1.mk (HP.out wr (zAs l x) [.string (zAs l x).f0, .slice A1 (zAs l x).f1.length c1] hmem HB.out (k57_mk wr (zAs l x) hc1 (Kd.zB1 hC1 HB.out)))
   clear ha0 ha1 hC1 hc1 hmem
   by_cases hpy : p (zAs l x) = true
   ·have HQ := zA1.mk (any_take_false (x := y) (i := i) (by omega) hi (by rw [hy]; exact hpy))
    rw [hpy] at HK
    clear hpy hy
    generalize (zAs l x).f0 = s0 at hb0 HK
    generalize (zAs l x).f1.length = n1 at hb1 HK
    go_wp2_with (go_at_fn g; refine HK.out.mono ?_; rintro e w2 ⟨rfl, hb2⟩)
    go_ret
    exact ⟨x, rfl, by rw [HQ.out]; exact decide_eq_true hx0, HB.out.trans (hb2.mono HB.out.size)⟩
   ·have HQ := zA1.mk (any_take_succ (x := y) (l := l) (p := p) (by omega))
    rw [hy] at HQ
    have hpf : p (zAs l x) = false := by simpa using hpy
    have e1 : (x + 1).toNat = y + 1 := by omega
    have e0 : x.toNat = y := by omega
    rw [hpf] at HK
    have HN2 : zA1 ((l.take (x + 1).toNat).any p = false) := ⟨by rw [e1, HQ.out, ← e0, HN.out, hpf]; rfl⟩
    clear hpy hy HQ hpf e1 e0
    generalize (zAs l x).f0 = s0 at hb0 HK
    generalize (zAs l x).f1.length = n1 at hb1 HK
    go_wp2_with (go_at_fn g; refine HK.out.mono ?_; rintro e w2 ⟨rfl, hb2⟩)
    go_roundw
    case rel => exact ⟨x + 1, by go_num, by omega, by omega, HN2, ⟨HB.out.trans (hb2.mono HB.out.size)⟩⟩
    case measure => simp [intOf]; omega
  ·go_wp2
   go_ret
   have e : x.toNat = i := by omega
   exact ⟨-1, rfl, by rw [← e, HN.out]; rfl, HB.out⟩

/-- slices.ContainsFunc at a part of the groups, with a closure that reads a group. -/
theorem contG (A : Option Addr) (cc i : Nat) (l : List S57) (g : Nat) (lb : Array Value) (p : S57 → Bool) (w : World) (hr : Kd.C k57 w A l.length l) (hi : i ≤ l.length) (hl : l.length < 1000000) (eg : ∀ args w, (callFunc g args).run Tryd.prog w = .ok (.enter g args) w)
  (hp : ∀ (W : World) (y : S57) (cy : List Value), y ∈ l → Below w.heap.size w W → k57.K W y cy → Calls Tryd.prog g (#[.agg cy.toArray] ++ lb) W fun e w' => e = .returned (.bool (p y)) ∧ Below W.heap.size W w') :
  Calls Tryd.prog 56 #[.slice A i cc, .func (.func g) #[] lb] w fun e w' => e = .returned (.bool ((l.take i).any p)) ∧ Below w.heap.size w w' := by
 have HI := zA1.mk (idxG A cc i l g lb p w hr hi hl eg hp)
 clear hp hr
 go_enter Tryd.func56, Tryd.ntmps56
 go_wp2_with (go_at_call 77; refine HI.out.mono ?_; rintro e w2 ⟨r, rfl, hd, hb⟩)
 go_ret
 exact ⟨rfl, hb⟩
end
end Go.Proofs.YtbghfbhlbfcloaaDoor.PL
namespace Go.Proofs.YtbghfbhlbfcloaaDoor.PL
section
open Go.RowKit Go.Proofs Go.Proofs.YtbghfbhlbfcloaaDoorW.PrintWords Go.Proofs.YtbghfbhlbfcloaaDoorW.PrintLast Go.Proofs.YtbghfbhlbfcloaaDoorW.PrintMore
set_option linter.unusedVariables false
set_option linter.unusedSimpArgs false

def CG.k : Nat := 200
/-- slices.Equal, told plainly. -/
theorem equal_l (xs ys : List Int) (hxy : xs.length = ys.length) (hl : xs.length ≤ 150) : ∀ (k i : Nat), i ≤ xs.length → xs.length - i < k → zBa.l0 k xs ys (xs.length : Int) (i : Int) = some (decide (xs.drop i = ys.drop i))
 | 0, i, _, h => absurd h (Nat.not_lt_zero _)
 | k + 1, i, hi, h => by
  unfold zBa.l0
  by_cases hlt : i < xs.length
  ·have ih := equal_l xs ys hxy hl k (i + 1) (by omega) (by omega)
   have h2 : i < ys.length := by omega
   rw [if_pos (by omega), if_pos (by omega), if_pos (by omega), if_pos (by omega)]
   have ex : xs.drop i = (Go.Proofs.YtbghfbhlbfcloaaDoorW.PrintWords.rd xs i) :: xs.drop (i + 1) := by
    rw [List.drop_eq_getElem_cons hlt]
    unfold Go.Proofs.YtbghfbhlbfcloaaDoorW.PrintWords.rd
    rw [Int.toNat_natCast, List.getD_eq_getElem?_getD, List.getElem?_eq_getElem hlt]
    rfl
   have ey : ys.drop i = (Go.Proofs.YtbghfbhlbfcloaaDoorW.PrintWords.rd ys i) :: ys.drop (i + 1) := by
    rw [List.drop_eq_getElem_cons h2]
    unfold Go.Proofs.YtbghfbhlbfcloaaDoorW.PrintWords.rd
    rw [Int.toNat_natCast, List.getD_eq_getElem?_getD, List.getElem?_eq_getElem h2]
    rfl
   rw [ex, ey]
   by_cases he : Go.Proofs.YtbghfbhlbfcloaaDoorW.PrintWords.rd xs (i : Int) = Go.Proofs.YtbghfbhlbfcloaaDoorW.PrintWords.rd ys (i : Int)
   ·rw [if_pos he, he]
    have hw : wrap64 ((i : Int) + 1) = ((i + 1 : Nat) : Int) := by
     unfold wrap64
     omega
    rw [hw, ih]
    congr 1
    simp
   ·rw [if_neg he]
    rw [decide_eq_false (fun e => he (by injection e))]
  ·rw [if_neg (by omega)]
   have h1 : xs.drop i = [] := List.drop_eq_nil_of_le (by omega)
   have h2 : ys.drop i = [] := List.drop_eq_nil_of_le (by omega)
   rw [h1, h2]
   simp
theorem equal_f (xs ys : List Int) (hl : xs.length ≤ 150) : zBa.f CG.k xs ys = some (decide (xs = ys)) := by
 unfold zBa.f
 by_cases h : xs.length = ys.length
 ·rw [if_pos (by omega)]
  have := equal_l xs ys h hl CG.k 0 (Nat.zero_le _) (by unfold CG.k; omega)
  simpa using this
 ·rw [if_neg (by omega), decide_eq_false (fun e => h (by rw [e]))]

/-- Does a group's mask cross another's? -/
def CG.cross (m o : Int) : Bool := decide (Go.bits .and .u64 o m ≠ 0) && decide (Go.bits .and .u64 o m ≠ m) && decide (Go.bits .and .u64 o m ≠ o)
def CG.inn (m : Int) : List S57 → Option Bool
 | [] => some false
 | y :: r => (zB0.f CG.k y.f1).bind fun o => if CG.cross m o = true then some true else CG.inn m r
/-- What a round says of group number i, x: 0: go on. -/
def CG.one (l : List S57) (n : Int) (i : Nat) (x : S57) : Option Int :=
 if nameB x.f0 = false then some 11 else
 if (l.take i).any (fun y => y.f0.toList == x.f0.toList) = true then some 9 else
 if (x.f1.length : Int) < 2 then some 7 else
 (zB3.f CG.k x.f1 n).bind fun e => if e ≠ 0 then some e else
 if (l.take i).any (fun y => decide (x.f1 = y.f1)) = true then some 9 else
 (zB0.f CG.k x.f1).bind fun m => (CG.inn m (l.take i)).bind fun b => if b = true then some 17 else some 0
def CG.go (l : List S57) (n : Int) : Nat → List S57 → Option Int
 | _, [] => some 0
 | i, x :: r => (CG.one l n i x).bind fun e => if e = 0 then CG.go l n (i + 1) r else some e
def CG.f (l : List S57) (n : Int) : Option Int :=
 if n < 0 ∨ 12 < n then some 2 else if 32 < (l.length : Int) then some 6 else if (l.all fun x => decide (x.f1.length ≤ 150)) = true then CG.go l n 0 l else none

theorem drop57 (l : List S57) (x : Int) (h0 : 0 ≤ x) (h1 : x < l.length) : l.drop x.toNat = zAs l x :: l.drop (x + 1).toNat := by
 rw [show (x + 1).toNat = x.toNat + 1 by omega, List.drop_eq_getElem_cons (show x.toNat < l.length by omega)]
 unfold zAs
 rw [List.getD_eq_getElem?_getD, List.getElem?_eq_getElem (show x.toNat < l.length by omega)]
 rfl
end
end Go.Proofs.YtbghfbhlbfcloaaDoor.PL
namespace Go.Proofs.YtbghfbhlbfcloaaDoor.PL
section
open Go.RowKit Go.Proofs Go.Proofs.YtbghfbhlbfcloaaDoorW.PrintWords Go.Proofs.YtbghfbhlbfcloaaDoorW.PrintLast Go.Proofs.YtbghfbhlbfcloaaDoorW.PrintMore
set_option linter.unusedVariables false
set_option linter.unusedSimpArgs false

theorem e57 : ∀ args w, (callFunc 57 args).run Tryd.prog w = .ok (.enter 57 args) w := enters_of Tryd.func57 (by kernel_rfl) rfl
theorem e59 : ∀ args w, (callFunc 59 args).run Tryd.prog w = .ok (.enter 59 args) w := enters_of Tryd.func59 (by kernel_rfl) rfl
set_option maxRecDepth 100000 in
set_option maxHeartbeats 4000000 in
theorem CG.calls (A0 : Option Addr) (c0 : Nat) (l0 : List S57) (a1 : Int) (r : Int) (w : World) (hr0 : Kd.C k57 w A0 l0.length l0) (hc0 : l0.length ≤ c0) (h : CG.f l0 a1 = some r) :
  Calls Tryd.prog 29 #[.slice A0 l0.length c0, .int .i64 a1] w fun e w' => e = .returned (.int .i64 r) ∧ Below w.heap.size w w' := by
 have hu57 := Tryd.underlying57
 unfold CG.f at h
 by_cases hn : a1 < 0 ∨ 12 < a1
 ·rw [if_pos hn] at h
  injection h with h
  subst h
  by_cases hn0 : a1 < 0
  ·go_enter Tryd.func29, Tryd.ntmps29
   go_wp2
   go_ret
   exact ⟨rfl, Below.refl _ _⟩
  ·have hn1 : 12 < a1 := by omega
   go_enter Tryd.func29, Tryd.ntmps29
   go_wp2
   go_ret
   exact ⟨rfl, Below.refl _ _⟩
 ·rw [if_neg hn] at h
  have hn0 : ¬ a1 < 0 := by omega
  have hn1 : ¬ 12 < a1 := by omega
  by_cases hl : 32 < (l0.length : Int)
  ·rw [if_pos hl] at h
   injection h with h
   subst h
   go_enter Tryd.func29, Tryd.ntmps29
   go_wp2
   go_ret
   exact ⟨rfl, Below.refl _ _⟩
  ·rw [if_neg hl] at h
   split at h
   case isFalse => cases h
   rename_i hall
   have HALL := zA1.mk (List.all_eq_true.1 hall)
   have HR := zA1.mk hr0
   have HC := zA1.mk hc0
   have H' := zA1.mk h
   have HL := zA1.mk hl
   clear hall hr0 hc0 h hn
   go_enter Tryd.func29, Tryd.ntmps29
   go_wp2
   go_loopw [23] (fun v23 wr => ∃ x : Int, v23 = .int .i64 x ∧ 0 ≤ x ∧ x ≤ l0.length ∧ zA1 (CG.go l0 a1 x.toNat (l0.drop x.toNat) = some r) ∧ zA1 (Below w.heap.size w wr)) (fun v23 _ => l0.length - (intOf v23).toNat)
   case atStart => exact ⟨0, rfl, by omega, by omega, ⟨by rw [show (0 : Int).toNat = 0 from rfl, List.drop_zero]; exact H'.out⟩, ⟨Below.refl _ _⟩⟩
   case round =>
    clear H'
    obtain ⟨x, rfl, hx0, hx1, HG, HB⟩ := hrel
    have hle : (l0.length : Int) ≤ 32 := by have := HL.out; omega
    by_cases hlt : x < l0.length
    ·have hg := HG.out
     rw [drop57 l0 x hx0 hlt] at hg
     unfold CG.go at hg
     obtain ⟨e, he, hg⟩ := Option.bind_eq_some_iff.1 hg
     have HE := zA1.mk he
     have HG2 := zA1.mk hg
     clear he hg HG
     obtain ⟨ad, A1, c1, rfl, ha0, ha1, hc1, hC1⟩ := at_T57 HR.out x (by omega) (by omega)
     have hb0 := (HB.out.cell (World.block_lt_of_cell? w _ ha0)).trans ha0
     have hb1 := (HB.out.cell (World.block_lt_of_cell? w _ ha1)).trans ha1
     have HC1 := zA1.mk hC1
     have HCC1 := zA1.mk hc1
     have HXL := zA1.mk (show (zAs l0 x).f1.length ≤ 150 by
      have hm : zAs l0 x ∈ l0 := by
       have := rd_mem57 (l := l0) (x := x.toNat) (by omega)
       rwa [show ((x.toNat : Nat) : Int) = x by omega] at this
      have := HALL.out _ hm
      simpa using this)
     clear ha0 ha1 hC1 hc1
     generalize hX : zAs l0 x = X at hb0 hb1 HE HC1 HCC1 HXL
     have HXX := zA1.mk hX
     clear hX
     obtain ⟨s0, ms⟩ := X
     dsimp only at hb0 hb1 HC1 HCC1 HXL
     have K59 : ∀ (B : Nat) (W : World), W.heap[B]? = some (.cells #[.string s0, .slice A1 ms.length c1] 57 (0, 0)) → Below w.heap.size w W →
       ∀ (W2 : World) (y : S57) (cy : List Value), y ∈ l0 → Below W.heap.size W W2 → k57.K W2 y cy → Calls Tryd.prog 59 (#[.agg cy.toArray] ++ #[.pointer (some ⟨B, 0, none⟩)]) W2 fun e w' => e = .returned (.bool (decide (ms = y.f1))) ∧ Below W2.heap.size W2 w' := by
      intro B W hB hW W2 y cy hy hW2 hk
      obtain ⟨A, c, rfl, h1, h2⟩ := k57_open hk
      have hB2 := zAt hB hW2
      exact clo59 CG.k B y.f0 ms y.f1 A1 A c1 c _ W2 ((zA9 hB2 1).trans rfl) (Kd.zB1 (Kd.zB1 HC1.out hW) hW2) HCC1.out h2 h1 (equal_f ms y.f1 HXL.out)
     have K57 : ∀ (B : Nat) (W : World), W.heap[B]? = some (.cells #[.string s0, .slice A1 ms.length c1] 57 (0, 0)) →
       ∀ (W2 : World) (y : S57) (cy : List Value), y ∈ l0 → Below W.heap.size W W2 → k57.K W2 y cy → Calls Tryd.prog 57 (#[.agg cy.toArray] ++ #[.pointer (some ⟨B, 0, none⟩)]) W2 fun e w' => e = .returned (.bool (y.f0.toList == s0.toList)) ∧ Below W2.heap.size W2 w' := by
      intro B W hB W2 y cy hy hW2 hk
      obtain ⟨A, c, rfl, h1, h2⟩ := k57_open hk
      have hB2 := zAt hB hW2
      exact clo57 B s0 y.f0 (.slice A y.f1.length c) W2 ((zA9 hB2 0).trans rfl) A y.f1.length c rfl
     have HK57 := zA1.mk K57
     have HK59 := zA1.mk K59
     clear K57 K59
     have hxc : x ≤ (c0 : Int) := by have := HC.out; omega
     have hcz : (c0 = 0) = False := eq_false (by have := HC.out; omega)
     have he := HE.out
     unfold CG.one at he
     dsimp only at he
     cases q1 : nameB s0 with
     | false =>
      rw [q1, if_pos rfl] at he
      injection he with he
      subst he
      have hg := HG2.out
      rw [if_neg (by decide)] at hg
      injection hg with hg
      subst hg
      go_wp2_with (first | (go_at_call 55; refine (nameC s0 _).mono ?_; rintro e w2 ⟨rfl, hb2⟩; have hk2 := zAt (blk_new wr (.cells #[.string s0, .slice A1 ms.length c1] 57)) hb2; have HK2 := zA1.mk hk2; have hz2 : w2.cell? ⟨wr.heap.size, 1, none⟩ = some (.slice A1 ms.length c1) := (zA9 hk2 1).trans rfl; have HB2 := zA1.mk ((zA2 HB.out _).trans (hb2.mono (by have := HB.out.size; simp; omega))); clear hb2 hk2))
      go_ret
      exact ⟨rfl, HB2.out⟩
     | true =>
      rw [q1, if_neg (by decide)] at he
      cases q2 : (l0.take x.toNat).any (fun y => y.f0.toList == s0.toList) with
      | true =>
       rw [q2, if_pos rfl] at he
       injection he with he
       subst he
       have hg := HG2.out
       rw [if_neg (by decide)] at hg
       injection hg with hg
       subst hg
       go_wp2_with (first | (go_at_call 55; refine (nameC s0 _).mono ?_; rintro e w2 ⟨rfl, hb2⟩; have hk2 := zAt (blk_new wr (.cells #[.string s0, .slice A1 ms.length c1] 57)) hb2; have HK2 := zA1.mk hk2; have hz2 : w2.cell? ⟨wr.heap.size, 1, none⟩ = some (.slice A1 ms.length c1) := (zA9 hk2 1).trans rfl; have HB2 := zA1.mk ((zA2 HB.out _).trans (hb2.mono (by have := HB.out.size; simp; omega))); clear hb2 hk2) | (go_at_call 56; with_reducible refine (contG (some ad) c0 x.toNat l0 57 #[.pointer (some ⟨wr.heap.size, 0, none⟩)] (fun y => y.f0.toList == s0.toList) w2 (Kd.zB1 HR.out HB2.out) (by omega) (by omega) e57 (HK57.out wr.heap.size w2 HK2.out)).mono ?_; rintro e w3 ⟨rfl, hb3⟩; have hk3 := zAt HK2.out hb3; have HK3 := zA1.mk hk3; have hz3 : w3.cell? ⟨wr.heap.size, 1, none⟩ = some (.slice A1 ms.length c1) := (zA9 hk3 1).trans rfl; have HB3 := zA1.mk (HB2.out.trans (hb3.mono HB2.out.size)); clear hb3 hk3))
       go_ret
       exact ⟨rfl, HB3.out⟩
      | false =>
       rw [q2, if_neg (by decide)] at he
       by_cases q3 : (ms.length : Int) < 2
       ·rw [if_pos q3] at he
        injection he with he
        subst he
        have hg := HG2.out
        rw [if_neg (by decide)] at hg
        injection hg with hg
        subst hg
        go_wp2_with (first | (go_at_call 55; refine (nameC s0 _).mono ?_; rintro e w2 ⟨rfl, hb2⟩; have hk2 := zAt (blk_new wr (.cells #[.string s0, .slice A1 ms.length c1] 57)) hb2; have HK2 := zA1.mk hk2; have hz2 : w2.cell? ⟨wr.heap.size, 1, none⟩ = some (.slice A1 ms.length c1) := (zA9 hk2 1).trans rfl; have HB2 := zA1.mk ((zA2 HB.out _).trans (hb2.mono (by have := HB.out.size; simp; omega))); clear hb2 hk2) | (go_at_call 56; with_reducible refine (contG (some ad) c0 x.toNat l0 57 #[.pointer (some ⟨wr.heap.size, 0, none⟩)] (fun y => y.f0.toList == s0.toList) w2 (Kd.zB1 HR.out HB2.out) (by omega) (by omega) e57 (HK57.out wr.heap.size w2 HK2.out)).mono ?_; rintro e w3 ⟨rfl, hb3⟩; have hk3 := zAt HK2.out hb3; have HK3 := zA1.mk hk3; have hz3 : w3.cell? ⟨wr.heap.size, 1, none⟩ = some (.slice A1 ms.length c1) := (zA9 hk3 1).trans rfl; have HB3 := zA1.mk (HB2.out.trans (hb3.mono HB2.out.size)); clear hb3 hk3))
        go_ret
        exact ⟨rfl, HB3.out⟩
       ·rw [if_neg q3] at he
        obtain ⟨e58, he58, he⟩ := Option.bind_eq_some_iff.1 he
        have HE58 := zA1.mk he58
        clear he58
        by_cases h58 : e58 = 0
        case neg =>
         have q58 : (e58 != 0) = true := by simpa using h58
         rw [if_pos h58] at he
         injection he with he
         subst he
         have hg := HG2.out
         rw [if_neg (by exact h58)] at hg
         injection hg with hg
         subst hg
         go_wp2_with (first | (go_at_call 55; refine (nameC s0 _).mono ?_; rintro e w2 ⟨rfl, hb2⟩; have hk2 := zAt (blk_new wr (.cells #[.string s0, .slice A1 ms.length c1] 57)) hb2; have HK2 := zA1.mk hk2; have hz2 : w2.cell? ⟨wr.heap.size, 1, none⟩ = some (.slice A1 ms.length c1) := (zA9 hk2 1).trans rfl; have HB2 := zA1.mk ((zA2 HB.out _).trans (hb2.mono (by have := HB.out.size; simp; omega))); clear hb2 hk2) | (go_at_call 56; with_reducible refine (contG (some ad) c0 x.toNat l0 57 #[.pointer (some ⟨wr.heap.size, 0, none⟩)] (fun y => y.f0.toList == s0.toList) w2 (Kd.zB1 HR.out HB2.out) (by omega) (by omega) e57 (HK57.out wr.heap.size w2 HK2.out)).mono ?_; rintro e w3 ⟨rfl, hb3⟩; have hk3 := zAt HK2.out hb3; have HK3 := zA1.mk hk3; have hz3 : w3.cell? ⟨wr.heap.size, 1, none⟩ = some (.slice A1 ms.length c1) := (zA9 hk3 1).trans rfl; have HB3 := zA1.mk (HB2.out.trans (hb3.mono HB2.out.size)); clear hb3 hk3) | (go_at_call 58; refine (zB3.calls CG.k A1 c1 ms a1 e58 w3 (Kd.zB1 HC1.out HB3.out) HCC1.out HE58.out).mono ?_; rintro e w4 ⟨rfl, ⟨nd, rfl⟩⟩; have hk4 := zA6 HK3.out nd; have HK4 := zA1.mk hk4; have hz4 : (w3.drewN nd).cell? ⟨wr.heap.size, 1, none⟩ = some (.slice A1 ms.length c1) := (zA9 hk4 1).trans rfl; have HB4 := zA1.mk (zA0 HB3.out nd); clear hk4))
         go_ret
         exact ⟨rfl, HB4.out⟩
        case pos =>
         rw [if_neg (fun h => h h58)] at he
         subst h58
         cases q5 : (l0.take x.toNat).any (fun y => decide (ms = y.f1)) with
         | true =>
          rw [q5, if_pos rfl] at he
          injection he with he
          subst he
          have hg := HG2.out
          rw [if_neg (by decide)] at hg
          injection hg with hg
          subst hg
          go_wp2_with (first | (go_at_call 55; refine (nameC s0 _).mono ?_; rintro e w2 ⟨rfl, hb2⟩; have hk2 := zAt (blk_new wr (.cells #[.string s0, .slice A1 ms.length c1] 57)) hb2; have HK2 := zA1.mk hk2; have hz2 : w2.cell? ⟨wr.heap.size, 1, none⟩ = some (.slice A1 ms.length c1) := (zA9 hk2 1).trans rfl; have HB2 := zA1.mk ((zA2 HB.out _).trans (hb2.mono (by have := HB.out.size; simp; omega))); clear hb2 hk2) | (go_at_call 56; with_reducible refine (contG (some ad) c0 x.toNat l0 57 #[.pointer (some ⟨wr.heap.size, 0, none⟩)] (fun y => y.f0.toList == s0.toList) w2 (Kd.zB1 HR.out HB2.out) (by omega) (by omega) e57 (HK57.out wr.heap.size w2 HK2.out)).mono ?_; rintro e w3 ⟨rfl, hb3⟩; have hk3 := zAt HK2.out hb3; have HK3 := zA1.mk hk3; have hz3 : w3.cell? ⟨wr.heap.size, 1, none⟩ = some (.slice A1 ms.length c1) := (zA9 hk3 1).trans rfl; have HB3 := zA1.mk (HB2.out.trans (hb3.mono HB2.out.size)); clear hb3 hk3) | (go_at_call 58; refine (zB3.calls CG.k A1 c1 ms a1 0 w3 (Kd.zB1 HC1.out HB3.out) HCC1.out HE58.out).mono ?_; rintro e w4 ⟨rfl, ⟨nd, rfl⟩⟩; have hk4 := zA6 HK3.out nd; have HK4 := zA1.mk hk4; have hz4 : (w3.drewN nd).cell? ⟨wr.heap.size, 1, none⟩ = some (.slice A1 ms.length c1) := (zA9 hk4 1).trans rfl; have HB4 := zA1.mk (zA0 HB3.out nd); clear hk4) | (go_at_call 56; with_reducible refine (contG (some ad) c0 x.toNat l0 59 #[.pointer (some ⟨wr.heap.size, 0, none⟩)] (fun y => decide (ms = y.f1)) _ (Kd.zB1 HR.out HB4.out) (by omega) (by omega) e59 (HK59.out wr.heap.size _ HK4.out HB4.out)).mono ?_; rintro e w5 ⟨rfl, hb5⟩; have hk5 := zAt HK4.out hb5; have HK5 := zA1.mk hk5; have hz5 : w5.cell? ⟨wr.heap.size, 1, none⟩ = some (.slice A1 ms.length c1) := (zA9 hk5 1).trans rfl; have HB5 := zA1.mk (HB4.out.trans (hb5.mono HB4.out.size)); clear hb5 hk5))
          go_ret
          exact ⟨rfl, HB5.out⟩
         | false =>
          rw [q5, if_neg (by decide)] at he
          obtain ⟨m, hm, he⟩ := Option.bind_eq_some_iff.1 he
          obtain ⟨b, hb, he⟩ := Option.bind_eq_some_iff.1 he
          have HM := zA1.mk hm
          have HI := zA1.mk hb
          have HEE := zA1.mk he
          clear hm hb he
          go_wp2_with (first | (go_at_call 55; refine (nameC s0 _).mono ?_; rintro e w2 ⟨rfl, hb2⟩; have hk2 := zAt (blk_new wr (.cells #[.string s0, .slice A1 ms.length c1] 57)) hb2; have HK2 := zA1.mk hk2; have hz2 : w2.cell? ⟨wr.heap.size, 1, none⟩ = some (.slice A1 ms.length c1) := (zA9 hk2 1).trans rfl; have HB2 := zA1.mk ((zA2 HB.out _).trans (hb2.mono (by have := HB.out.size; simp; omega))); clear hb2 hk2) | (go_at_call 56; with_reducible refine (contG (some ad) c0 x.toNat l0 57 #[.pointer (some ⟨wr.heap.size, 0, none⟩)] (fun y => y.f0.toList == s0.toList) w2 (Kd.zB1 HR.out HB2.out) (by omega) (by omega) e57 (HK57.out wr.heap.size w2 HK2.out)).mono ?_; rintro e w3 ⟨rfl, hb3⟩; have hk3 := zAt HK2.out hb3; have HK3 := zA1.mk hk3; have hz3 : w3.cell? ⟨wr.heap.size, 1, none⟩ = some (.slice A1 ms.length c1) := (zA9 hk3 1).trans rfl; have HB3 := zA1.mk (HB2.out.trans (hb3.mono HB2.out.size)); clear hb3 hk3) | (go_at_call 58; refine (zB3.calls CG.k A1 c1 ms a1 0 w3 (Kd.zB1 HC1.out HB3.out) HCC1.out HE58.out).mono ?_; rintro e w4 ⟨rfl, ⟨nd, rfl⟩⟩; have hk4 := zA6 HK3.out nd; have HK4 := zA1.mk hk4; have hz4 : (w3.drewN nd).cell? ⟨wr.heap.size, 1, none⟩ = some (.slice A1 ms.length c1) := (zA9 hk4 1).trans rfl; have HB4 := zA1.mk (zA0 HB3.out nd); clear hk4) | (go_at_call 56; with_reducible refine (contG (some ad) c0 x.toNat l0 59 #[.pointer (some ⟨wr.heap.size, 0, none⟩)] (fun y => decide (ms = y.f1)) _ (Kd.zB1 HR.out HB4.out) (by omega) (by omega) e59 (HK59.out wr.heap.size _ HK4.out HB4.out)).mono ?_; rintro e w5 ⟨rfl, hb5⟩; have hk5 := zAt HK4.out hb5; have HK5 := zA1.mk hk5; have hz5 : w5.cell? ⟨wr.heap.size, 1, none⟩ = some (.slice A1 ms.length c1) := (zA9 hk5 1).trans rfl; have HB5 := zA1.mk (HB4.out.trans (hb5.mono HB4.out.size)); clear hb5 hk5) | (go_at_call 47; refine (zB0.calls CG.k A1 c1 ms m w5 (Kd.zB1 HC1.out HB5.out) HCC1.out HM.out).mono ?_; rintro e w6 ⟨rfl, ⟨nd6, rfl⟩⟩; have HB6 := zA1.mk (zA0 HB5.out nd6)))
          go_loopw [60] (fun v60 wi => ∃ y : Int, v60 = .int .i64 y ∧ 0 ≤ y ∧ y ≤ x ∧ zA1 (CG.inn m ((l0.take x.toNat).drop y.toNat) = some b) ∧ zA1 (Below w.heap.size w wi)) (fun v60 _ => l0.length - (intOf v60).toNat)
          case atStart => exact ⟨0, rfl, by omega, by omega, ⟨by rw [show (0 : Int).toNat = 0 from rfl, List.drop_zero]; exact HI.out⟩, HB6⟩
          case round =>
           clear HI
           obtain ⟨y, rfl, hy0, hy1, HII, HBI⟩ := hrel
           have hlex : x ≤ 32 := by omega
           by_cases hlty : y < x
           ·have hi := HII.out
            have hd : (l0.take x.toNat).drop y.toNat = zAs l0 y :: (l0.take x.toNat).drop (y + 1).toNat := by
             have h1 := drop57 (l0.take x.toNat) y hy0 (by rw [List.length_take]; omega)
             rw [h1]
             congr 1
             unfold zAs
             rw [List.getD_eq_getElem?_getD, List.getD_eq_getElem?_getD, List.getElem?_take_of_lt (by omega)]
            rw [hd] at hi
            unfold CG.inn at hi
            obtain ⟨o, ho, hi⟩ := Option.bind_eq_some_iff.1 hi
            have HO := zA1.mk ho
            clear ho hd HII
            obtain ⟨ad2, A2, c2, hade, hd0, hd1, hc2, hC2⟩ := at_T57 HR.out y (by omega) (by omega)
            injection hade with hade
            subst hade
            have hb20 := (HBI.out.cell (World.block_lt_of_cell? w _ hd0)).trans hd0
            have hb21 := (HBI.out.cell (World.block_lt_of_cell? w _ hd1)).trans hd1
            have HC2 := zA1.mk hC2
            have HCC2 := zA1.mk hc2
            clear hd0 hd1 hc2 hC2
            generalize (zAs l0 y).f0 = s2 at hb20
            generalize (zAs l0 y).f1 = ms2 at hb21 HO HC2 HCC2
            have hyx : y < (x.toNat : Int) := by omega
            by_cases z1 : Go.bits .and .u64 o m = 0
            ·have zb1 : (Go.bits .and .u64 o m != 0) = false := by rw [z1]; rfl
             rw [if_neg (by unfold CG.cross; rw [decide_eq_false (fun h => h z1)]; simp)] at hi
             clear z1
             have HI2 := zA1.mk hi
             clear hi
             go_wp2_with (go_at_call 47; refine (zB0.calls CG.k A2 c2 ms2 o _ (Kd.zAf (Kd.zB1 HC2.out HBI.out) _) HCC2.out HO.out).mono ?_; rintro e wj ⟨rfl, ⟨ndj, rfl⟩⟩)
             go_roundw
             case rel => exact ⟨y + 1, by go_num, by omega, by omega, HI2, ⟨zA0 (zA2 HBI.out _) _⟩⟩
             case measure => simp [intOf]; omega
            ·have zb1 : (Go.bits .and .u64 o m != 0) = true := by simpa using z1
             by_cases z2 : Go.bits .and .u64 o m = m
             ·have zb2 : (Go.bits .and .u64 o m != m) = false := by rw [z2]; simp
              rw [if_neg (by unfold CG.cross; rw [decide_eq_false (p := Go.bits .and .u64 o m ≠ m) (fun h => h z2)]; simp)] at hi
              clear z1 z2
              have HI2 := zA1.mk hi
              clear hi
              go_wp2_with (go_at_call 47; refine (zB0.calls CG.k A2 c2 ms2 o _ (Kd.zAf (Kd.zB1 HC2.out HBI.out) _) HCC2.out HO.out).mono ?_; rintro e wj ⟨rfl, ⟨ndj, rfl⟩⟩)
              go_roundw
              case rel => exact ⟨y + 1, by go_num, by omega, by omega, HI2, ⟨zA0 (zA2 HBI.out _) _⟩⟩
              case measure => simp [intOf]; omega
             ·have zb2 : (Go.bits .and .u64 o m != m) = true := by simpa using z2
              by_cases z3 : Go.bits .and .u64 o m = o
              ·have zb3 : (Go.bits .and .u64 o m != o) = false := by rw [z3]; simp
               rw [if_neg (by unfold CG.cross; rw [decide_eq_false (p := Go.bits .and .u64 o m ≠ o) (fun h => h z3)]; simp)] at hi
               clear z1 z2 z3
               have HI2 := zA1.mk hi
               clear hi
               go_wp2_with (go_at_call 47; refine (zB0.calls CG.k A2 c2 ms2 o _ (Kd.zAf (Kd.zB1 HC2.out HBI.out) _) HCC2.out HO.out).mono ?_; rintro e wj ⟨rfl, ⟨ndj, rfl⟩⟩)
               go_roundw
               case rel => exact ⟨y + 1, by go_num, by omega, by omega, HI2, ⟨zA0 (zA2 HBI.out _) _⟩⟩
               case measure => simp [intOf]; omega
              ·have zb3 : (Go.bits .and .u64 o m != o) = true := by simpa using z3
               rw [if_pos (by unfold CG.cross; rw [decide_eq_true z1, decide_eq_true z2, decide_eq_true z3]; rfl)] at hi
               injection hi with hi
               have he := HEE.out
               rw [← hi, if_pos rfl] at he
               injection he with he
               have hg := HG2.out
               rw [← he, if_neg (by decide)] at hg
               injection hg with hg
               subst hg
               clear z1 z2 z3 hi he
               go_wp2_with (go_at_call 47; refine (zB0.calls CG.k A2 c2 ms2 o _ (Kd.zAf (Kd.zB1 HC2.out HBI.out) _) HCC2.out HO.out).mono ?_; rintro e wj ⟨rfl, ⟨ndj, rfl⟩⟩)
               go_ret
               exact ⟨rfl, zA0 (zA2 HBI.out _) _⟩
           ·have hxy : y = x := by omega
            subst hxy
            have hi := HII.out
            rw [List.drop_eq_nil_of_le (by rw [List.length_take]; omega)] at hi
            unfold CG.inn at hi
            injection hi with hi
            have he := HEE.out
            rw [← hi, if_neg (by decide)] at he
            injection he with he
            have hg := HG2.out
            rw [← he, if_pos rfl] at hg
            have HG3 : zA1 (CG.go l0 a1 (y + 1).toNat (l0.drop (y + 1).toNat) = some r) := ⟨by rw [show (y + 1).toNat = y.toNat + 1 by omega] at hg ⊢; exact hg⟩
            clear hi he hg
            go_wp2
            go_roundw
            case rel => exact ⟨y + 1, by go_num, by omega, by omega, HG3, HBI⟩
            case measure => simp [intOf]; omega
    ·go_wp2
     go_ret
     have hg := HG.out
     have e : x = l0.length := by omega
     rw [e, show ((l0.length : Int)).toNat = l0.length by omega, List.drop_length] at hg
     unfold CG.go at hg
     injection hg with hg
     subst hg
     exact ⟨rfl, HB.out⟩
end
end Go.Proofs.YtbghfbhlbfcloaaDoor.PL
namespace Go.Proofs.YtbghfbhlbfcloaaDoor.PL
section
open Go.RowKit Go.Proofs.YtbghfbhlbfcloaaDoorW.PrintWords Go.Proofs.YtbghfbhlbfcloaaDoorW.PrintLast Go.Proofs.YtbghfbhlbfcloaaDoorW.PrintMore
attribute [local go_sem] zC2 zC0 zC9 zC8 zBs zBr zC1 zBz   -- for this text's walks alone
set_option linter.unusedVariables false
set_option linter.unusedSimpArgs false
/-! ### liaison_CheckGroups: function 29 -/
def liaison_CheckGroups.f (l0 : List (S57)) (a1 : Int) : Option (Int) := CG.f l0 a1
theorem liaison_CheckGroups.calls (A0 : Option Addr) (c0 : Nat) (l0 : List (S57)) (a1 : Int) (r : Int) (w : World) (hr0 : Kd.C k57 w A0 l0.length l0) (hc0 : l0.length ≤ c0) (h : liaison_CheckGroups.f l0 a1 = some r) :
  Calls Tryd.prog 29 #[.slice A0 l0.length c0, .int .i64 a1] w fun e w' => e = .returned (.int .i64 r) ∧ Below w.heap.size w w' :=
  CG.calls A0 c0 l0 a1 r w hr0 hc0 h
end
end Go.Proofs.YtbghfbhlbfcloaaDoor.PL
