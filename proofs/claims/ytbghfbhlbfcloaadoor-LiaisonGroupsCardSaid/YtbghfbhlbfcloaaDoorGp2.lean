/- Put together by this session's program pack.py. -/
import Derived.Below
import Derived.Deep.Draws
import Derived.Deep.AppendLies
import Derived.Maps.AppendAt
import Derived.OwnWalk
import Derived.Laws.BytesArg
import Derived.Laws.MakeOwn
import Derived.Laws.OwnMore
import Derived.Deep.OwnRows
import Derived.Tactics
import Derived.Lib.ConvBytes
import Derived.Laws.Slices
import Derived.WalkKit
import Derived.KernelRfl
import Derived.RowKit3
import Derived.Deep.LoopGhost
import Derived.Deep.QuietTactic
import Derived.BigQuiet
import Derived.WideLaws
import Derived.Deep.DeepCutAuto
import Derived.Deep.CutBlock
import Derived.Deep.RegionHeld3
import Derived.Laws.Rows
import Derived.Lib.AppendStr
import Derived.ArgAppend
import Derived.Laws.IdiomCopy
import Derived.OrdersHeld
import Derived.Laws.BitsLemmas
import Derived.RowKit
import Derived.Sort.Grow
import Derived.Shelf.SlicesQ.IndexFunc
import Derived.Shelf.GgClosure.StringsIndexFuncTop
import Derived.Shelf.SlGeneric
import Derived.Ground.SlgfProg
import Derived.Ground.GgwProg
import Derived.Laws.RangeAny
import Derived.Laws.RangeString
import Derived.Shelf.SlSortCmp.InsertionK
import Derived.Ground.SlsfProg
import Derived.Shelf.SlSortCmp.Insertion
import Derived.RangeFuncNested
import Derived.RangeFuncBound
import Derived.RangeFuncCalls
import Derived.RangeFuncLeaves
import Derived.Shelf.Abstract
import Derived.Shelf.RegionOpen
import Derived.OwnWalkIn
import Derived.TacticsInMore
import Derived.LoopNIn
import Derived.LoopIn
import Derived.OrdersIn
import Derived.RangeFuncKeeps
import Derived.Shelf.SlSortCmp.NoneTotal
import Derived.RangeFuncWrites
import Derived.WalkSpells
import Derived.Test.YtbghfbhlbfcloaaDoorGw0
import Derived.Test.YtbghfbhlbfcloaaDoorGp0
import Derived.Test.YtbghfbhlbfcloaaDoorGp1
namespace Go.Proofs.YtbghfbhlbfcloaaDoor.PL
section
open Go.RowKit Go.Proofs.YtbghfbhlbfcloaaDoorW.PrintWords Go.Proofs.YtbghfbhlbfcloaaDoorW.PrintLast Go.Proofs.YtbghfbhlbfcloaaDoorW.PrintMore
attribute [local go_sem] zBw zBu zC7 zC6 zBo zBn zBv zBt   -- for this text's walks alone
set_option linter.unusedVariables false
set_option linter.unusedSimpArgs false
def zAl.l0 : Nat → List (S57) → Int → Int → Int → Option (Int)
 | 0, _, _, _, _ => none
 | k + 1, x0, x1, x5, x6 => if x6 < (x0.length : Int) then (if x6 = x1 then (zAl.l0 k x0 x1 x5 (wrap64 (x6 + 1))) else (if 0 ≤ x1 then (if x1 < (x0.length : Int) then (if 0 ≤ x6 then ((zAe.f k ((zA6 x0 x1).f1) ((zA6 x0 x6).f1)).bind fun t549 => (if t549 = true then (if x5 < 0 then (zAl.l0 k x0 x1 x6 (wrap64 (x6 + 1))) else (if 0 ≤ x5 then (if x5 < (x0.length : Int) then (if (((zA6 x0 x6).f1).length : Int) < (((zA6 x0 x5).f1).length : Int) then (zAl.l0 k x0 x1 x6 (wrap64 (x6 + 1))) else (zAl.l0 k x0 x1 x5 (wrap64 (x6 + 1)))) else (none)) else (none))) else (zAl.l0 k x0 x1 x5 (wrap64 (x6 + 1))))) else (none)) else (none)) else (none))) else (some x5)
def zAl.f (k : Nat) (l0 : List (S57)) (a1 : Int) : Option (Int) := zAl.l0 k l0 a1 (-1) 0
theorem zAl.zBq : ∀ k, (∀ y0 y1 y2 y3, LeO (zAl.l0 k y0 y1 y2 y3) (zAl.l0 (k + 1) y0 y1 y2 y3))
 | 0 => fun _ _ _ _ r h => by simp [zAl.l0] at h
 | k + 1 => by
  have ih0 := zAl.zBq k
  ·intro y0 y1 y2 y3
   unfold zAl.l0
   repeat' first
   | (with_reducible exact ih0 _ _ _ _)
   | (with_reducible exact zAe.mono _ _ _)
   | (with_reducible exact LeO.refl _)
   | (with_reducible exact LeO.none _)
   | (with_reducible refine LeO.ite ?_ ?_)
   | (with_reducible refine LeO.bind ?_ (fun _ => ?_))
theorem zAl.mono : ∀ a0 a1 k, LeO (zAl.f k a0 a1) (zAl.f (k + 1) a0 a1) := by
 intro a0 a1 k
 have ih0 := zAl.zBq k
 unfold zAl.f
 repeat' first
   | (with_reducible exact ih0 _ _ _ _)
   | (with_reducible exact zAe.mono _ _ _)
   | (with_reducible exact LeO.refl _)
   | (with_reducible exact LeO.none _)
   | (with_reducible refine LeO.ite ?_ ?_)
   | (with_reducible refine LeO.bind ?_ (fun _ => ?_))
def zAl.T5 : Bool × List (List Nat × List Nat) := (true, [([], []), ([], []), ([0, 1], [0, 1]), ([2], [2]), ([3], [3]), ([3], [3]), ([4, 5, 3], [3, 4, 5]), ([6, 3], [3, 6]), ([7, 3], [3, 7]), ([3], [3]), ([3], [3]), ([9, 10, 3], [3, 9, 10]), ([11, 3], [3, 11]), ([12, 3], [3, 12]), ([8, 13, 3, 3], [3, 8, 13]), ([3, 14], [3, 14]), ([15, 14], [15]), ([16], [16]), ([17, 16], [16, 17]), ([18, 16, 16], [16, 18]), ([19], [19]), ([19], [19]), ([20, 21, 19], [19, 20, 21]), ([22, 19], [19, 22]), ([23, 19], [19, 23]), ([24, 19], [19, 24]), ([19], [19]), ([19], [19]), ([26, 27, 19], [19, 26, 27]), ([28, 19], [19, 28]), ([29, 19], [19, 29]), ([30, 19], [19, 30]), ([25, 31, 19], [19, 25, 31]), ([19, 32, 16], [16, 19, 32]), ([16, 33], [16, 33])])
def zAl.B5 : List Nat := [0, 0, 3, 7, 15, 15, 63, 127, 255, 15, 15, 1551, 3599, 7695, 16383, 32767, 65535, 131071, 262143, 524287, 1048575, 1048575, 4194303, 8388607, 16777215, 33554431, 1048575, 1048575, 202375167, 470810623, 1007681535, 2081423359, 4294967295, 8589934591, 17179869183]
theorem zAl.tab5 : rtab .any (opsOf Tryd.f31 5) = zAl.T5 := by kernel_rfl
theorem zAl.bits5 : waitsOk zAl.T5.2 zAl.B5 = true := by kernel_rfl
set_option maxHeartbeats 8000000 in
set_option maxRecDepth 100000 in
theorem zAl.calls (k : Nat) (A0 : Option Addr) (c0 : Nat) (l0 : List (S57)) (a1 : Int) (r : Int) (w : World) (hr0 : Kd.C k57 w A0 l0.length l0) (hc0 : l0.length ≤ c0) (h : zAl.f k l0 a1 = some r) :
  Calls Tryd.prog 31 #[.slice A0 l0.length c0, .int .i64 a1] w fun e w' => e = .returned (.int .i64 r) ∧ Below w.heap.size w w' := by
 have HR0 := zA1.mk hr0
 have HC0 := zA1.mk hc0
 clear hr0 hc0
 have HB := zA1.mk (Below.refl w.heap.size w)
 have H : (zAl.l0 k l0 a1 (-1) 0) = some r := h
 clear h
 have H' := zA1.mk H
 clear H
 go_enter Tryd.func31, Tryd.ntmps31
 go_wp2
 go_loopg [5, 6] k (fun kq v5 v6 w' => ∃ (x5_1 : Int) (x6_1 : Int), v5 = .int .i64 x5_1 ∧ v6 = .int .i64 x6_1 ∧ zA1 (zAl.l0 kq l0 a1 x5_1 x6_1 = some r) ∧ zA1 (kq ≤ k) ∧ zA1 (Below w.heap.size w w'))
 case atStart => exact ⟨((-1)), (0), (by first | rfl | (simp; done) | (simp [*]; done)), (by first | rfl | (simp; done) | (simp [*]; done)), H', ⟨Nat.le_refl _⟩, ⟨by repeat (first | (with_reducible first | exact HB.out | apply zA2 | apply zA0 | apply zA3) | exact HB.out)⟩⟩
 case round =>
  clear H'
  try clear p2
  obtain ⟨x5_1, x6_1, rfl, rfl, HA, HK1, HB⟩ := hrel
  cases gk with
  | zero => exact absurd HA.out (by simp [zAl.l0])
  | succ k1 =>
   have H := HA.out
   clear HA
   simp only [zAl.l0] at H
   by_cases c3 : x6_1 < (l0.length : Int)
   ·rw [if_pos c3] at H
    have c3b0 : decide (x6_1 < (l0.length : Int)) = true := decide_eq_true c3
    clear c3
    by_cases c4 : x6_1 = a1
    ·rw [if_pos c4] at H
     have c4b0 : (x6_1 == a1) = true := beq_iff_eq.mpr c4
     have c4b1 : (x6_1 != a1) = false := bne_eq_false_iff_eq.mpr c4
     clear c4
     have H' := zA1.mk H
     clear H
     try go_wp2
     have n0_ := zA1.mk (zA3 HB.out)
     clear HB
     have HB := n0_
     clear n0_
     refine start_ (n := 35) (S := fun w' => True) (ds := []) #[false, false, false, false, false, false, false, false, false, false, false, false, false, false, false, false, false, false, false, false, false, false, false, false, false, false, false, false, false, false, false, false, false, false, false] (by kernel_rfl) rfl rfl trivial (fun hHeld => ?_); refine with_tabW zAl.tab5 zAl.bits5 (fun HT_ HW_ => ?_)
     generalize wr.drew = w5 at HB hHeld ⊢
     refine pure_ (i := 0) (N := some 13) (v := ?_) (a' := ?_) #[true, false, false, false, false, false, false, false, false, false, false, false, false, false, false, false, false, false, false, false, false, false, false, false, false, false, false, false, false, false, false, false, false, false, false] rfl rfl (zAq HT_.out (by kernel_rfl)) (fun _ _ _ h => h) (Or.inl ⟨by rfl, ?_⟩) ?_ ?_
     rotate_left
     ·intro w'
      go_simp
      with_reducible rfl
     rotate_left
     ·simp only [Act.put, List.setIfInBounds_toArray, List.set_cons_zero, List.set_cons_succ, i64_w, i32_w]
      rfl
     refine pure_ (i := 1) (N := some 14) (v := ?_) (a' := ?_) #[true, true, false, false, false, false, false, false, false, false, false, false, false, false, false, false, false, false, false, false, false, false, false, false, false, false, false, false, false, false, false, false, false, false, false] rfl rfl (zAq HT_.out (by kernel_rfl)) (fun _ _ _ h => h) (Or.inl ⟨by rfl, ?_⟩) ?_ ?_
     rotate_left
     ·intro w'
      go_simp
      with_reducible rfl
     rotate_left
     ·simp only [Act.put, List.setIfInBounds_toArray, List.set_cons_zero, List.set_cons_succ, i64_w, i32_w]
      rfl
     refine pure_ (i := 2) (N := some 15) (v := ?_) (a' := ?_) #[true, true, true, false, false, false, false, false, false, false, false, false, false, false, false, false, false, false, false, false, false, false, false, false, false, false, false, false, false, false, false, false, false, false, false] rfl rfl (zAq HT_.out (by kernel_rfl)) (fun _ _ _ h => h) (Or.inl ⟨by rfl, ?_⟩) ?_ ?_
     rotate_left
     ·intro w'
      go_simp
      with_reducible rfl
     rotate_left
     ·simp only [Act.put, List.setIfInBounds_toArray, List.set_cons_zero, List.set_cons_succ, i64_w, i32_w]
      rfl
     refine pure_ (i := 3) (N := some 16) (v := ?_) (a' := ?_) #[true, true, true, true, false, false, false, false, false, false, false, false, false, false, false, false, false, false, false, false, false, false, false, false, false, false, false, false, false, false, false, false, false, false, false] rfl rfl (zAq HT_.out (by kernel_rfl)) (fun _ _ _ h => h) (Or.inl ⟨by rfl, ?_⟩) ?_ ?_
     rotate_left
     ·intro w'
      go_simp
      with_reducible rfl
     rotate_left
     ·simp only [Act.put, List.setIfInBounds_toArray, List.set_cons_zero, List.set_cons_succ, i64_w, i32_w]
      rfl
     refine pure_ (i := 4) (N := some 17) (v := undef) (a' := ?_) #[true, true, true, true, true, false, false, false, false, false, false, false, false, false, false, false, false, false, false, false, false, false, false, false, false, false, false, false, false, false, false, false, false, false, false] rfl rfl (zAq HT_.out (by kernel_rfl)) (fun _ _ _ h => h) (Or.inr ⟨by rfl, rfl⟩) ?_ ?_
     rotate_left
     ·simp only [Act.put, List.setIfInBounds_toArray, List.set_cons_zero, List.set_cons_succ, i64_w, i32_w]
      rfl
     refine pure_ (i := 5) (N := some 18) (v := undef) (a' := ?_) #[true, true, true, true, true, true, false, false, false, false, false, false, false, false, false, false, false, false, false, false, false, false, false, false, false, false, false, false, false, false, false, false, false, false, false] rfl rfl (zAq HT_.out (by kernel_rfl)) (fun _ _ _ h => h) (Or.inr ⟨by rfl, rfl⟩) ?_ ?_
     rotate_left
     ·simp only [Act.put, List.setIfInBounds_toArray, List.set_cons_zero, List.set_cons_succ, i64_w, i32_w]
      rfl
     refine pure_ (i := 6) (N := some 19) (v := undef) (a' := ?_) #[true, true, true, true, true, true, true, false, false, false, false, false, false, false, false, false, false, false, false, false, false, false, false, false, false, false, false, false, false, false, false, false, false, false, false] rfl rfl (zAq HT_.out (by kernel_rfl)) (fun _ _ _ h => h) (Or.inr ⟨by rfl, rfl⟩) ?_ ?_
     rotate_left
     ·simp only [Act.put, List.setIfInBounds_toArray, List.set_cons_zero, List.set_cons_succ, i64_w, i32_w]
      rfl
     refine pure_ (i := 7) (N := some 20) (v := undef) (a' := ?_) #[true, true, true, true, true, true, true, true, false, false, false, false, false, false, false, false, false, false, false, false, false, false, false, false, false, false, false, false, false, false, false, false, false, false, false] rfl rfl (zAq HT_.out (by kernel_rfl)) (fun _ _ _ h => h) (Or.inr ⟨by rfl, rfl⟩) ?_ ?_
     rotate_left
     ·simp only [Act.put, List.setIfInBounds_toArray, List.set_cons_zero, List.set_cons_succ, i64_w, i32_w]
      rfl
     refine pure_ (i := 8) (N := some 21) (v := undef) (a' := ?_) #[true, true, true, true, true, true, true, true, true, false, false, false, false, false, false, false, false, false, false, false, false, false, false, false, false, false, false, false, false, false, false, false, false, false, false] rfl rfl (zAq HT_.out (by kernel_rfl)) (fun _ _ _ h => h) (Or.inr ⟨by rfl, rfl⟩) ?_ ?_
     rotate_left
     ·simp only [Act.put, List.setIfInBounds_toArray, List.set_cons_zero, List.set_cons_succ, i64_w, i32_w]
      rfl
     refine pure_ (i := 9) (N := some 22) (v := undef) (a' := ?_) #[true, true, true, true, true, true, true, true, true, true, false, false, false, false, false, false, false, false, false, false, false, false, false, false, false, false, false, false, false, false, false, false, false, false, false] rfl rfl (zAq HT_.out (by kernel_rfl)) (fun _ _ _ h => h) (Or.inr ⟨by rfl, rfl⟩) ?_ ?_
     rotate_left
     ·simp only [Act.put, List.setIfInBounds_toArray, List.set_cons_zero, List.set_cons_succ, i64_w, i32_w]
      rfl
     refine pure_ (i := 10) (N := some 23) (v := undef) (a' := ?_) #[true, true, true, true, true, true, true, true, true, true, true, false, false, false, false, false, false, false, false, false, false, false, false, false, false, false, false, false, false, false, false, false, false, false, false] rfl rfl (zAq HT_.out (by kernel_rfl)) (fun _ _ _ h => h) (Or.inr ⟨by rfl, rfl⟩) ?_ ?_
     rotate_left
     ·simp only [Act.put, List.setIfInBounds_toArray, List.set_cons_zero, List.set_cons_succ, i64_w, i32_w]
      rfl
     refine pure_ (i := 11) (N := some 24) (v := undef) (a' := ?_) #[true, true, true, true, true, true, true, true, true, true, true, true, false, false, false, false, false, false, false, false, false, false, false, false, false, false, false, false, false, false, false, false, false, false, false] rfl rfl (zAq HT_.out (by kernel_rfl)) (fun _ _ _ h => h) (Or.inr ⟨by rfl, rfl⟩) ?_ ?_
     rotate_left
     ·simp only [Act.put, List.setIfInBounds_toArray, List.set_cons_zero, List.set_cons_succ, i64_w, i32_w]
      rfl
     refine pure_ (i := 12) (N := some 25) (v := undef) (a' := ?_) #[true, true, true, true, true, true, true, true, true, true, true, true, true, false, false, false, false, false, false, false, false, false, false, false, false, false, false, false, false, false, false, false, false, false, false] rfl rfl (zAq HT_.out (by kernel_rfl)) (fun _ _ _ h => h) (Or.inr ⟨by rfl, rfl⟩) ?_ ?_
     rotate_left
     ·simp only [Act.put, List.setIfInBounds_toArray, List.set_cons_zero, List.set_cons_succ, i64_w, i32_w]
      rfl
     refine pure_ (i := 13) (N := some 26) (v := undef) (a' := ?_) #[true, true, true, true, true, true, true, true, true, true, true, true, true, true, false, false, false, false, false, false, false, false, false, false, false, false, false, false, false, false, false, false, false, false, false] rfl rfl (zAq HT_.out (by kernel_rfl)) (fun _ _ _ h => h) (Or.inr ⟨by rfl, rfl⟩) ?_ ?_
     rotate_left
     ·simp only [Act.put, List.setIfInBounds_toArray, List.set_cons_zero, List.set_cons_succ, i64_w, i32_w]
      rfl
     refine pure_ (i := 14) (N := some 27) (v := undef) (a' := ?_) #[true, true, true, true, true, true, true, true, true, true, true, true, true, true, true, false, false, false, false, false, false, false, false, false, false, false, false, false, false, false, false, false, false, false, false] rfl rfl (zAq HT_.out (by kernel_rfl)) (fun _ _ _ h => h) (Or.inr ⟨by rfl, rfl⟩) ?_ ?_
     rotate_left
     ·simp only [Act.put, List.setIfInBounds_toArray, List.set_cons_zero, List.set_cons_succ, i64_w, i32_w]
      rfl
     refine pure_ (i := 15) (N := some 28) (v := ?_) (a' := ?_) #[true, true, true, true, true, true, true, true, true, true, true, true, true, true, true, true, false, false, false, false, false, false, false, false, false, false, false, false, false, false, false, false, false, false, false] rfl rfl (zAq HT_.out (by kernel_rfl)) (fun _ _ _ h => h) (Or.inl ⟨by rfl, ?_⟩) ?_ ?_
     rotate_left
     ·intro w'
      go_simp
      with_reducible rfl
     rotate_left
     ·simp only [Act.put, List.setIfInBounds_toArray, List.set_cons_zero, List.set_cons_succ, i64_w, i32_w]
      rfl
     refine pure_ (i := 16) (N := some 29) (v := ?_) (a' := ?_) #[true, true, true, true, true, true, true, true, true, true, true, true, true, true, true, true, true, false, false, false, false, false, false, false, false, false, false, false, false, false, false, false, false, false, false] rfl rfl (zAq HT_.out (by kernel_rfl)) (fun _ _ _ h => h) (Or.inl ⟨by rfl, ?_⟩) ?_ ?_
     rotate_left
     ·intro w'
      go_simp
      with_reducible rfl
     rotate_left
     ·simp only [Act.put, List.setIfInBounds_toArray, List.set_cons_zero, List.set_cons_succ, i64_w, i32_w]
      rfl
     refine pure_ (i := 17) (N := some 30) (v := undef) (a' := ?_) #[true, true, true, true, true, true, true, true, true, true, true, true, true, true, true, true, true, true, false, false, false, false, false, false, false, false, false, false, false, false, false, false, false, false, false] rfl rfl (zAq HT_.out (by kernel_rfl)) (fun _ _ _ h => h) (Or.inr ⟨by rfl, rfl⟩) ?_ ?_
     rotate_left
     ·simp only [Act.put, List.setIfInBounds_toArray, List.set_cons_zero, List.set_cons_succ, i64_w, i32_w]
      rfl
     refine pure_ (i := 18) (N := some 31) (v := undef) (a' := ?_) #[true, true, true, true, true, true, true, true, true, true, true, true, true, true, true, true, true, true, true, false, false, false, false, false, false, false, false, false, false, false, false, false, false, false, false] rfl rfl (zAq HT_.out (by kernel_rfl)) (fun _ _ _ h => h) (Or.inr ⟨by rfl, rfl⟩) ?_ ?_
     rotate_left
     ·simp only [Act.put, List.setIfInBounds_toArray, List.set_cons_zero, List.set_cons_succ, i64_w, i32_w]
      rfl
     refine pure_ (i := 19) (N := some 32) (v := undef) (a' := ?_) #[true, true, true, true, true, true, true, true, true, true, true, true, true, true, true, true, true, true, true, true, false, false, false, false, false, false, false, false, false, false, false, false, false, false, false] rfl rfl (zAq HT_.out (by kernel_rfl)) (fun _ _ _ h => h) (Or.inr ⟨by rfl, rfl⟩) ?_ ?_
     rotate_left
     ·simp only [Act.put, List.setIfInBounds_toArray, List.set_cons_zero, List.set_cons_succ, i64_w, i32_w]
      rfl
     refine pure_ (i := 20) (N := some 33) (v := undef) (a' := ?_) #[true, true, true, true, true, true, true, true, true, true, true, true, true, true, true, true, true, true, true, true, true, false, false, false, false, false, false, false, false, false, false, false, false, false, false] rfl rfl (zAq HT_.out (by kernel_rfl)) (fun _ _ _ h => h) (Or.inr ⟨by rfl, rfl⟩) ?_ ?_
     rotate_left
     ·simp only [Act.put, List.setIfInBounds_toArray, List.set_cons_zero, List.set_cons_succ, i64_w, i32_w]
      rfl
     refine pure_ (i := 21) (N := some 34) (v := undef) (a' := ?_) #[true, true, true, true, true, true, true, true, true, true, true, true, true, true, true, true, true, true, true, true, true, true, false, false, false, false, false, false, false, false, false, false, false, false, false] rfl rfl (zAq HT_.out (by kernel_rfl)) (fun _ _ _ h => h) (Or.inr ⟨by rfl, rfl⟩) ?_ ?_
     rotate_left
     ·simp only [Act.put, List.setIfInBounds_toArray, List.set_cons_zero, List.set_cons_succ, i64_w, i32_w]
      rfl
     refine pure_ (i := 22) (N := some 35) (v := undef) (a' := ?_) #[true, true, true, true, true, true, true, true, true, true, true, true, true, true, true, true, true, true, true, true, true, true, true, false, false, false, false, false, false, false, false, false, false, false, false] rfl rfl (zAq HT_.out (by kernel_rfl)) (fun _ _ _ h => h) (Or.inr ⟨by rfl, rfl⟩) ?_ ?_
     rotate_left
     ·simp only [Act.put, List.setIfInBounds_toArray, List.set_cons_zero, List.set_cons_succ, i64_w, i32_w]
      rfl
     refine pure_ (i := 23) (N := some 36) (v := undef) (a' := ?_) #[true, true, true, true, true, true, true, true, true, true, true, true, true, true, true, true, true, true, true, true, true, true, true, true, false, false, false, false, false, false, false, false, false, false, false] rfl rfl (zAq HT_.out (by kernel_rfl)) (fun _ _ _ h => h) (Or.inr ⟨by rfl, rfl⟩) ?_ ?_
     rotate_left
     ·simp only [Act.put, List.setIfInBounds_toArray, List.set_cons_zero, List.set_cons_succ, i64_w, i32_w]
      rfl
     refine pure_ (i := 24) (N := some 37) (v := undef) (a' := ?_) #[true, true, true, true, true, true, true, true, true, true, true, true, true, true, true, true, true, true, true, true, true, true, true, true, true, false, false, false, false, false, false, false, false, false, false] rfl rfl (zAq HT_.out (by kernel_rfl)) (fun _ _ _ h => h) (Or.inr ⟨by rfl, rfl⟩) ?_ ?_
     rotate_left
     ·simp only [Act.put, List.setIfInBounds_toArray, List.set_cons_zero, List.set_cons_succ, i64_w, i32_w]
      rfl
     refine pure_ (i := 25) (N := some 38) (v := undef) (a' := ?_) #[true, true, true, true, true, true, true, true, true, true, true, true, true, true, true, true, true, true, true, true, true, true, true, true, true, true, false, false, false, false, false, false, false, false, false] rfl rfl (zAq HT_.out (by kernel_rfl)) (fun _ _ _ h => h) (Or.inr ⟨by rfl, rfl⟩) ?_ ?_
     rotate_left
     ·simp only [Act.put, List.setIfInBounds_toArray, List.set_cons_zero, List.set_cons_succ, i64_w, i32_w]
      rfl
     refine pure_ (i := 26) (N := some 39) (v := undef) (a' := ?_) #[true, true, true, true, true, true, true, true, true, true, true, true, true, true, true, true, true, true, true, true, true, true, true, true, true, true, true, false, false, false, false, false, false, false, false] rfl rfl (zAq HT_.out (by kernel_rfl)) (fun _ _ _ h => h) (Or.inr ⟨by rfl, rfl⟩) ?_ ?_
     rotate_left
     ·simp only [Act.put, List.setIfInBounds_toArray, List.set_cons_zero, List.set_cons_succ, i64_w, i32_w]
      rfl
     refine pure_ (i := 27) (N := some 40) (v := undef) (a' := ?_) #[true, true, true, true, true, true, true, true, true, true, true, true, true, true, true, true, true, true, true, true, true, true, true, true, true, true, true, true, false, false, false, false, false, false, false] rfl rfl (zAq HT_.out (by kernel_rfl)) (fun _ _ _ h => h) (Or.inr ⟨by rfl, rfl⟩) ?_ ?_
     rotate_left
     ·simp only [Act.put, List.setIfInBounds_toArray, List.set_cons_zero, List.set_cons_succ, i64_w, i32_w]
      rfl
     refine pure_ (i := 28) (N := some 41) (v := undef) (a' := ?_) #[true, true, true, true, true, true, true, true, true, true, true, true, true, true, true, true, true, true, true, true, true, true, true, true, true, true, true, true, true, false, false, false, false, false, false] rfl rfl (zAq HT_.out (by kernel_rfl)) (fun _ _ _ h => h) (Or.inr ⟨by rfl, rfl⟩) ?_ ?_
     rotate_left
     ·simp only [Act.put, List.setIfInBounds_toArray, List.set_cons_zero, List.set_cons_succ, i64_w, i32_w]
      rfl
     refine pure_ (i := 29) (N := some 42) (v := undef) (a' := ?_) #[true, true, true, true, true, true, true, true, true, true, true, true, true, true, true, true, true, true, true, true, true, true, true, true, true, true, true, true, true, true, false, false, false, false, false] rfl rfl (zAq HT_.out (by kernel_rfl)) (fun _ _ _ h => h) (Or.inr ⟨by rfl, rfl⟩) ?_ ?_
     rotate_left
     ·simp only [Act.put, List.setIfInBounds_toArray, List.set_cons_zero, List.set_cons_succ, i64_w, i32_w]
      rfl
     refine pure_ (i := 30) (N := some 43) (v := undef) (a' := ?_) #[true, true, true, true, true, true, true, true, true, true, true, true, true, true, true, true, true, true, true, true, true, true, true, true, true, true, true, true, true, true, true, false, false, false, false] rfl rfl (zAq HT_.out (by kernel_rfl)) (fun _ _ _ h => h) (Or.inr ⟨by rfl, rfl⟩) ?_ ?_
     rotate_left
     ·simp only [Act.put, List.setIfInBounds_toArray, List.set_cons_zero, List.set_cons_succ, i64_w, i32_w]
      rfl
     refine pure_ (i := 31) (N := some 44) (v := undef) (a' := ?_) #[true, true, true, true, true, true, true, true, true, true, true, true, true, true, true, true, true, true, true, true, true, true, true, true, true, true, true, true, true, true, true, true, false, false, false] rfl rfl (zAq HT_.out (by kernel_rfl)) (fun _ _ _ h => h) (Or.inr ⟨by rfl, rfl⟩) ?_ ?_
     rotate_left
     ·simp only [Act.put, List.setIfInBounds_toArray, List.set_cons_zero, List.set_cons_succ, i64_w, i32_w]
      rfl
     refine pure_ (i := 32) (N := some 45) (v := undef) (a' := ?_) #[true, true, true, true, true, true, true, true, true, true, true, true, true, true, true, true, true, true, true, true, true, true, true, true, true, true, true, true, true, true, true, true, true, false, false] rfl rfl (zAq HT_.out (by kernel_rfl)) (fun _ _ _ h => h) (Or.inr ⟨by rfl, rfl⟩) ?_ ?_
     rotate_left
     ·simp only [Act.put, List.setIfInBounds_toArray, List.set_cons_zero, List.set_cons_succ, i64_w, i32_w]
      rfl
     refine pure_ (i := 33) (N := some 46) (v := undef) (a' := ?_) #[true, true, true, true, true, true, true, true, true, true, true, true, true, true, true, true, true, true, true, true, true, true, true, true, true, true, true, true, true, true, true, true, true, true, false] rfl rfl (zAq HT_.out (by kernel_rfl)) (fun _ _ _ h => h) (Or.inr ⟨by rfl, rfl⟩) ?_ ?_
     rotate_left
     ·simp only [Act.put, List.setIfInBounds_toArray, List.set_cons_zero, List.set_cons_succ, i64_w, i32_w]
      rfl
     refine pure_ (i := 34) (N := some 47) (v := ?_) (a' := ?_) #[true, true, true, true, true, true, true, true, true, true, true, true, true, true, true, true, true, true, true, true, true, true, true, true, true, true, true, true, true, true, true, true, true, true, true] rfl rfl (zAq HT_.out (by kernel_rfl)) (fun _ _ _ h => h) (Or.inl ⟨by rfl, ?_⟩) ?_ ?_
     rotate_left
     ·intro w'
      go_simp
      with_reducible rfl
     rotate_left
     ·simp only [Act.put, List.setIfInBounds_toArray, List.set_cons_zero, List.set_cons_succ, i64_w, i32_w]
      rfl
     refine done_ (done_of HT_.out (by kernel_rfl)) ?_
     try go_wp2
     go_roundg k1
     case measure => have := HK1.out; omega
     case rel => exact ⟨(x5_1), (wrap64 (x6_1 + 1)), (by first | rfl | (simp; done) | (simp [*]; done)), (by first | rfl | (simp; done) | (simp [*]; done)), H', ⟨by have := HK1.out; omega⟩, ⟨by repeat (first | (with_reducible first | exact HB.out | apply zA2 | apply zA0 | apply zA3) | exact HB.out)⟩⟩
    ·rw [if_neg c4] at H
     have c4b0 : (x6_1 == a1) = false := beq_eq_false_iff_ne.mpr c4
     have c4b1 : (x6_1 != a1) = true := bne_iff_ne.mpr c4
     by_cases c6 : 0 ≤ a1
     rotate_left
     ·rw [if_neg c6] at H
      exact absurd H (by simp)
     rw [if_pos c6] at H
     have c6b0 : decide (0 ≤ a1) = true := decide_eq_true c6
     clear c6
     by_cases c7 : a1 < (l0.length : Int)
     rotate_left
     ·rw [if_neg c7] at H
      exact absurd H (by simp)
     rw [if_pos c7] at H
     have c7b0 : decide (a1 < (l0.length : Int)) = true := decide_eq_true c7
     clear c7
     by_cases c8 : 0 ≤ x6_1
     rotate_left
     ·rw [if_neg c8] at H
      exact absurd H (by simp)
     rw [if_pos c8] at H
     have c8b0 : decide (0 ≤ x6_1) = true := decide_eq_true c8
     clear c8
     replace H := Option.bind_eq_some_iff.mp H
     obtain ⟨t549, A90, H⟩ := H
     replace H : (if t549 = true then (if x5_1 < 0 then (zAl.l0 k1 l0 a1 x6_1 (wrap64 (x6_1 + 1))) else (if 0 ≤ x5_1 then (if x5_1 < (l0.length : Int) then (if (((zA6 l0 x6_1).f1).length : Int) < (((zA6 l0 x5_1).f1).length : Int) then (zAl.l0 k1 l0 a1 x6_1 (wrap64 (x6_1 + 1))) else (zAl.l0 k1 l0 a1 x5_1 (wrap64 (x6_1 + 1)))) else (none)) else (none))) else (zAl.l0 k1 l0 a1 x5_1 (wrap64 (x6_1 + 1)))) = some r := H
     have A9 := zA1.mk A90
     clear A90
     by_cases c10 : t549 = true
     ·subst c10
      have H1 : (if x5_1 < 0 then (zAl.l0 k1 l0 a1 x6_1 (wrap64 (x6_1 + 1))) else (if 0 ≤ x5_1 then (if x5_1 < (l0.length : Int) then (if (((zA6 l0 x6_1).f1).length : Int) < (((zA6 l0 x5_1).f1).length : Int) then (zAl.l0 k1 l0 a1 x6_1 (wrap64 (x6_1 + 1))) else (zAl.l0 k1 l0 a1 x5_1 (wrap64 (x6_1 + 1)))) else (none)) else (none))) = some r := by rw [if_pos rfl] at H; exact H
      clear H
      have H := H1
      clear H1
      by_cases c11 : x5_1 < 0
      ·rw [if_pos c11] at H
       have c11b0 : decide (x5_1 < 0) = true := decide_eq_true c11
       clear c11
       have H' := zA1.mk H
       clear H
       try go_wp2
       have n0_ := zA1.mk (zA3 HB.out)
       clear HB
       have HB := n0_
       clear n0_
       have p547 : 0 ≤ (a1 : Int) := of_decide_eq_true (by first | (with_reducible assumption) | assumption)
       have q547 : a1 < (l0.length : Int) := of_decide_eq_true (by first | (with_reducible assumption) | assumption)
       obtain ⟨ad547, A547_1, c547_1, e547, hx547_0, hx547_1, hl547_1, hi547_1⟩ := zC5 HR0.out a1 p547 q547
       have hw547_1 := hx547_1
       have hw547_0 := hx547_0
       cases e547
       replace hx547_0 := (HB.out.cell (World.block_lt_of_cell? w _ hx547_0)).trans hx547_0
       replace hx547_1 := (HB.out.cell (World.block_lt_of_cell? w _ hx547_1)).trans hx547_1
       have HR547_1 := zA1.mk hi547_1
       have HC547_1 := zA1.mk hl547_1
       clear hi547_1 hl547_1
       replace p547 := eq_true p547
       replace q547 := eq_true q547
       have p548 : 0 ≤ (x6_1 : Int) := of_decide_eq_true (by first | (with_reducible assumption) | assumption)
       have q548 : x6_1 < (l0.length : Int) := of_decide_eq_true (by first | (with_reducible assumption) | assumption)
       obtain ⟨ad548, A548_1, c548_1, e548, hx548_0, hx548_1, hl548_1, hi548_1⟩ := zC5 HR0.out x6_1 p548 q548
       have hw548_1 := hx548_1
       have hw548_0 := hx548_0
       obtain rfl : ad547 = ad548 := (by injection e548)
       replace hx548_0 := (HB.out.cell (World.block_lt_of_cell? w _ hx548_0)).trans hx548_0
       replace hx548_1 := (HB.out.cell (World.block_lt_of_cell? w _ hx548_1)).trans hx548_1
       have HR548_1 := zA1.mk hi548_1
       have HC548_1 := zA1.mk hl548_1
       clear hi548_1 hl548_1
       replace p548 := eq_true p548
       replace q548 := eq_true q548
       refine start_ (n := 35) (S := fun w' => w'.cell? (ad547.add ((a1).toNat * 2)) = some (.string ((zA6 l0 a1).f0)) ∧ w'.cell? ⟨(ad547.add ((a1).toNat * 2)).block, (ad547.add ((a1).toNat * 2)).off + 1, none⟩ = some (.slice A547_1 ((zA6 l0 a1).f1).length c547_1) ∧ w'.cell? (ad547.add ((x6_1).toNat * 2)) = some (.string ((zA6 l0 x6_1).f0)) ∧ w'.cell? ⟨(ad547.add ((x6_1).toNat * 2)).block, (ad547.add ((x6_1).toNat * 2)).off + 1, none⟩ = some (.slice A548_1 ((zA6 l0 x6_1).f1).length c548_1)) (ds := []) #[false, false, false, false, false, false, false, false, false, false, false, false, false, false, false, false, false, false, false, false, false, false, false, false, false, false, false, false, false, false, false, false, false, false, false] (by kernel_rfl) rfl rfl ⟨((HB.out.cell (World.block_lt_of_cell? w _ hw547_0)).trans hw547_0), ((HB.out.cell (World.block_lt_of_cell? w _ hw547_1)).trans hw547_1), ((HB.out.cell (World.block_lt_of_cell? w _ hw548_0)).trans hw548_0), ((HB.out.cell (World.block_lt_of_cell? w _ hw548_1)).trans hw548_1)⟩ (fun hHeld => ?_); refine with_tabW zAl.tab5 zAl.bits5 (fun HT_ HW_ => ?_)
       generalize wr.drew = w12 at HB HR547_1 HR548_1 hx547_0 hx547_1 hx548_0 hx548_1 hHeld ⊢
       refine pure_ (i := 0) (N := some 13) (v := ?_) (a' := ?_) #[true, false, false, false, false, false, false, false, false, false, false, false, false, false, false, false, false, false, false, false, false, false, false, false, false, false, false, false, false, false, false, false, false, false, false] rfl rfl (zAq HT_.out (by kernel_rfl)) (fun _ _ _ h => h) (Or.inl ⟨by rfl, ?_⟩) ?_ ?_
       rotate_left
       ·intro w'
        go_simp
        with_reducible rfl
       rotate_left
       ·simp only [Act.put, List.setIfInBounds_toArray, List.set_cons_zero, List.set_cons_succ, i64_w, i32_w]
        rfl
       refine pure_ (i := 1) (N := some 14) (v := ?_) (a' := ?_) #[true, true, false, false, false, false, false, false, false, false, false, false, false, false, false, false, false, false, false, false, false, false, false, false, false, false, false, false, false, false, false, false, false, false, false] rfl rfl (zAq HT_.out (by kernel_rfl)) (fun _ _ _ h => h) (Or.inl ⟨by rfl, ?_⟩) ?_ ?_
       rotate_left
       ·intro w'
        go_simp
        with_reducible rfl
       rotate_left
       ·simp only [Act.put, List.setIfInBounds_toArray, List.set_cons_zero, List.set_cons_succ, i64_w, i32_w]
        rfl
       refine pure_ (i := 2) (N := some 15) (v := ?_) (a' := ?_) #[true, true, true, false, false, false, false, false, false, false, false, false, false, false, false, false, false, false, false, false, false, false, false, false, false, false, false, false, false, false, false, false, false, false, false] rfl rfl (zAq HT_.out (by kernel_rfl)) (fun _ _ _ h => h) (Or.inl ⟨by rfl, ?_⟩) ?_ ?_
       rotate_left
       ·intro w'
        go_simp
        with_reducible rfl
       rotate_left
       ·simp only [Act.put, List.setIfInBounds_toArray, List.set_cons_zero, List.set_cons_succ, i64_w, i32_w]
        rfl
       refine pure_ (i := 3) (N := some 16) (v := ?_) (a' := ?_) #[true, true, true, true, false, false, false, false, false, false, false, false, false, false, false, false, false, false, false, false, false, false, false, false, false, false, false, false, false, false, false, false, false, false, false] rfl rfl (zAq HT_.out (by kernel_rfl)) (fun _ _ _ h => h) (Or.inl ⟨by rfl, ?_⟩) ?_ ?_
       rotate_left
       ·intro w'
        go_simp
        with_reducible rfl
       rotate_left
       ·simp only [Act.put, List.setIfInBounds_toArray, List.set_cons_zero, List.set_cons_succ, i64_w, i32_w]
        rfl
       refine pure_ (i := 4) (N := some 17) (v := ?_) (a' := ?_) #[true, true, true, true, true, false, false, false, false, false, false, false, false, false, false, false, false, false, false, false, false, false, false, false, false, false, false, false, false, false, false, false, false, false, false] rfl rfl (zAq HT_.out (by kernel_rfl)) (fun _ _ _ h => h) (Or.inl ⟨by rfl, ?_⟩) ?_ ?_
       rotate_left
       ·intro w'
        go_simp
        with_reducible rfl
       rotate_left
       ·simp only [Act.put, List.setIfInBounds_toArray, List.set_cons_zero, List.set_cons_succ, i64_w, i32_w]
        rfl
       refine pure_ (i := 5) (N := some 18) (v := ?_) (a' := ?_) #[true, true, true, true, true, true, false, false, false, false, false, false, false, false, false, false, false, false, false, false, false, false, false, false, false, false, false, false, false, false, false, false, false, false, false] rfl rfl (zAq HT_.out (by kernel_rfl)) (fun _ _ _ h => h) (Or.inl ⟨by rfl, ?_⟩) ?_ ?_
       rotate_left
       ·intro w'
        go_simp
        with_reducible rfl
       rotate_left
       ·simp only [Act.put, List.setIfInBounds_toArray, List.set_cons_zero, List.set_cons_succ, i64_w, i32_w]
        rfl
       refine pure_ (i := 6) (N := some 19) (v := ?_) (a' := ?_) #[true, true, true, true, true, true, true, false, false, false, false, false, false, false, false, false, false, false, false, false, false, false, false, false, false, false, false, false, false, false, false, false, false, false, false] rfl rfl (zAq HT_.out (by kernel_rfl)) (fun _ _ _ h => h) (Or.inl ⟨by rfl, ?_⟩) ?_ ?_
       rotate_left
       ·intro w'
        go_simp
        with_reducible rfl
       rotate_left
       ·simp only [Act.put, List.setIfInBounds_toArray, List.set_cons_zero, List.set_cons_succ, i64_w, i32_w]
        rfl
       refine pure_ (i := 7) (N := some 20) (v := ?_) (a' := ?_) #[true, true, true, true, true, true, true, true, false, false, false, false, false, false, false, false, false, false, false, false, false, false, false, false, false, false, false, false, false, false, false, false, false, false, false] rfl rfl (zAq HT_.out (by kernel_rfl)) (fun _ _ _ h => h) (Or.inl ⟨by rfl, ?_⟩) ?_ ?_
       rotate_left
       ·intro w'
        go_simp
        with_reducible rfl
       rotate_left
       ·simp only [Act.put, List.setIfInBounds_toArray, List.set_cons_zero, List.set_cons_succ, i64_w, i32_w]
        rfl
       refine pure_ (i := 9) (N := some 22) (v := ?_) (a' := ?_) #[true, true, true, true, true, true, true, true, false, true, false, false, false, false, false, false, false, false, false, false, false, false, false, false, false, false, false, false, false, false, false, false, false, false, false] rfl rfl (zAq HT_.out (by kernel_rfl)) (fun _ _ _ h => h) (Or.inl ⟨by rfl, ?_⟩) ?_ ?_
       rotate_left
       ·intro w'
        go_simp
        with_reducible rfl
       rotate_left
       ·simp only [Act.put, List.setIfInBounds_toArray, List.set_cons_zero, List.set_cons_succ, i64_w, i32_w]
        rfl
       refine pure_ (i := 10) (N := some 23) (v := ?_) (a' := ?_) #[true, true, true, true, true, true, true, true, false, true, true, false, false, false, false, false, false, false, false, false, false, false, false, false, false, false, false, false, false, false, false, false, false, false, false] rfl rfl (zAq HT_.out (by kernel_rfl)) (fun _ _ _ h => h) (Or.inl ⟨by rfl, ?_⟩) ?_ ?_
       rotate_left
       ·intro w'
        go_simp
        with_reducible rfl
       rotate_left
       ·simp only [Act.put, List.setIfInBounds_toArray, List.set_cons_zero, List.set_cons_succ, i64_w, i32_w]
        rfl
       refine pure_ (i := 11) (N := some 24) (v := ?_) (a' := ?_) #[true, true, true, true, true, true, true, true, false, true, true, true, false, false, false, false, false, false, false, false, false, false, false, false, false, false, false, false, false, false, false, false, false, false, false] rfl rfl (zAq HT_.out (by kernel_rfl)) (fun _ _ _ h => h) (Or.inl ⟨by rfl, ?_⟩) ?_ ?_
       rotate_left
       ·intro w'
        go_simp
        with_reducible rfl
       rotate_left
       ·simp only [Act.put, List.setIfInBounds_toArray, List.set_cons_zero, List.set_cons_succ, i64_w, i32_w]
        rfl
       refine pure_ (i := 12) (N := some 25) (v := ?_) (a' := ?_) #[true, true, true, true, true, true, true, true, false, true, true, true, true, false, false, false, false, false, false, false, false, false, false, false, false, false, false, false, false, false, false, false, false, false, false] rfl rfl (zAq HT_.out (by kernel_rfl)) (fun _ _ _ h => h) (Or.inl ⟨by rfl, ?_⟩) ?_ ?_
       rotate_left
       ·intro w'
        go_simp
        with_reducible rfl
       rotate_left
       ·simp only [Act.put, List.setIfInBounds_toArray, List.set_cons_zero, List.set_cons_succ, i64_w, i32_w]
        rfl
       refine take_ (i := 8) (N := some 21) (v := ?_) (a' := ?_) #[true, true, true, true, true, true, true, true, true, true, true, true, true, false, false, false, false, false, false, false, false, false, false, false, false, false, false, false, false, false, false, false, false, false, false] rfl rfl (zC3 HT_.out HW_.out (by kernel_rfl)) (fun _ _ _ h => h) (Or.inl ⟨by rfl, ?_⟩) hHeld ?_ ?_
       rotate_left
       ·rintro w' ⟨s0, s1, s2, s3⟩
        go_simp
        with_reducible rfl
       rotate_left
       ·simp only [Act.put, List.setIfInBounds_toArray, List.set_cons_zero, List.set_cons_succ, i64_w, i32_w]
        rfl
       refine take_ (i := 13) (N := some 26) (v := ?_) (a' := ?_) #[true, true, true, true, true, true, true, true, true, true, true, true, true, true, false, false, false, false, false, false, false, false, false, false, false, false, false, false, false, false, false, false, false, false, false] rfl rfl (zC3 HT_.out HW_.out (by kernel_rfl)) (fun _ _ _ h => h) (Or.inl ⟨by rfl, ?_⟩) hHeld ?_ ?_
       rotate_left
       ·rintro w' ⟨s0, s1, s2, s3⟩
        go_simp
        with_reducible rfl
       rotate_left
       ·simp only [Act.put, List.setIfInBounds_toArray, List.set_cons_zero, List.set_cons_succ, i64_w, i32_w]
        rfl
       refine one_ (i := 14) (N := some 27) #[true, true, true, true, true, true, true, true, true, true, true, true, true, true, true, false, false, false, false, false, false, false, false, false, false, false, false, false, false, false, false, false, false, false, false] rfl rfl (one_of HT_.out (by kernel_rfl)) (by decide) (fun K hK => ?_)
       refine goes_ Tryd.func51 (by kernel_rfl) rfl #[.slice A547_1 ((zA6 l0 a1).f1).length c547_1, .slice A548_1 ((zA6 l0 x6_1).f1).length c548_1] (by rfl) rfl rfl (by (try simp only [List.map_toArray, List.map_cons, List.map_nil]); first | done | rfl | (simp only [List.length_drop, List.length_take]; rfl)) ?_
       with_reducible refine (zAe.calls k1 _ _ ((zA6 l0 a1).f1) _ _ ((zA6 l0 x6_1).f1) true _ ?side1 ?side2 ?side3 ?side4 A9.out).mono ?_
       (case side1 => repeat (first | exact (Kd.zAy HR547_1.out HB.out) | (with_reducible refine Kd.zA8 ?_ _) | (with_reducible refine Kd.zAd ?_ _) | (with_reducible refine Kd.zAp ?_)))
       (case side2 => exact HC547_1.out)
       (case side3 => repeat (first | exact (Kd.zAy HR548_1.out HB.out) | (with_reducible refine Kd.zA8 ?_ _) | (with_reducible refine Kd.zAd ?_ _) | (with_reducible refine Kd.zAp ?_)))
       (case side4 => exact HC548_1.out)
       rintro e w' ⟨rfl, ⟨nd, rfl⟩⟩
       refine ⟨_, rfl, ?_⟩
       refine hK.out _ _ ⟨((HB.out.cell (World.block_lt_of_cell? w _ hw547_0)).trans hw547_0), ((HB.out.cell (World.block_lt_of_cell? w _ hw547_1)).trans hw547_1), ((HB.out.cell (World.block_lt_of_cell? w _ hw548_0)).trans hw548_0), ((HB.out.cell (World.block_lt_of_cell? w _ hw548_1)).trans hw548_1)⟩ (fun hHeld => ?_)
       clear hK K
       refine norm_ (a' := ?_) ?_ ?_
       rotate_left
       ·show Act.put _ (some 27) _ = _
        simp only [Act.put, List.setIfInBounds_toArray, List.set_cons_zero, List.set_cons_succ, i64_w, i32_w]
        rfl
       refine pure_ (i := 15) (N := some 28) (v := ?_) (a' := ?_) #[true, true, true, true, true, true, true, true, true, true, true, true, true, true, true, true, false, false, false, false, false, false, false, false, false, false, false, false, false, false, false, false, false, false, false] rfl rfl (zAq HT_.out (by kernel_rfl)) (fun _ _ _ h => h) (Or.inl ⟨by rfl, ?_⟩) ?_ ?_
       rotate_left
       ·intro w'
        go_simp
        with_reducible rfl
       rotate_left
       ·simp only [Act.put, List.setIfInBounds_toArray, List.set_cons_zero, List.set_cons_succ, i64_w, i32_w]
        rfl
       refine pure_ (i := 16) (N := some 29) (v := ?_) (a' := ?_) #[true, true, true, true, true, true, true, true, true, true, true, true, true, true, true, true, true, false, false, false, false, false, false, false, false, false, false, false, false, false, false, false, false, false, false] rfl rfl (zAq HT_.out (by kernel_rfl)) (fun _ _ _ h => h) (Or.inl ⟨by rfl, ?_⟩) ?_ ?_
       rotate_left
       ·intro w'
        go_simp
        with_reducible rfl
       rotate_left
       ·simp only [Act.put, List.setIfInBounds_toArray, List.set_cons_zero, List.set_cons_succ, i64_w, i32_w]
        rfl
       refine pure_ (i := 17) (N := some 30) (v := ?_) (a' := ?_) #[true, true, true, true, true, true, true, true, true, true, true, true, true, true, true, true, true, true, false, false, false, false, false, false, false, false, false, false, false, false, false, false, false, false, false] rfl rfl (zAq HT_.out (by kernel_rfl)) (fun _ _ _ h => h) (Or.inl ⟨by rfl, ?_⟩) ?_ ?_
       rotate_left
       ·intro w'
        go_simp
        with_reducible rfl
       rotate_left
       ·simp only [Act.put, List.setIfInBounds_toArray, List.set_cons_zero, List.set_cons_succ, i64_w, i32_w]
        rfl
       refine pure_ (i := 18) (N := some 31) (v := ?_) (a' := ?_) #[true, true, true, true, true, true, true, true, true, true, true, true, true, true, true, true, true, true, true, false, false, false, false, false, false, false, false, false, false, false, false, false, false, false, false] rfl rfl (zAq HT_.out (by kernel_rfl)) (fun _ _ _ h => h) (Or.inl ⟨by rfl, ?_⟩) ?_ ?_
       rotate_left
       ·intro w'
        go_simp
        with_reducible rfl
       rotate_left
       ·simp only [Act.put, List.setIfInBounds_toArray, List.set_cons_zero, List.set_cons_succ, i64_w, i32_w]
        rfl
       refine pure_ (i := 19) (N := some 32) (v := ?_) (a' := ?_) #[true, true, true, true, true, true, true, true, true, true, true, true, true, true, true, true, true, true, true, true, false, false, false, false, false, false, false, false, false, false, false, false, false, false, false] rfl rfl (zAq HT_.out (by kernel_rfl)) (fun _ _ _ h => h) (Or.inl ⟨by rfl, ?_⟩) ?_ ?_
       rotate_left
       ·intro w'
        go_simp
        with_reducible rfl
       rotate_left
       ·simp only [Act.put, List.setIfInBounds_toArray, List.set_cons_zero, List.set_cons_succ, i64_w, i32_w]
        rfl
       refine pure_ (i := 20) (N := some 33) (v := undef) (a' := ?_) #[true, true, true, true, true, true, true, true, true, true, true, true, true, true, true, true, true, true, true, true, true, false, false, false, false, false, false, false, false, false, false, false, false, false, false] rfl rfl (zAq HT_.out (by kernel_rfl)) (fun _ _ _ h => h) (Or.inr ⟨by rfl, rfl⟩) ?_ ?_
       rotate_left
       ·simp only [Act.put, List.setIfInBounds_toArray, List.set_cons_zero, List.set_cons_succ, i64_w, i32_w]
        rfl
       refine pure_ (i := 21) (N := some 34) (v := undef) (a' := ?_) #[true, true, true, true, true, true, true, true, true, true, true, true, true, true, true, true, true, true, true, true, true, true, false, false, false, false, false, false, false, false, false, false, false, false, false] rfl rfl (zAq HT_.out (by kernel_rfl)) (fun _ _ _ h => h) (Or.inr ⟨by rfl, rfl⟩) ?_ ?_
       rotate_left
       ·simp only [Act.put, List.setIfInBounds_toArray, List.set_cons_zero, List.set_cons_succ, i64_w, i32_w]
        rfl
       refine pure_ (i := 22) (N := some 35) (v := undef) (a' := ?_) #[true, true, true, true, true, true, true, true, true, true, true, true, true, true, true, true, true, true, true, true, true, true, true, false, false, false, false, false, false, false, false, false, false, false, false] rfl rfl (zAq HT_.out (by kernel_rfl)) (fun _ _ _ h => h) (Or.inr ⟨by rfl, rfl⟩) ?_ ?_
       rotate_left
       ·simp only [Act.put, List.setIfInBounds_toArray, List.set_cons_zero, List.set_cons_succ, i64_w, i32_w]
        rfl
       refine pure_ (i := 23) (N := some 36) (v := undef) (a' := ?_) #[true, true, true, true, true, true, true, true, true, true, true, true, true, true, true, true, true, true, true, true, true, true, true, true, false, false, false, false, false, false, false, false, false, false, false] rfl rfl (zAq HT_.out (by kernel_rfl)) (fun _ _ _ h => h) (Or.inr ⟨by rfl, rfl⟩) ?_ ?_
       rotate_left
       ·simp only [Act.put, List.setIfInBounds_toArray, List.set_cons_zero, List.set_cons_succ, i64_w, i32_w]
        rfl
       refine pure_ (i := 24) (N := some 37) (v := undef) (a' := ?_) #[true, true, true, true, true, true, true, true, true, true, true, true, true, true, true, true, true, true, true, true, true, true, true, true, true, false, false, false, false, false, false, false, false, false, false] rfl rfl (zAq HT_.out (by kernel_rfl)) (fun _ _ _ h => h) (Or.inr ⟨by rfl, rfl⟩) ?_ ?_
       rotate_left
       ·simp only [Act.put, List.setIfInBounds_toArray, List.set_cons_zero, List.set_cons_succ, i64_w, i32_w]
        rfl
       refine pure_ (i := 25) (N := some 38) (v := undef) (a' := ?_) #[true, true, true, true, true, true, true, true, true, true, true, true, true, true, true, true, true, true, true, true, true, true, true, true, true, true, false, false, false, false, false, false, false, false, false] rfl rfl (zAq HT_.out (by kernel_rfl)) (fun _ _ _ h => h) (Or.inr ⟨by rfl, rfl⟩) ?_ ?_
       rotate_left
       ·simp only [Act.put, List.setIfInBounds_toArray, List.set_cons_zero, List.set_cons_succ, i64_w, i32_w]
        rfl
       refine pure_ (i := 26) (N := some 39) (v := undef) (a' := ?_) #[true, true, true, true, true, true, true, true, true, true, true, true, true, true, true, true, true, true, true, true, true, true, true, true, true, true, true, false, false, false, false, false, false, false, false] rfl rfl (zAq HT_.out (by kernel_rfl)) (fun _ _ _ h => h) (Or.inr ⟨by rfl, rfl⟩) ?_ ?_
       rotate_left
       ·simp only [Act.put, List.setIfInBounds_toArray, List.set_cons_zero, List.set_cons_succ, i64_w, i32_w]
        rfl
       refine pure_ (i := 27) (N := some 40) (v := undef) (a' := ?_) #[true, true, true, true, true, true, true, true, true, true, true, true, true, true, true, true, true, true, true, true, true, true, true, true, true, true, true, true, false, false, false, false, false, false, false] rfl rfl (zAq HT_.out (by kernel_rfl)) (fun _ _ _ h => h) (Or.inr ⟨by rfl, rfl⟩) ?_ ?_
       rotate_left
       ·simp only [Act.put, List.setIfInBounds_toArray, List.set_cons_zero, List.set_cons_succ, i64_w, i32_w]
        rfl
       refine pure_ (i := 28) (N := some 41) (v := undef) (a' := ?_) #[true, true, true, true, true, true, true, true, true, true, true, true, true, true, true, true, true, true, true, true, true, true, true, true, true, true, true, true, true, false, false, false, false, false, false] rfl rfl (zAq HT_.out (by kernel_rfl)) (fun _ _ _ h => h) (Or.inr ⟨by rfl, rfl⟩) ?_ ?_
       rotate_left
       ·simp only [Act.put, List.setIfInBounds_toArray, List.set_cons_zero, List.set_cons_succ, i64_w, i32_w]
        rfl
       refine pure_ (i := 29) (N := some 42) (v := undef) (a' := ?_) #[true, true, true, true, true, true, true, true, true, true, true, true, true, true, true, true, true, true, true, true, true, true, true, true, true, true, true, true, true, true, false, false, false, false, false] rfl rfl (zAq HT_.out (by kernel_rfl)) (fun _ _ _ h => h) (Or.inr ⟨by rfl, rfl⟩) ?_ ?_
       rotate_left
       ·simp only [Act.put, List.setIfInBounds_toArray, List.set_cons_zero, List.set_cons_succ, i64_w, i32_w]
        rfl
       refine pure_ (i := 30) (N := some 43) (v := undef) (a' := ?_) #[true, true, true, true, true, true, true, true, true, true, true, true, true, true, true, true, true, true, true, true, true, true, true, true, true, true, true, true, true, true, true, false, false, false, false] rfl rfl (zAq HT_.out (by kernel_rfl)) (fun _ _ _ h => h) (Or.inr ⟨by rfl, rfl⟩) ?_ ?_
       rotate_left
       ·simp only [Act.put, List.setIfInBounds_toArray, List.set_cons_zero, List.set_cons_succ, i64_w, i32_w]
        rfl
       refine pure_ (i := 31) (N := some 44) (v := undef) (a' := ?_) #[true, true, true, true, true, true, true, true, true, true, true, true, true, true, true, true, true, true, true, true, true, true, true, true, true, true, true, true, true, true, true, true, false, false, false] rfl rfl (zAq HT_.out (by kernel_rfl)) (fun _ _ _ h => h) (Or.inr ⟨by rfl, rfl⟩) ?_ ?_
       rotate_left
       ·simp only [Act.put, List.setIfInBounds_toArray, List.set_cons_zero, List.set_cons_succ, i64_w, i32_w]
        rfl
       refine pure_ (i := 32) (N := some 45) (v := undef) (a' := ?_) #[true, true, true, true, true, true, true, true, true, true, true, true, true, true, true, true, true, true, true, true, true, true, true, true, true, true, true, true, true, true, true, true, true, false, false] rfl rfl (zAq HT_.out (by kernel_rfl)) (fun _ _ _ h => h) (Or.inr ⟨by rfl, rfl⟩) ?_ ?_
       rotate_left
       ·simp only [Act.put, List.setIfInBounds_toArray, List.set_cons_zero, List.set_cons_succ, i64_w, i32_w]
        rfl
       refine pure_ (i := 33) (N := some 46) (v := ?_) (a' := ?_) #[true, true, true, true, true, true, true, true, true, true, true, true, true, true, true, true, true, true, true, true, true, true, true, true, true, true, true, true, true, true, true, true, true, true, false] rfl rfl (zAq HT_.out (by kernel_rfl)) (fun _ _ _ h => h) (Or.inl ⟨by rfl, ?_⟩) ?_ ?_
       rotate_left
       ·intro w'
        go_simp
        with_reducible rfl
       rotate_left
       ·simp only [Act.put, List.setIfInBounds_toArray, List.set_cons_zero, List.set_cons_succ, i64_w, i32_w]
        rfl
       refine pure_ (i := 34) (N := some 47) (v := ?_) (a' := ?_) #[true, true, true, true, true, true, true, true, true, true, true, true, true, true, true, true, true, true, true, true, true, true, true, true, true, true, true, true, true, true, true, true, true, true, true] rfl rfl (zAq HT_.out (by kernel_rfl)) (fun _ _ _ h => h) (Or.inl ⟨by rfl, ?_⟩) ?_ ?_
       rotate_left
       ·intro w'
        go_simp
        with_reducible rfl
       rotate_left
       ·simp only [Act.put, List.setIfInBounds_toArray, List.set_cons_zero, List.set_cons_succ, i64_w, i32_w]
        rfl
       refine done_ (done_of HT_.out (by kernel_rfl)) ?_
       try go_wp2
       go_roundg k1
       case measure => have := HK1.out; omega
       case rel => exact ⟨(x6_1), (wrap64 (x6_1 + 1)), (by first | rfl | (simp; done) | (simp [*]; done)), (by first | rfl | (simp; done) | (simp [*]; done)), H', ⟨by have := HK1.out; omega⟩, ⟨by repeat (first | (with_reducible first | exact HB.out | apply zA2 | apply zA0 | apply zA3) | exact HB.out)⟩⟩
      ·rw [if_neg c11] at H
       have c11b0 : decide (x5_1 < 0) = false := decide_eq_false c11
       clear c11
       by_cases c13 : 0 ≤ x5_1
       rotate_left
       ·rw [if_neg c13] at H
        exact absurd H (by simp)
       rw [if_pos c13] at H
       have c13b0 : decide (0 ≤ x5_1) = true := decide_eq_true c13
       clear c13
       by_cases c14 : x5_1 < (l0.length : Int)
       rotate_left
       ·rw [if_neg c14] at H
        exact absurd H (by simp)
       rw [if_pos c14] at H
       have c14b0 : decide (x5_1 < (l0.length : Int)) = true := decide_eq_true c14
       clear c14
       by_cases c15 : (((zA6 l0 x6_1).f1).length : Int) < (((zA6 l0 x5_1).f1).length : Int)
       ·rw [if_pos c15] at H
        have c15b0 : decide ((((zA6 l0 x6_1).f1).length : Int) < (((zA6 l0 x5_1).f1).length : Int)) = true := decide_eq_true c15
        have c15b1 : decide (((zA6 l0 x6_1).f1).length < ((zA6 l0 x5_1).f1).length) = true := decide_eq_true (Int.ofNat_lt.mp c15)
        clear c15
        have H' := zA1.mk H
        clear H
        try go_wp2
        have n0_ := zA1.mk (zA3 HB.out)
        clear HB
        have HB := n0_
        clear n0_
        have p547 : 0 ≤ (a1 : Int) := of_decide_eq_true (by first | (with_reducible assumption) | assumption)
        have q547 : a1 < (l0.length : Int) := of_decide_eq_true (by first | (with_reducible assumption) | assumption)
        obtain ⟨ad547, A547_1, c547_1, e547, hx547_0, hx547_1, hl547_1, hi547_1⟩ := zC5 HR0.out a1 p547 q547
        have hw547_1 := hx547_1
        have hw547_0 := hx547_0
        cases e547
        replace hx547_0 := (HB.out.cell (World.block_lt_of_cell? w _ hx547_0)).trans hx547_0
        replace hx547_1 := (HB.out.cell (World.block_lt_of_cell? w _ hx547_1)).trans hx547_1
        have HR547_1 := zA1.mk hi547_1
        have HC547_1 := zA1.mk hl547_1
        clear hi547_1 hl547_1
        replace p547 := eq_true p547
        replace q547 := eq_true q547
        have p548 : 0 ≤ (x6_1 : Int) := of_decide_eq_true (by first | (with_reducible assumption) | assumption)
        have q548 : x6_1 < (l0.length : Int) := of_decide_eq_true (by first | (with_reducible assumption) | assumption)
        obtain ⟨ad548, A548_1, c548_1, e548, hx548_0, hx548_1, hl548_1, hi548_1⟩ := zC5 HR0.out x6_1 p548 q548
        have hw548_1 := hx548_1
        have hw548_0 := hx548_0
        obtain rfl : ad547 = ad548 := (by injection e548)
        replace hx548_0 := (HB.out.cell (World.block_lt_of_cell? w _ hx548_0)).trans hx548_0
        replace hx548_1 := (HB.out.cell (World.block_lt_of_cell? w _ hx548_1)).trans hx548_1
        have HR548_1 := zA1.mk hi548_1
        have HC548_1 := zA1.mk hl548_1
        clear hi548_1 hl548_1
        replace p548 := eq_true p548
        replace q548 := eq_true q548
        have p550 : 0 ≤ (x6_1 : Int) := of_decide_eq_true (by first | (with_reducible assumption) | assumption)
        have q550 : x6_1 < (l0.length : Int) := of_decide_eq_true (by first | (with_reducible assumption) | assumption)
        obtain ⟨ad550, A550_1, c550_1, e550, hx550_0, hx550_1, hl550_1, hi550_1⟩ := zC5 HR0.out x6_1 p550 q550
        have hw550_1 := hx550_1
        have hw550_0 := hx550_0
        obtain rfl : ad547 = ad550 := (by injection e550)
        replace hx550_0 := (HB.out.cell (World.block_lt_of_cell? w _ hx550_0)).trans hx550_0
        replace hx550_1 := (HB.out.cell (World.block_lt_of_cell? w _ hx550_1)).trans hx550_1
        have HR550_1 := zA1.mk hi550_1
        have HC550_1 := zA1.mk hl550_1
        clear hi550_1 hl550_1
        replace p550 := eq_true p550
        replace q550 := eq_true q550
        have ea_ := Option.some.inj (hx548_1.symm.trans hx550_1)
        injection ea_ with ea_ en_ ec_
        subst ea_
        subst ec_
        clear en_
        have p551 : 0 ≤ (x5_1 : Int) := of_decide_eq_true (by first | (with_reducible assumption) | assumption)
        have q551 : x5_1 < (l0.length : Int) := of_decide_eq_true (by first | (with_reducible assumption) | assumption)
        obtain ⟨ad551, A551_1, c551_1, e551, hx551_0, hx551_1, hl551_1, hi551_1⟩ := zC5 HR0.out x5_1 p551 q551
        have hw551_1 := hx551_1
        have hw551_0 := hx551_0
        obtain rfl : ad547 = ad551 := (by injection e551)
        replace hx551_0 := (HB.out.cell (World.block_lt_of_cell? w _ hx551_0)).trans hx551_0
        replace hx551_1 := (HB.out.cell (World.block_lt_of_cell? w _ hx551_1)).trans hx551_1
        have HR551_1 := zA1.mk hi551_1
        have HC551_1 := zA1.mk hl551_1
        clear hi551_1 hl551_1
        replace p551 := eq_true p551
        replace q551 := eq_true q551
        refine start_ (n := 35) (S := fun w' => w'.cell? (ad547.add ((a1).toNat * 2)) = some (.string ((zA6 l0 a1).f0)) ∧ w'.cell? ⟨(ad547.add ((a1).toNat * 2)).block, (ad547.add ((a1).toNat * 2)).off + 1, none⟩ = some (.slice A547_1 ((zA6 l0 a1).f1).length c547_1) ∧ w'.cell? (ad547.add ((x6_1).toNat * 2)) = some (.string ((zA6 l0 x6_1).f0)) ∧ w'.cell? ⟨(ad547.add ((x6_1).toNat * 2)).block, (ad547.add ((x6_1).toNat * 2)).off + 1, none⟩ = some (.slice A548_1 ((zA6 l0 x6_1).f1).length c548_1) ∧ w'.cell? (ad547.add ((x6_1).toNat * 2)) = some (.string ((zA6 l0 x6_1).f0)) ∧ w'.cell? ⟨(ad547.add ((x6_1).toNat * 2)).block, (ad547.add ((x6_1).toNat * 2)).off + 1, none⟩ = some (.slice A548_1 ((zA6 l0 x6_1).f1).length c548_1) ∧ w'.cell? (ad547.add ((x5_1).toNat * 2)) = some (.string ((zA6 l0 x5_1).f0)) ∧ w'.cell? ⟨(ad547.add ((x5_1).toNat * 2)).block, (ad547.add ((x5_1).toNat * 2)).off + 1, none⟩ = some (.slice A551_1 ((zA6 l0 x5_1).f1).length c551_1)) (ds := []) #[false, false, false, false, false, false, false, false, false, false, false, false, false, false, false, false, false, false, false, false, false, false, false, false, false, false, false, false, false, false, false, false, false, false, false] (by kernel_rfl) rfl rfl ⟨((HB.out.cell (World.block_lt_of_cell? w _ hw547_0)).trans hw547_0), ((HB.out.cell (World.block_lt_of_cell? w _ hw547_1)).trans hw547_1), ((HB.out.cell (World.block_lt_of_cell? w _ hw548_0)).trans hw548_0), ((HB.out.cell (World.block_lt_of_cell? w _ hw548_1)).trans hw548_1), ((HB.out.cell (World.block_lt_of_cell? w _ hw550_0)).trans hw550_0), ((HB.out.cell (World.block_lt_of_cell? w _ hw550_1)).trans hw550_1), ((HB.out.cell (World.block_lt_of_cell? w _ hw551_0)).trans hw551_0), ((HB.out.cell (World.block_lt_of_cell? w _ hw551_1)).trans hw551_1)⟩ (fun hHeld => ?_); refine with_tabW zAl.tab5 zAl.bits5 (fun HT_ HW_ => ?_)
        generalize wr.drew = w16 at HB HR547_1 HR548_1 HR550_1 HR551_1 hx547_0 hx547_1 hx548_0 hx548_1 hx550_0 hx550_1 hx551_0 hx551_1 hHeld ⊢
        refine pure_ (i := 0) (N := some 13) (v := ?_) (a' := ?_) #[true, false, false, false, false, false, false, false, false, false, false, false, false, false, false, false, false, false, false, false, false, false, false, false, false, false, false, false, false, false, false, false, false, false, false] rfl rfl (zAq HT_.out (by kernel_rfl)) (fun _ _ _ h => h) (Or.inl ⟨by rfl, ?_⟩) ?_ ?_
        rotate_left
        ·intro w'
         go_simp
         with_reducible rfl
        rotate_left
        ·simp only [Act.put, List.setIfInBounds_toArray, List.set_cons_zero, List.set_cons_succ, i64_w, i32_w]
         rfl
        refine pure_ (i := 1) (N := some 14) (v := ?_) (a' := ?_) #[true, true, false, false, false, false, false, false, false, false, false, false, false, false, false, false, false, false, false, false, false, false, false, false, false, false, false, false, false, false, false, false, false, false, false] rfl rfl (zAq HT_.out (by kernel_rfl)) (fun _ _ _ h => h) (Or.inl ⟨by rfl, ?_⟩) ?_ ?_
        rotate_left
        ·intro w'
         go_simp
         with_reducible rfl
        rotate_left
        ·simp only [Act.put, List.setIfInBounds_toArray, List.set_cons_zero, List.set_cons_succ, i64_w, i32_w]
         rfl
        refine pure_ (i := 2) (N := some 15) (v := ?_) (a' := ?_) #[true, true, true, false, false, false, false, false, false, false, false, false, false, false, false, false, false, false, false, false, false, false, false, false, false, false, false, false, false, false, false, false, false, false, false] rfl rfl (zAq HT_.out (by kernel_rfl)) (fun _ _ _ h => h) (Or.inl ⟨by rfl, ?_⟩) ?_ ?_
        rotate_left
        ·intro w'
         go_simp
         with_reducible rfl
        rotate_left
        ·simp only [Act.put, List.setIfInBounds_toArray, List.set_cons_zero, List.set_cons_succ, i64_w, i32_w]
         rfl
        refine pure_ (i := 3) (N := some 16) (v := ?_) (a' := ?_) #[true, true, true, true, false, false, false, false, false, false, false, false, false, false, false, false, false, false, false, false, false, false, false, false, false, false, false, false, false, false, false, false, false, false, false] rfl rfl (zAq HT_.out (by kernel_rfl)) (fun _ _ _ h => h) (Or.inl ⟨by rfl, ?_⟩) ?_ ?_
        rotate_left
        ·intro w'
         go_simp
         with_reducible rfl
        rotate_left
        ·simp only [Act.put, List.setIfInBounds_toArray, List.set_cons_zero, List.set_cons_succ, i64_w, i32_w]
         rfl
        refine pure_ (i := 4) (N := some 17) (v := ?_) (a' := ?_) #[true, true, true, true, true, false, false, false, false, false, false, false, false, false, false, false, false, false, false, false, false, false, false, false, false, false, false, false, false, false, false, false, false, false, false] rfl rfl (zAq HT_.out (by kernel_rfl)) (fun _ _ _ h => h) (Or.inl ⟨by rfl, ?_⟩) ?_ ?_
        rotate_left
        ·intro w'
         go_simp
         with_reducible rfl
        rotate_left
        ·simp only [Act.put, List.setIfInBounds_toArray, List.set_cons_zero, List.set_cons_succ, i64_w, i32_w]
         rfl
        refine pure_ (i := 5) (N := some 18) (v := ?_) (a' := ?_) #[true, true, true, true, true, true, false, false, false, false, false, false, false, false, false, false, false, false, false, false, false, false, false, false, false, false, false, false, false, false, false, false, false, false, false] rfl rfl (zAq HT_.out (by kernel_rfl)) (fun _ _ _ h => h) (Or.inl ⟨by rfl, ?_⟩) ?_ ?_
        rotate_left
        ·intro w'
         go_simp
         with_reducible rfl
        rotate_left
        ·simp only [Act.put, List.setIfInBounds_toArray, List.set_cons_zero, List.set_cons_succ, i64_w, i32_w]
         rfl
        refine pure_ (i := 6) (N := some 19) (v := ?_) (a' := ?_) #[true, true, true, true, true, true, true, false, false, false, false, false, false, false, false, false, false, false, false, false, false, false, false, false, false, false, false, false, false, false, false, false, false, false, false] rfl rfl (zAq HT_.out (by kernel_rfl)) (fun _ _ _ h => h) (Or.inl ⟨by rfl, ?_⟩) ?_ ?_
        rotate_left
        ·intro w'
         go_simp
         with_reducible rfl
        rotate_left
        ·simp only [Act.put, List.setIfInBounds_toArray, List.set_cons_zero, List.set_cons_succ, i64_w, i32_w]
         rfl
        refine pure_ (i := 7) (N := some 20) (v := ?_) (a' := ?_) #[true, true, true, true, true, true, true, true, false, false, false, false, false, false, false, false, false, false, false, false, false, false, false, false, false, false, false, false, false, false, false, false, false, false, false] rfl rfl (zAq HT_.out (by kernel_rfl)) (fun _ _ _ h => h) (Or.inl ⟨by rfl, ?_⟩) ?_ ?_
        rotate_left
        ·intro w'
         go_simp
         with_reducible rfl
        rotate_left
        ·simp only [Act.put, List.setIfInBounds_toArray, List.set_cons_zero, List.set_cons_succ, i64_w, i32_w]
         rfl
        refine pure_ (i := 9) (N := some 22) (v := ?_) (a' := ?_) #[true, true, true, true, true, true, true, true, false, true, false, false, false, false, false, false, false, false, false, false, false, false, false, false, false, false, false, false, false, false, false, false, false, false, false] rfl rfl (zAq HT_.out (by kernel_rfl)) (fun _ _ _ h => h) (Or.inl ⟨by rfl, ?_⟩) ?_ ?_
        rotate_left
        ·intro w'
         go_simp
         with_reducible rfl
        rotate_left
        ·simp only [Act.put, List.setIfInBounds_toArray, List.set_cons_zero, List.set_cons_succ, i64_w, i32_w]
         rfl
        refine pure_ (i := 10) (N := some 23) (v := ?_) (a' := ?_) #[true, true, true, true, true, true, true, true, false, true, true, false, false, false, false, false, false, false, false, false, false, false, false, false, false, false, false, false, false, false, false, false, false, false, false] rfl rfl (zAq HT_.out (by kernel_rfl)) (fun _ _ _ h => h) (Or.inl ⟨by rfl, ?_⟩) ?_ ?_
        rotate_left
        ·intro w'
         go_simp
         with_reducible rfl
        rotate_left
        ·simp only [Act.put, List.setIfInBounds_toArray, List.set_cons_zero, List.set_cons_succ, i64_w, i32_w]
         rfl
        refine pure_ (i := 11) (N := some 24) (v := ?_) (a' := ?_) #[true, true, true, true, true, true, true, true, false, true, true, true, false, false, false, false, false, false, false, false, false, false, false, false, false, false, false, false, false, false, false, false, false, false, false] rfl rfl (zAq HT_.out (by kernel_rfl)) (fun _ _ _ h => h) (Or.inl ⟨by rfl, ?_⟩) ?_ ?_
        rotate_left
        ·intro w'
         go_simp
         with_reducible rfl
        rotate_left
        ·simp only [Act.put, List.setIfInBounds_toArray, List.set_cons_zero, List.set_cons_succ, i64_w, i32_w]
         rfl
        refine pure_ (i := 12) (N := some 25) (v := ?_) (a' := ?_) #[true, true, true, true, true, true, true, true, false, true, true, true, true, false, false, false, false, false, false, false, false, false, false, false, false, false, false, false, false, false, false, false, false, false, false] rfl rfl (zAq HT_.out (by kernel_rfl)) (fun _ _ _ h => h) (Or.inl ⟨by rfl, ?_⟩) ?_ ?_
        rotate_left
        ·intro w'
         go_simp
         with_reducible rfl
        rotate_left
        ·simp only [Act.put, List.setIfInBounds_toArray, List.set_cons_zero, List.set_cons_succ, i64_w, i32_w]
         rfl
        refine take_ (i := 8) (N := some 21) (v := ?_) (a' := ?_) #[true, true, true, true, true, true, true, true, true, true, true, true, true, false, false, false, false, false, false, false, false, false, false, false, false, false, false, false, false, false, false, false, false, false, false] rfl rfl (zC3 HT_.out HW_.out (by kernel_rfl)) (fun _ _ _ h => h) (Or.inl ⟨by rfl, ?_⟩) hHeld ?_ ?_
        rotate_left
        ·rintro w' ⟨s0, s1, s2, s3, s4, s5, s6, s7⟩
         go_simp
         with_reducible rfl
        rotate_left
        ·simp only [Act.put, List.setIfInBounds_toArray, List.set_cons_zero, List.set_cons_succ, i64_w, i32_w]
         rfl
        refine take_ (i := 13) (N := some 26) (v := ?_) (a' := ?_) #[true, true, true, true, true, true, true, true, true, true, true, true, true, true, false, false, false, false, false, false, false, false, false, false, false, false, false, false, false, false, false, false, false, false, false] rfl rfl (zC3 HT_.out HW_.out (by kernel_rfl)) (fun _ _ _ h => h) (Or.inl ⟨by rfl, ?_⟩) hHeld ?_ ?_
        rotate_left
        ·rintro w' ⟨s0, s1, s2, s3, s4, s5, s6, s7⟩
         go_simp
         with_reducible rfl
        rotate_left
        ·simp only [Act.put, List.setIfInBounds_toArray, List.set_cons_zero, List.set_cons_succ, i64_w, i32_w]
         rfl
        refine one_ (i := 14) (N := some 27) #[true, true, true, true, true, true, true, true, true, true, true, true, true, true, true, false, false, false, false, false, false, false, false, false, false, false, false, false, false, false, false, false, false, false, false] rfl rfl (one_of HT_.out (by kernel_rfl)) (by decide) (fun K hK => ?_)
        refine goes_ Tryd.func51 (by kernel_rfl) rfl #[.slice A547_1 ((zA6 l0 a1).f1).length c547_1, .slice A548_1 ((zA6 l0 x6_1).f1).length c548_1] (by rfl) rfl rfl (by (try simp only [List.map_toArray, List.map_cons, List.map_nil]); first | done | rfl | (simp only [List.length_drop, List.length_take]; rfl)) ?_
        with_reducible refine (zAe.calls k1 _ _ ((zA6 l0 a1).f1) _ _ ((zA6 l0 x6_1).f1) true _ ?side1 ?side2 ?side3 ?side4 A9.out).mono ?_
        (case side1 => repeat (first | exact (Kd.zAy HR547_1.out HB.out) | (with_reducible refine Kd.zA8 ?_ _) | (with_reducible refine Kd.zAd ?_ _) | (with_reducible refine Kd.zAp ?_)))
        (case side2 => exact HC547_1.out)
        (case side3 => repeat (first | exact (Kd.zAy HR548_1.out HB.out) | (with_reducible refine Kd.zA8 ?_ _) | (with_reducible refine Kd.zAd ?_ _) | (with_reducible refine Kd.zAp ?_)))
        (case side4 => exact HC548_1.out)
        rintro e w' ⟨rfl, ⟨nd, rfl⟩⟩
        refine ⟨_, rfl, ?_⟩
        refine hK.out _ _ ⟨((HB.out.cell (World.block_lt_of_cell? w _ hw547_0)).trans hw547_0), ((HB.out.cell (World.block_lt_of_cell? w _ hw547_1)).trans hw547_1), ((HB.out.cell (World.block_lt_of_cell? w _ hw548_0)).trans hw548_0), ((HB.out.cell (World.block_lt_of_cell? w _ hw548_1)).trans hw548_1), ((HB.out.cell (World.block_lt_of_cell? w _ hw550_0)).trans hw550_0), ((HB.out.cell (World.block_lt_of_cell? w _ hw550_1)).trans hw550_1), ((HB.out.cell (World.block_lt_of_cell? w _ hw551_0)).trans hw551_0), ((HB.out.cell (World.block_lt_of_cell? w _ hw551_1)).trans hw551_1)⟩ (fun hHeld => ?_)
        clear hK K
        refine norm_ (a' := ?_) ?_ ?_
        rotate_left
        ·show Act.put _ (some 27) _ = _
         simp only [Act.put, List.setIfInBounds_toArray, List.set_cons_zero, List.set_cons_succ, i64_w, i32_w]
         rfl
        refine pure_ (i := 15) (N := some 28) (v := ?_) (a' := ?_) #[true, true, true, true, true, true, true, true, true, true, true, true, true, true, true, true, false, false, false, false, false, false, false, false, false, false, false, false, false, false, false, false, false, false, false] rfl rfl (zAq HT_.out (by kernel_rfl)) (fun _ _ _ h => h) (Or.inl ⟨by rfl, ?_⟩) ?_ ?_
        rotate_left
        ·intro w'
         go_simp
         with_reducible rfl
        rotate_left
        ·simp only [Act.put, List.setIfInBounds_toArray, List.set_cons_zero, List.set_cons_succ, i64_w, i32_w]
         rfl
        refine pure_ (i := 16) (N := some 29) (v := ?_) (a' := ?_) #[true, true, true, true, true, true, true, true, true, true, true, true, true, true, true, true, true, false, false, false, false, false, false, false, false, false, false, false, false, false, false, false, false, false, false] rfl rfl (zAq HT_.out (by kernel_rfl)) (fun _ _ _ h => h) (Or.inl ⟨by rfl, ?_⟩) ?_ ?_
        rotate_left
        ·intro w'
         go_simp
         with_reducible rfl
        rotate_left
        ·simp only [Act.put, List.setIfInBounds_toArray, List.set_cons_zero, List.set_cons_succ, i64_w, i32_w]
         rfl
        refine pure_ (i := 17) (N := some 30) (v := ?_) (a' := ?_) #[true, true, true, true, true, true, true, true, true, true, true, true, true, true, true, true, true, true, false, false, false, false, false, false, false, false, false, false, false, false, false, false, false, false, false] rfl rfl (zAq HT_.out (by kernel_rfl)) (fun _ _ _ h => h) (Or.inl ⟨by rfl, ?_⟩) ?_ ?_
        rotate_left
        ·intro w'
         go_simp
         with_reducible rfl
        rotate_left
        ·simp only [Act.put, List.setIfInBounds_toArray, List.set_cons_zero, List.set_cons_succ, i64_w, i32_w]
         rfl
        refine pure_ (i := 18) (N := some 31) (v := ?_) (a' := ?_) #[true, true, true, true, true, true, true, true, true, true, true, true, true, true, true, true, true, true, true, false, false, false, false, false, false, false, false, false, false, false, false, false, false, false, false] rfl rfl (zAq HT_.out (by kernel_rfl)) (fun _ _ _ h => h) (Or.inl ⟨by rfl, ?_⟩) ?_ ?_
        rotate_left
        ·intro w'
         go_simp
         with_reducible rfl
        rotate_left
        ·simp only [Act.put, List.setIfInBounds_toArray, List.set_cons_zero, List.set_cons_succ, i64_w, i32_w]
         rfl
        refine pure_ (i := 19) (N := some 32) (v := ?_) (a' := ?_) #[true, true, true, true, true, true, true, true, true, true, true, true, true, true, true, true, true, true, true, true, false, false, false, false, false, false, false, false, false, false, false, false, false, false, false] rfl rfl (zAq HT_.out (by kernel_rfl)) (fun _ _ _ h => h) (Or.inl ⟨by rfl, ?_⟩) ?_ ?_
        rotate_left
        ·intro w'
         go_simp
         with_reducible rfl
        rotate_left
        ·simp only [Act.put, List.setIfInBounds_toArray, List.set_cons_zero, List.set_cons_succ, i64_w, i32_w]
         rfl
        refine pure_ (i := 20) (N := some 33) (v := ?_) (a' := ?_) #[true, true, true, true, true, true, true, true, true, true, true, true, true, true, true, true, true, true, true, true, true, false, false, false, false, false, false, false, false, false, false, false, false, false, false] rfl rfl (zAq HT_.out (by kernel_rfl)) (fun _ _ _ h => h) (Or.inl ⟨by rfl, ?_⟩) ?_ ?_
        rotate_left
        ·intro w'
         go_simp
         with_reducible rfl
        rotate_left
        ·simp only [Act.put, List.setIfInBounds_toArray, List.set_cons_zero, List.set_cons_succ, i64_w, i32_w]
         rfl
        refine pure_ (i := 21) (N := some 34) (v := ?_) (a' := ?_) #[true, true, true, true, true, true, true, true, true, true, true, true, true, true, true, true, true, true, true, true, true, true, false, false, false, false, false, false, false, false, false, false, false, false, false] rfl rfl (zAq HT_.out (by kernel_rfl)) (fun _ _ _ h => h) (Or.inl ⟨by rfl, ?_⟩) ?_ ?_
        rotate_left
        ·intro w'
         go_simp
         with_reducible rfl
        rotate_left
        ·simp only [Act.put, List.setIfInBounds_toArray, List.set_cons_zero, List.set_cons_succ, i64_w, i32_w]
         rfl
        refine pure_ (i := 22) (N := some 35) (v := ?_) (a' := ?_) #[true, true, true, true, true, true, true, true, true, true, true, true, true, true, true, true, true, true, true, true, true, true, true, false, false, false, false, false, false, false, false, false, false, false, false] rfl rfl (zAq HT_.out (by kernel_rfl)) (fun _ _ _ h => h) (Or.inl ⟨by rfl, ?_⟩) ?_ ?_
        rotate_left
        ·intro w'
         go_simp
         with_reducible rfl
        rotate_left
        ·simp only [Act.put, List.setIfInBounds_toArray, List.set_cons_zero, List.set_cons_succ, i64_w, i32_w]
         rfl
        refine pure_ (i := 23) (N := some 36) (v := ?_) (a' := ?_) #[true, true, true, true, true, true, true, true, true, true, true, true, true, true, true, true, true, true, true, true, true, true, true, true, false, false, false, false, false, false, false, false, false, false, false] rfl rfl (zAq HT_.out (by kernel_rfl)) (fun _ _ _ h => h) (Or.inl ⟨by rfl, ?_⟩) ?_ ?_
        rotate_left
        ·intro w'
         go_simp
         with_reducible rfl
        rotate_left
        ·simp only [Act.put, List.setIfInBounds_toArray, List.set_cons_zero, List.set_cons_succ, i64_w, i32_w]
         rfl
        refine pure_ (i := 26) (N := some 39) (v := ?_) (a' := ?_) #[true, true, true, true, true, true, true, true, true, true, true, true, true, true, true, true, true, true, true, true, true, true, true, true, false, false, true, false, false, false, false, false, false, false, false] rfl rfl (zAq HT_.out (by kernel_rfl)) (fun _ _ _ h => h) (Or.inl ⟨by rfl, ?_⟩) ?_ ?_
        rotate_left
        ·intro w'
         go_simp
         with_reducible rfl
        rotate_left
        ·simp only [Act.put, List.setIfInBounds_toArray, List.set_cons_zero, List.set_cons_succ, i64_w, i32_w]
         rfl
        refine pure_ (i := 27) (N := some 40) (v := ?_) (a' := ?_) #[true, true, true, true, true, true, true, true, true, true, true, true, true, true, true, true, true, true, true, true, true, true, true, true, false, false, true, true, false, false, false, false, false, false, false] rfl rfl (zAq HT_.out (by kernel_rfl)) (fun _ _ _ h => h) (Or.inl ⟨by rfl, ?_⟩) ?_ ?_
        rotate_left
        ·intro w'
         go_simp
         with_reducible rfl
        rotate_left
        ·simp only [Act.put, List.setIfInBounds_toArray, List.set_cons_zero, List.set_cons_succ, i64_w, i32_w]
         rfl
        refine pure_ (i := 28) (N := some 41) (v := ?_) (a' := ?_) #[true, true, true, true, true, true, true, true, true, true, true, true, true, true, true, true, true, true, true, true, true, true, true, true, false, false, true, true, true, false, false, false, false, false, false] rfl rfl (zAq HT_.out (by kernel_rfl)) (fun _ _ _ h => h) (Or.inl ⟨by rfl, ?_⟩) ?_ ?_
        rotate_left
        ·intro w'
         go_simp
         with_reducible rfl
        rotate_left
        ·simp only [Act.put, List.setIfInBounds_toArray, List.set_cons_zero, List.set_cons_succ, i64_w, i32_w]
         rfl
        refine pure_ (i := 29) (N := some 42) (v := ?_) (a' := ?_) #[true, true, true, true, true, true, true, true, true, true, true, true, true, true, true, true, true, true, true, true, true, true, true, true, false, false, true, true, true, true, false, false, false, false, false] rfl rfl (zAq HT_.out (by kernel_rfl)) (fun _ _ _ h => h) (Or.inl ⟨by rfl, ?_⟩) ?_ ?_
        rotate_left
        ·intro w'
         go_simp
         with_reducible rfl
        rotate_left
        ·simp only [Act.put, List.setIfInBounds_toArray, List.set_cons_zero, List.set_cons_succ, i64_w, i32_w]
         rfl
        refine take_ (i := 24) (N := some 37) (v := ?_) (a' := ?_) #[true, true, true, true, true, true, true, true, true, true, true, true, true, true, true, true, true, true, true, true, true, true, true, true, true, false, true, true, true, true, false, false, false, false, false] rfl rfl (zC3 HT_.out HW_.out (by kernel_rfl)) (fun _ _ _ h => h) (Or.inl ⟨by rfl, ?_⟩) hHeld ?_ ?_
        rotate_left
        ·rintro w' ⟨s0, s1, s2, s3, s4, s5, s6, s7⟩
         go_simp
         with_reducible rfl
        rotate_left
        ·simp only [Act.put, List.setIfInBounds_toArray, List.set_cons_zero, List.set_cons_succ, i64_w, i32_w]
         rfl
        refine pure_ (i := 25) (N := some 38) (v := ?_) (a' := ?_) #[true, true, true, true, true, true, true, true, true, true, true, true, true, true, true, true, true, true, true, true, true, true, true, true, true, true, true, true, true, true, false, false, false, false, false] rfl rfl (zAq HT_.out (by kernel_rfl)) (fun _ _ _ h => h) (Or.inl ⟨by rfl, ?_⟩) ?_ ?_
        rotate_left
        ·intro w'
         go_simp
         with_reducible rfl
        rotate_left
        ·simp only [Act.put, List.setIfInBounds_toArray, List.set_cons_zero, List.set_cons_succ, i64_w, i32_w]
         rfl
        refine take_ (i := 30) (N := some 43) (v := ?_) (a' := ?_) #[true, true, true, true, true, true, true, true, true, true, true, true, true, true, true, true, true, true, true, true, true, true, true, true, true, true, true, true, true, true, true, false, false, false, false] rfl rfl (zC3 HT_.out HW_.out (by kernel_rfl)) (fun _ _ _ h => h) (Or.inl ⟨by rfl, ?_⟩) hHeld ?_ ?_
        rotate_left
        ·rintro w' ⟨s0, s1, s2, s3, s4, s5, s6, s7⟩
         go_simp
         with_reducible rfl
        rotate_left
        ·simp only [Act.put, List.setIfInBounds_toArray, List.set_cons_zero, List.set_cons_succ, i64_w, i32_w]
         rfl
        refine pure_ (i := 31) (N := some 44) (v := ?_) (a' := ?_) #[true, true, true, true, true, true, true, true, true, true, true, true, true, true, true, true, true, true, true, true, true, true, true, true, true, true, true, true, true, true, true, true, false, false, false] rfl rfl (zAq HT_.out (by kernel_rfl)) (fun _ _ _ h => h) (Or.inl ⟨by rfl, ?_⟩) ?_ ?_
        rotate_left
        ·intro w'
         go_simp
         with_reducible rfl
        rotate_left
        ·simp only [Act.put, List.setIfInBounds_toArray, List.set_cons_zero, List.set_cons_succ, i64_w, i32_w]
         rfl
        refine pure_ (i := 32) (N := some 45) (v := ?_) (a' := ?_) #[true, true, true, true, true, true, true, true, true, true, true, true, true, true, true, true, true, true, true, true, true, true, true, true, true, true, true, true, true, true, true, true, true, false, false] rfl rfl (zAq HT_.out (by kernel_rfl)) (fun _ _ _ h => h) (Or.inl ⟨by rfl, ?_⟩) ?_ ?_
        rotate_left
        ·intro w'
         go_simp
         with_reducible rfl
        rotate_left
        ·simp only [Act.put, List.setIfInBounds_toArray, List.set_cons_zero, List.set_cons_succ, i64_w, i32_w]
         rfl
        refine pure_ (i := 33) (N := some 46) (v := ?_) (a' := ?_) #[true, true, true, true, true, true, true, true, true, true, true, true, true, true, true, true, true, true, true, true, true, true, true, true, true, true, true, true, true, true, true, true, true, true, false] rfl rfl (zAq HT_.out (by kernel_rfl)) (fun _ _ _ h => h) (Or.inl ⟨by rfl, ?_⟩) ?_ ?_
        rotate_left
        ·intro w'
         go_simp
         with_reducible rfl
        rotate_left
        ·simp only [Act.put, List.setIfInBounds_toArray, List.set_cons_zero, List.set_cons_succ, i64_w, i32_w]
         rfl
        refine pure_ (i := 34) (N := some 47) (v := ?_) (a' := ?_) #[true, true, true, true, true, true, true, true, true, true, true, true, true, true, true, true, true, true, true, true, true, true, true, true, true, true, true, true, true, true, true, true, true, true, true] rfl rfl (zAq HT_.out (by kernel_rfl)) (fun _ _ _ h => h) (Or.inl ⟨by rfl, ?_⟩) ?_ ?_
        rotate_left
        ·intro w'
         go_simp
         with_reducible rfl
        rotate_left
        ·simp only [Act.put, List.setIfInBounds_toArray, List.set_cons_zero, List.set_cons_succ, i64_w, i32_w]
         rfl
        refine done_ (done_of HT_.out (by kernel_rfl)) ?_
        try go_wp2
        go_roundg k1
        case measure => have := HK1.out; omega
        case rel => exact ⟨(x6_1), (wrap64 (x6_1 + 1)), (by first | rfl | (simp; done) | (simp [*]; done)), (by first | rfl | (simp; done) | (simp [*]; done)), H', ⟨by have := HK1.out; omega⟩, ⟨by repeat (first | (with_reducible first | exact HB.out | apply zA2 | apply zA0 | apply zA3) | exact HB.out)⟩⟩
       ·rw [if_neg c15] at H
        have c15b0 : decide ((((zA6 l0 x6_1).f1).length : Int) < (((zA6 l0 x5_1).f1).length : Int)) = false := decide_eq_false c15
        have c15b1 : decide (((zA6 l0 x6_1).f1).length < ((zA6 l0 x5_1).f1).length) = false := decide_eq_false (fun h => c15 (Int.ofNat_lt.mpr h))
        clear c15
        have H' := zA1.mk H
        clear H
        try go_wp2
        have n0_ := zA1.mk (zA3 HB.out)
        clear HB
        have HB := n0_
        clear n0_
        have p547 : 0 ≤ (a1 : Int) := of_decide_eq_true (by first | (with_reducible assumption) | assumption)
        have q547 : a1 < (l0.length : Int) := of_decide_eq_true (by first | (with_reducible assumption) | assumption)
        obtain ⟨ad547, A547_1, c547_1, e547, hx547_0, hx547_1, hl547_1, hi547_1⟩ := zC5 HR0.out a1 p547 q547
        have hw547_1 := hx547_1
        have hw547_0 := hx547_0
        cases e547
        replace hx547_0 := (HB.out.cell (World.block_lt_of_cell? w _ hx547_0)).trans hx547_0
        replace hx547_1 := (HB.out.cell (World.block_lt_of_cell? w _ hx547_1)).trans hx547_1
        have HR547_1 := zA1.mk hi547_1
        have HC547_1 := zA1.mk hl547_1
        clear hi547_1 hl547_1
        replace p547 := eq_true p547
        replace q547 := eq_true q547
        have p548 : 0 ≤ (x6_1 : Int) := of_decide_eq_true (by first | (with_reducible assumption) | assumption)
        have q548 : x6_1 < (l0.length : Int) := of_decide_eq_true (by first | (with_reducible assumption) | assumption)
        obtain ⟨ad548, A548_1, c548_1, e548, hx548_0, hx548_1, hl548_1, hi548_1⟩ := zC5 HR0.out x6_1 p548 q548
        have hw548_1 := hx548_1
        have hw548_0 := hx548_0
        obtain rfl : ad547 = ad548 := (by injection e548)
        replace hx548_0 := (HB.out.cell (World.block_lt_of_cell? w _ hx548_0)).trans hx548_0
        replace hx548_1 := (HB.out.cell (World.block_lt_of_cell? w _ hx548_1)).trans hx548_1
        have HR548_1 := zA1.mk hi548_1
        have HC548_1 := zA1.mk hl548_1
        clear hi548_1 hl548_1
        replace p548 := eq_true p548
        replace q548 := eq_true q548
        have p550 : 0 ≤ (x6_1 : Int) := of_decide_eq_true (by first | (with_reducible assumption) | assumption)
        have q550 : x6_1 < (l0.length : Int) := of_decide_eq_true (by first | (with_reducible assumption) | assumption)
        obtain ⟨ad550, A550_1, c550_1, e550, hx550_0, hx550_1, hl550_1, hi550_1⟩ := zC5 HR0.out x6_1 p550 q550
        have hw550_1 := hx550_1
        have hw550_0 := hx550_0
        obtain rfl : ad547 = ad550 := (by injection e550)
        replace hx550_0 := (HB.out.cell (World.block_lt_of_cell? w _ hx550_0)).trans hx550_0
        replace hx550_1 := (HB.out.cell (World.block_lt_of_cell? w _ hx550_1)).trans hx550_1
        have HR550_1 := zA1.mk hi550_1
        have HC550_1 := zA1.mk hl550_1
        clear hi550_1 hl550_1
        replace p550 := eq_true p550
        replace q550 := eq_true q550
        have ea_ := Option.some.inj (hx548_1.symm.trans hx550_1)
        injection ea_ with ea_ en_ ec_
        subst ea_
        subst ec_
        clear en_
        have p551 : 0 ≤ (x5_1 : Int) := of_decide_eq_true (by first | (with_reducible assumption) | assumption)
        have q551 : x5_1 < (l0.length : Int) := of_decide_eq_true (by first | (with_reducible assumption) | assumption)
        obtain ⟨ad551, A551_1, c551_1, e551, hx551_0, hx551_1, hl551_1, hi551_1⟩ := zC5 HR0.out x5_1 p551 q551
        have hw551_1 := hx551_1
        have hw551_0 := hx551_0
        obtain rfl : ad547 = ad551 := (by injection e551)
        replace hx551_0 := (HB.out.cell (World.block_lt_of_cell? w _ hx551_0)).trans hx551_0
        replace hx551_1 := (HB.out.cell (World.block_lt_of_cell? w _ hx551_1)).trans hx551_1
        have HR551_1 := zA1.mk hi551_1
        have HC551_1 := zA1.mk hl551_1
        clear hi551_1 hl551_1
        replace p551 := eq_true p551
        replace q551 := eq_true q551
        refine start_ (n := 35) (S := fun w' => w'.cell? (ad547.add ((a1).toNat * 2)) = some (.string ((zA6 l0 a1).f0)) ∧ w'.cell? ⟨(ad547.add ((a1).toNat * 2)).block, (ad547.add ((a1).toNat * 2)).off + 1, none⟩ = some (.slice A547_1 ((zA6 l0 a1).f1).length c547_1) ∧ w'.cell? (ad547.add ((x6_1).toNat * 2)) = some (.string ((zA6 l0 x6_1).f0)) ∧ w'.cell? ⟨(ad547.add ((x6_1).toNat * 2)).block, (ad547.add ((x6_1).toNat * 2)).off + 1, none⟩ = some (.slice A548_1 ((zA6 l0 x6_1).f1).length c548_1) ∧ w'.cell? (ad547.add ((x6_1).toNat * 2)) = some (.string ((zA6 l0 x6_1).f0)) ∧ w'.cell? ⟨(ad547.add ((x6_1).toNat * 2)).block, (ad547.add ((x6_1).toNat * 2)).off + 1, none⟩ = some (.slice A548_1 ((zA6 l0 x6_1).f1).length c548_1) ∧ w'.cell? (ad547.add ((x5_1).toNat * 2)) = some (.string ((zA6 l0 x5_1).f0)) ∧ w'.cell? ⟨(ad547.add ((x5_1).toNat * 2)).block, (ad547.add ((x5_1).toNat * 2)).off + 1, none⟩ = some (.slice A551_1 ((zA6 l0 x5_1).f1).length c551_1)) (ds := []) #[false, false, false, false, false, false, false, false, false, false, false, false, false, false, false, false, false, false, false, false, false, false, false, false, false, false, false, false, false, false, false, false, false, false, false] (by kernel_rfl) rfl rfl ⟨((HB.out.cell (World.block_lt_of_cell? w _ hw547_0)).trans hw547_0), ((HB.out.cell (World.block_lt_of_cell? w _ hw547_1)).trans hw547_1), ((HB.out.cell (World.block_lt_of_cell? w _ hw548_0)).trans hw548_0), ((HB.out.cell (World.block_lt_of_cell? w _ hw548_1)).trans hw548_1), ((HB.out.cell (World.block_lt_of_cell? w _ hw550_0)).trans hw550_0), ((HB.out.cell (World.block_lt_of_cell? w _ hw550_1)).trans hw550_1), ((HB.out.cell (World.block_lt_of_cell? w _ hw551_0)).trans hw551_0), ((HB.out.cell (World.block_lt_of_cell? w _ hw551_1)).trans hw551_1)⟩ (fun hHeld => ?_); refine with_tabW zAl.tab5 zAl.bits5 (fun HT_ HW_ => ?_)
        generalize wr.drew = w17 at HB HR547_1 HR548_1 HR550_1 HR551_1 hx547_0 hx547_1 hx548_0 hx548_1 hx550_0 hx550_1 hx551_0 hx551_1 hHeld ⊢
        refine pure_ (i := 0) (N := some 13) (v := ?_) (a' := ?_) #[true, false, false, false, false, false, false, false, false, false, false, false, false, false, false, false, false, false, false, false, false, false, false, false, false, false, false, false, false, false, false, false, false, false, false] rfl rfl (zAq HT_.out (by kernel_rfl)) (fun _ _ _ h => h) (Or.inl ⟨by rfl, ?_⟩) ?_ ?_
        rotate_left
        ·intro w'
         go_simp
         with_reducible rfl
        rotate_left
        ·simp only [Act.put, List.setIfInBounds_toArray, List.set_cons_zero, List.set_cons_succ, i64_w, i32_w]
         rfl
        refine pure_ (i := 1) (N := some 14) (v := ?_) (a' := ?_) #[true, true, false, false, false, false, false, false, false, false, false, false, false, false, false, false, false, false, false, false, false, false, false, false, false, false, false, false, false, false, false, false, false, false, false] rfl rfl (zAq HT_.out (by kernel_rfl)) (fun _ _ _ h => h) (Or.inl ⟨by rfl, ?_⟩) ?_ ?_
        rotate_left
        ·intro w'
         go_simp
         with_reducible rfl
        rotate_left
        ·simp only [Act.put, List.setIfInBounds_toArray, List.set_cons_zero, List.set_cons_succ, i64_w, i32_w]
         rfl
        refine pure_ (i := 2) (N := some 15) (v := ?_) (a' := ?_) #[true, true, true, false, false, false, false, false, false, false, false, false, false, false, false, false, false, false, false, false, false, false, false, false, false, false, false, false, false, false, false, false, false, false, false] rfl rfl (zAq HT_.out (by kernel_rfl)) (fun _ _ _ h => h) (Or.inl ⟨by rfl, ?_⟩) ?_ ?_
        rotate_left
        ·intro w'
         go_simp
         with_reducible rfl
        rotate_left
        ·simp only [Act.put, List.setIfInBounds_toArray, List.set_cons_zero, List.set_cons_succ, i64_w, i32_w]
         rfl
        refine pure_ (i := 3) (N := some 16) (v := ?_) (a' := ?_) #[true, true, true, true, false, false, false, false, false, false, false, false, false, false, false, false, false, false, false, false, false, false, false, false, false, false, false, false, false, false, false, false, false, false, false] rfl rfl (zAq HT_.out (by kernel_rfl)) (fun _ _ _ h => h) (Or.inl ⟨by rfl, ?_⟩) ?_ ?_
        rotate_left
        ·intro w'
         go_simp
         with_reducible rfl
        rotate_left
        ·simp only [Act.put, List.setIfInBounds_toArray, List.set_cons_zero, List.set_cons_succ, i64_w, i32_w]
         rfl
        refine pure_ (i := 4) (N := some 17) (v := ?_) (a' := ?_) #[true, true, true, true, true, false, false, false, false, false, false, false, false, false, false, false, false, false, false, false, false, false, false, false, false, false, false, false, false, false, false, false, false, false, false] rfl rfl (zAq HT_.out (by kernel_rfl)) (fun _ _ _ h => h) (Or.inl ⟨by rfl, ?_⟩) ?_ ?_
        rotate_left
        ·intro w'
         go_simp
         with_reducible rfl
        rotate_left
        ·simp only [Act.put, List.setIfInBounds_toArray, List.set_cons_zero, List.set_cons_succ, i64_w, i32_w]
         rfl
        refine pure_ (i := 5) (N := some 18) (v := ?_) (a' := ?_) #[true, true, true, true, true, true, false, false, false, false, false, false, false, false, false, false, false, false, false, false, false, false, false, false, false, false, false, false, false, false, false, false, false, false, false] rfl rfl (zAq HT_.out (by kernel_rfl)) (fun _ _ _ h => h) (Or.inl ⟨by rfl, ?_⟩) ?_ ?_
        rotate_left
        ·intro w'
         go_simp
         with_reducible rfl
        rotate_left
        ·simp only [Act.put, List.setIfInBounds_toArray, List.set_cons_zero, List.set_cons_succ, i64_w, i32_w]
         rfl
        refine pure_ (i := 6) (N := some 19) (v := ?_) (a' := ?_) #[true, true, true, true, true, true, true, false, false, false, false, false, false, false, false, false, false, false, false, false, false, false, false, false, false, false, false, false, false, false, false, false, false, false, false] rfl rfl (zAq HT_.out (by kernel_rfl)) (fun _ _ _ h => h) (Or.inl ⟨by rfl, ?_⟩) ?_ ?_
        rotate_left
        ·intro w'
         go_simp
         with_reducible rfl
        rotate_left
        ·simp only [Act.put, List.setIfInBounds_toArray, List.set_cons_zero, List.set_cons_succ, i64_w, i32_w]
         rfl
        refine pure_ (i := 7) (N := some 20) (v := ?_) (a' := ?_) #[true, true, true, true, true, true, true, true, false, false, false, false, false, false, false, false, false, false, false, false, false, false, false, false, false, false, false, false, false, false, false, false, false, false, false] rfl rfl (zAq HT_.out (by kernel_rfl)) (fun _ _ _ h => h) (Or.inl ⟨by rfl, ?_⟩) ?_ ?_
        rotate_left
        ·intro w'
         go_simp
         with_reducible rfl
        rotate_left
        ·simp only [Act.put, List.setIfInBounds_toArray, List.set_cons_zero, List.set_cons_succ, i64_w, i32_w]
         rfl
        refine pure_ (i := 9) (N := some 22) (v := ?_) (a' := ?_) #[true, true, true, true, true, true, true, true, false, true, false, false, false, false, false, false, false, false, false, false, false, false, false, false, false, false, false, false, false, false, false, false, false, false, false] rfl rfl (zAq HT_.out (by kernel_rfl)) (fun _ _ _ h => h) (Or.inl ⟨by rfl, ?_⟩) ?_ ?_
        rotate_left
        ·intro w'
         go_simp
         with_reducible rfl
        rotate_left
        ·simp only [Act.put, List.setIfInBounds_toArray, List.set_cons_zero, List.set_cons_succ, i64_w, i32_w]
         rfl
        refine pure_ (i := 10) (N := some 23) (v := ?_) (a' := ?_) #[true, true, true, true, true, true, true, true, false, true, true, false, false, false, false, false, false, false, false, false, false, false, false, false, false, false, false, false, false, false, false, false, false, false, false] rfl rfl (zAq HT_.out (by kernel_rfl)) (fun _ _ _ h => h) (Or.inl ⟨by rfl, ?_⟩) ?_ ?_
        rotate_left
        ·intro w'
         go_simp
         with_reducible rfl
        rotate_left
        ·simp only [Act.put, List.setIfInBounds_toArray, List.set_cons_zero, List.set_cons_succ, i64_w, i32_w]
         rfl
        refine pure_ (i := 11) (N := some 24) (v := ?_) (a' := ?_) #[true, true, true, true, true, true, true, true, false, true, true, true, false, false, false, false, false, false, false, false, false, false, false, false, false, false, false, false, false, false, false, false, false, false, false] rfl rfl (zAq HT_.out (by kernel_rfl)) (fun _ _ _ h => h) (Or.inl ⟨by rfl, ?_⟩) ?_ ?_
        rotate_left
        ·intro w'
         go_simp
         with_reducible rfl
        rotate_left
        ·simp only [Act.put, List.setIfInBounds_toArray, List.set_cons_zero, List.set_cons_succ, i64_w, i32_w]
         rfl
        refine pure_ (i := 12) (N := some 25) (v := ?_) (a' := ?_) #[true, true, true, true, true, true, true, true, false, true, true, true, true, false, false, false, false, false, false, false, false, false, false, false, false, false, false, false, false, false, false, false, false, false, false] rfl rfl (zAq HT_.out (by kernel_rfl)) (fun _ _ _ h => h) (Or.inl ⟨by rfl, ?_⟩) ?_ ?_
        rotate_left
        ·intro w'
         go_simp
         with_reducible rfl
        rotate_left
        ·simp only [Act.put, List.setIfInBounds_toArray, List.set_cons_zero, List.set_cons_succ, i64_w, i32_w]
         rfl
        refine take_ (i := 8) (N := some 21) (v := ?_) (a' := ?_) #[true, true, true, true, true, true, true, true, true, true, true, true, true, false, false, false, false, false, false, false, false, false, false, false, false, false, false, false, false, false, false, false, false, false, false] rfl rfl (zC3 HT_.out HW_.out (by kernel_rfl)) (fun _ _ _ h => h) (Or.inl ⟨by rfl, ?_⟩) hHeld ?_ ?_
        rotate_left
        ·rintro w' ⟨s0, s1, s2, s3, s4, s5, s6, s7⟩
         go_simp
         with_reducible rfl
        rotate_left
        ·simp only [Act.put, List.setIfInBounds_toArray, List.set_cons_zero, List.set_cons_succ, i64_w, i32_w]
         rfl
        refine take_ (i := 13) (N := some 26) (v := ?_) (a' := ?_) #[true, true, true, true, true, true, true, true, true, true, true, true, true, true, false, false, false, false, false, false, false, false, false, false, false, false, false, false, false, false, false, false, false, false, false] rfl rfl (zC3 HT_.out HW_.out (by kernel_rfl)) (fun _ _ _ h => h) (Or.inl ⟨by rfl, ?_⟩) hHeld ?_ ?_
        rotate_left
        ·rintro w' ⟨s0, s1, s2, s3, s4, s5, s6, s7⟩
         go_simp
         with_reducible rfl
        rotate_left
        ·simp only [Act.put, List.setIfInBounds_toArray, List.set_cons_zero, List.set_cons_succ, i64_w, i32_w]
         rfl
        refine one_ (i := 14) (N := some 27) #[true, true, true, true, true, true, true, true, true, true, true, true, true, true, true, false, false, false, false, false, false, false, false, false, false, false, false, false, false, false, false, false, false, false, false] rfl rfl (one_of HT_.out (by kernel_rfl)) (by decide) (fun K hK => ?_)
        refine goes_ Tryd.func51 (by kernel_rfl) rfl #[.slice A547_1 ((zA6 l0 a1).f1).length c547_1, .slice A548_1 ((zA6 l0 x6_1).f1).length c548_1] (by rfl) rfl rfl (by (try simp only [List.map_toArray, List.map_cons, List.map_nil]); first | done | rfl | (simp only [List.length_drop, List.length_take]; rfl)) ?_
        with_reducible refine (zAe.calls k1 _ _ ((zA6 l0 a1).f1) _ _ ((zA6 l0 x6_1).f1) true _ ?side1 ?side2 ?side3 ?side4 A9.out).mono ?_
        (case side1 => repeat (first | exact (Kd.zAy HR547_1.out HB.out) | (with_reducible refine Kd.zA8 ?_ _) | (with_reducible refine Kd.zAd ?_ _) | (with_reducible refine Kd.zAp ?_)))
        (case side2 => exact HC547_1.out)
        (case side3 => repeat (first | exact (Kd.zAy HR548_1.out HB.out) | (with_reducible refine Kd.zA8 ?_ _) | (with_reducible refine Kd.zAd ?_ _) | (with_reducible refine Kd.zAp ?_)))
        (case side4 => exact HC548_1.out)
        rintro e w' ⟨rfl, ⟨nd, rfl⟩⟩
        refine ⟨_, rfl, ?_⟩
        refine hK.out _ _ ⟨((HB.out.cell (World.block_lt_of_cell? w _ hw547_0)).trans hw547_0), ((HB.out.cell (World.block_lt_of_cell? w _ hw547_1)).trans hw547_1), ((HB.out.cell (World.block_lt_of_cell? w _ hw548_0)).trans hw548_0), ((HB.out.cell (World.block_lt_of_cell? w _ hw548_1)).trans hw548_1), ((HB.out.cell (World.block_lt_of_cell? w _ hw550_0)).trans hw550_0), ((HB.out.cell (World.block_lt_of_cell? w _ hw550_1)).trans hw550_1), ((HB.out.cell (World.block_lt_of_cell? w _ hw551_0)).trans hw551_0), ((HB.out.cell (World.block_lt_of_cell? w _ hw551_1)).trans hw551_1)⟩ (fun hHeld => ?_)
        clear hK K
        refine norm_ (a' := ?_) ?_ ?_
        rotate_left
        ·show Act.put _ (some 27) _ = _
         simp only [Act.put, List.setIfInBounds_toArray, List.set_cons_zero, List.set_cons_succ, i64_w, i32_w]
         rfl
        refine pure_ (i := 15) (N := some 28) (v := ?_) (a' := ?_) #[true, true, true, true, true, true, true, true, true, true, true, true, true, true, true, true, false, false, false, false, false, false, false, false, false, false, false, false, false, false, false, false, false, false, false] rfl rfl (zAq HT_.out (by kernel_rfl)) (fun _ _ _ h => h) (Or.inl ⟨by rfl, ?_⟩) ?_ ?_
        rotate_left
        ·intro w'
         go_simp
         with_reducible rfl
        rotate_left
        ·simp only [Act.put, List.setIfInBounds_toArray, List.set_cons_zero, List.set_cons_succ, i64_w, i32_w]
         rfl
        refine pure_ (i := 16) (N := some 29) (v := ?_) (a' := ?_) #[true, true, true, true, true, true, true, true, true, true, true, true, true, true, true, true, true, false, false, false, false, false, false, false, false, false, false, false, false, false, false, false, false, false, false] rfl rfl (zAq HT_.out (by kernel_rfl)) (fun _ _ _ h => h) (Or.inl ⟨by rfl, ?_⟩) ?_ ?_
        rotate_left
        ·intro w'
         go_simp
         with_reducible rfl
        rotate_left
        ·simp only [Act.put, List.setIfInBounds_toArray, List.set_cons_zero, List.set_cons_succ, i64_w, i32_w]
         rfl
        refine pure_ (i := 17) (N := some 30) (v := ?_) (a' := ?_) #[true, true, true, true, true, true, true, true, true, true, true, true, true, true, true, true, true, true, false, false, false, false, false, false, false, false, false, false, false, false, false, false, false, false, false] rfl rfl (zAq HT_.out (by kernel_rfl)) (fun _ _ _ h => h) (Or.inl ⟨by rfl, ?_⟩) ?_ ?_
        rotate_left
        ·intro w'
         go_simp
         with_reducible rfl
        rotate_left
        ·simp only [Act.put, List.setIfInBounds_toArray, List.set_cons_zero, List.set_cons_succ, i64_w, i32_w]
         rfl
        refine pure_ (i := 18) (N := some 31) (v := ?_) (a' := ?_) #[true, true, true, true, true, true, true, true, true, true, true, true, true, true, true, true, true, true, true, false, false, false, false, false, false, false, false, false, false, false, false, false, false, false, false] rfl rfl (zAq HT_.out (by kernel_rfl)) (fun _ _ _ h => h) (Or.inl ⟨by rfl, ?_⟩) ?_ ?_
        rotate_left
        ·intro w'
         go_simp
         with_reducible rfl
        rotate_left
        ·simp only [Act.put, List.setIfInBounds_toArray, List.set_cons_zero, List.set_cons_succ, i64_w, i32_w]
         rfl
        refine pure_ (i := 19) (N := some 32) (v := ?_) (a' := ?_) #[true, true, true, true, true, true, true, true, true, true, true, true, true, true, true, true, true, true, true, true, false, false, false, false, false, false, false, false, false, false, false, false, false, false, false] rfl rfl (zAq HT_.out (by kernel_rfl)) (fun _ _ _ h => h) (Or.inl ⟨by rfl, ?_⟩) ?_ ?_
        rotate_left
        ·intro w'
         go_simp
         with_reducible rfl
        rotate_left
        ·simp only [Act.put, List.setIfInBounds_toArray, List.set_cons_zero, List.set_cons_succ, i64_w, i32_w]
         rfl
        refine pure_ (i := 20) (N := some 33) (v := ?_) (a' := ?_) #[true, true, true, true, true, true, true, true, true, true, true, true, true, true, true, true, true, true, true, true, true, false, false, false, false, false, false, false, false, false, false, false, false, false, false] rfl rfl (zAq HT_.out (by kernel_rfl)) (fun _ _ _ h => h) (Or.inl ⟨by rfl, ?_⟩) ?_ ?_
        rotate_left
        ·intro w'
         go_simp
         with_reducible rfl
        rotate_left
        ·simp only [Act.put, List.setIfInBounds_toArray, List.set_cons_zero, List.set_cons_succ, i64_w, i32_w]
         rfl
        refine pure_ (i := 21) (N := some 34) (v := ?_) (a' := ?_) #[true, true, true, true, true, true, true, true, true, true, true, true, true, true, true, true, true, true, true, true, true, true, false, false, false, false, false, false, false, false, false, false, false, false, false] rfl rfl (zAq HT_.out (by kernel_rfl)) (fun _ _ _ h => h) (Or.inl ⟨by rfl, ?_⟩) ?_ ?_
        rotate_left
        ·intro w'
         go_simp
         with_reducible rfl
        rotate_left
        ·simp only [Act.put, List.setIfInBounds_toArray, List.set_cons_zero, List.set_cons_succ, i64_w, i32_w]
         rfl
        refine pure_ (i := 22) (N := some 35) (v := ?_) (a' := ?_) #[true, true, true, true, true, true, true, true, true, true, true, true, true, true, true, true, true, true, true, true, true, true, true, false, false, false, false, false, false, false, false, false, false, false, false] rfl rfl (zAq HT_.out (by kernel_rfl)) (fun _ _ _ h => h) (Or.inl ⟨by rfl, ?_⟩) ?_ ?_
        rotate_left
        ·intro w'
         go_simp
         with_reducible rfl
        rotate_left
        ·simp only [Act.put, List.setIfInBounds_toArray, List.set_cons_zero, List.set_cons_succ, i64_w, i32_w]
         rfl
        refine pure_ (i := 23) (N := some 36) (v := ?_) (a' := ?_) #[true, true, true, true, true, true, true, true, true, true, true, true, true, true, true, true, true, true, true, true, true, true, true, true, false, false, false, false, false, false, false, false, false, false, false] rfl rfl (zAq HT_.out (by kernel_rfl)) (fun _ _ _ h => h) (Or.inl ⟨by rfl, ?_⟩) ?_ ?_
        rotate_left
        ·intro w'
         go_simp
         with_reducible rfl
        rotate_left
        ·simp only [Act.put, List.setIfInBounds_toArray, List.set_cons_zero, List.set_cons_succ, i64_w, i32_w]
         rfl
        refine pure_ (i := 26) (N := some 39) (v := ?_) (a' := ?_) #[true, true, true, true, true, true, true, true, true, true, true, true, true, true, true, true, true, true, true, true, true, true, true, true, false, false, true, false, false, false, false, false, false, false, false] rfl rfl (zAq HT_.out (by kernel_rfl)) (fun _ _ _ h => h) (Or.inl ⟨by rfl, ?_⟩) ?_ ?_
        rotate_left
        ·intro w'
         go_simp
         with_reducible rfl
        rotate_left
        ·simp only [Act.put, List.setIfInBounds_toArray, List.set_cons_zero, List.set_cons_succ, i64_w, i32_w]
         rfl
        refine pure_ (i := 27) (N := some 40) (v := ?_) (a' := ?_) #[true, true, true, true, true, true, true, true, true, true, true, true, true, true, true, true, true, true, true, true, true, true, true, true, false, false, true, true, false, false, false, false, false, false, false] rfl rfl (zAq HT_.out (by kernel_rfl)) (fun _ _ _ h => h) (Or.inl ⟨by rfl, ?_⟩) ?_ ?_
        rotate_left
        ·intro w'
         go_simp
         with_reducible rfl
        rotate_left
        ·simp only [Act.put, List.setIfInBounds_toArray, List.set_cons_zero, List.set_cons_succ, i64_w, i32_w]
         rfl
        refine pure_ (i := 28) (N := some 41) (v := ?_) (a' := ?_) #[true, true, true, true, true, true, true, true, true, true, true, true, true, true, true, true, true, true, true, true, true, true, true, true, false, false, true, true, true, false, false, false, false, false, false] rfl rfl (zAq HT_.out (by kernel_rfl)) (fun _ _ _ h => h) (Or.inl ⟨by rfl, ?_⟩) ?_ ?_
        rotate_left
        ·intro w'
         go_simp
         with_reducible rfl
        rotate_left
        ·simp only [Act.put, List.setIfInBounds_toArray, List.set_cons_zero, List.set_cons_succ, i64_w, i32_w]
         rfl
        refine pure_ (i := 29) (N := some 42) (v := ?_) (a' := ?_) #[true, true, true, true, true, true, true, true, true, true, true, true, true, true, true, true, true, true, true, true, true, true, true, true, false, false, true, true, true, true, false, false, false, false, false] rfl rfl (zAq HT_.out (by kernel_rfl)) (fun _ _ _ h => h) (Or.inl ⟨by rfl, ?_⟩) ?_ ?_
        rotate_left
        ·intro w'
         go_simp
         with_reducible rfl
        rotate_left
        ·simp only [Act.put, List.setIfInBounds_toArray, List.set_cons_zero, List.set_cons_succ, i64_w, i32_w]
         rfl
        refine take_ (i := 24) (N := some 37) (v := ?_) (a' := ?_) #[true, true, true, true, true, true, true, true, true, true, true, true, true, true, true, true, true, true, true, true, true, true, true, true, true, false, true, true, true, true, false, false, false, false, false] rfl rfl (zC3 HT_.out HW_.out (by kernel_rfl)) (fun _ _ _ h => h) (Or.inl ⟨by rfl, ?_⟩) hHeld ?_ ?_
        rotate_left
        ·rintro w' ⟨s0, s1, s2, s3, s4, s5, s6, s7⟩
         go_simp
         with_reducible rfl
        rotate_left
        ·simp only [Act.put, List.setIfInBounds_toArray, List.set_cons_zero, List.set_cons_succ, i64_w, i32_w]
         rfl
        refine pure_ (i := 25) (N := some 38) (v := ?_) (a' := ?_) #[true, true, true, true, true, true, true, true, true, true, true, true, true, true, true, true, true, true, true, true, true, true, true, true, true, true, true, true, true, true, false, false, false, false, false] rfl rfl (zAq HT_.out (by kernel_rfl)) (fun _ _ _ h => h) (Or.inl ⟨by rfl, ?_⟩) ?_ ?_
        rotate_left
        ·intro w'
         go_simp
         with_reducible rfl
        rotate_left
        ·simp only [Act.put, List.setIfInBounds_toArray, List.set_cons_zero, List.set_cons_succ, i64_w, i32_w]
         rfl
        refine take_ (i := 30) (N := some 43) (v := ?_) (a' := ?_) #[true, true, true, true, true, true, true, true, true, true, true, true, true, true, true, true, true, true, true, true, true, true, true, true, true, true, true, true, true, true, true, false, false, false, false] rfl rfl (zC3 HT_.out HW_.out (by kernel_rfl)) (fun _ _ _ h => h) (Or.inl ⟨by rfl, ?_⟩) hHeld ?_ ?_
        rotate_left
        ·rintro w' ⟨s0, s1, s2, s3, s4, s5, s6, s7⟩
         go_simp
         with_reducible rfl
        rotate_left
        ·simp only [Act.put, List.setIfInBounds_toArray, List.set_cons_zero, List.set_cons_succ, i64_w, i32_w]
         rfl
        refine pure_ (i := 31) (N := some 44) (v := ?_) (a' := ?_) #[true, true, true, true, true, true, true, true, true, true, true, true, true, true, true, true, true, true, true, true, true, true, true, true, true, true, true, true, true, true, true, true, false, false, false] rfl rfl (zAq HT_.out (by kernel_rfl)) (fun _ _ _ h => h) (Or.inl ⟨by rfl, ?_⟩) ?_ ?_
        rotate_left
        ·intro w'
         go_simp
         with_reducible rfl
        rotate_left
        ·simp only [Act.put, List.setIfInBounds_toArray, List.set_cons_zero, List.set_cons_succ, i64_w, i32_w]
         rfl
        refine pure_ (i := 32) (N := some 45) (v := ?_) (a' := ?_) #[true, true, true, true, true, true, true, true, true, true, true, true, true, true, true, true, true, true, true, true, true, true, true, true, true, true, true, true, true, true, true, true, true, false, false] rfl rfl (zAq HT_.out (by kernel_rfl)) (fun _ _ _ h => h) (Or.inl ⟨by rfl, ?_⟩) ?_ ?_
        rotate_left
        ·intro w'
         go_simp
         with_reducible rfl
        rotate_left
        ·simp only [Act.put, List.setIfInBounds_toArray, List.set_cons_zero, List.set_cons_succ, i64_w, i32_w]
         rfl
        refine pure_ (i := 33) (N := some 46) (v := ?_) (a' := ?_) #[true, true, true, true, true, true, true, true, true, true, true, true, true, true, true, true, true, true, true, true, true, true, true, true, true, true, true, true, true, true, true, true, true, true, false] rfl rfl (zAq HT_.out (by kernel_rfl)) (fun _ _ _ h => h) (Or.inl ⟨by rfl, ?_⟩) ?_ ?_
        rotate_left
        ·intro w'
         go_simp
         with_reducible rfl
        rotate_left
        ·simp only [Act.put, List.setIfInBounds_toArray, List.set_cons_zero, List.set_cons_succ, i64_w, i32_w]
         rfl
        refine pure_ (i := 34) (N := some 47) (v := ?_) (a' := ?_) #[true, true, true, true, true, true, true, true, true, true, true, true, true, true, true, true, true, true, true, true, true, true, true, true, true, true, true, true, true, true, true, true, true, true, true] rfl rfl (zAq HT_.out (by kernel_rfl)) (fun _ _ _ h => h) (Or.inl ⟨by rfl, ?_⟩) ?_ ?_
        rotate_left
        ·intro w'
         go_simp
         with_reducible rfl
        rotate_left
        ·simp only [Act.put, List.setIfInBounds_toArray, List.set_cons_zero, List.set_cons_succ, i64_w, i32_w]
         rfl
        refine done_ (done_of HT_.out (by kernel_rfl)) ?_
        try go_wp2
        go_roundg k1
        case measure => have := HK1.out; omega
        case rel => exact ⟨(x5_1), (wrap64 (x6_1 + 1)), (by first | rfl | (simp; done) | (simp [*]; done)), (by first | rfl | (simp; done) | (simp [*]; done)), H', ⟨by have := HK1.out; omega⟩, ⟨by repeat (first | (with_reducible first | exact HB.out | apply zA2 | apply zA0 | apply zA3) | exact HB.out)⟩⟩
     ·replace c10 := Bool.eq_false_iff.mpr c10
      subst c10
      have H1 : (zAl.l0 k1 l0 a1 x5_1 (wrap64 (x6_1 + 1))) = some r := by rw [if_neg (show ¬ (false = true) by decide)] at H; exact H
      clear H
      have H := H1
      clear H1
      have H' := zA1.mk H
      clear H
      try go_wp2
      have n0_ := zA1.mk (zA3 HB.out)
      clear HB
      have HB := n0_
      clear n0_
      have p547 : 0 ≤ (a1 : Int) := of_decide_eq_true (by first | (with_reducible assumption) | assumption)
      have q547 : a1 < (l0.length : Int) := of_decide_eq_true (by first | (with_reducible assumption) | assumption)
      obtain ⟨ad547, A547_1, c547_1, e547, hx547_0, hx547_1, hl547_1, hi547_1⟩ := zC5 HR0.out a1 p547 q547
      have hw547_1 := hx547_1
      have hw547_0 := hx547_0
      cases e547
      replace hx547_0 := (HB.out.cell (World.block_lt_of_cell? w _ hx547_0)).trans hx547_0
      replace hx547_1 := (HB.out.cell (World.block_lt_of_cell? w _ hx547_1)).trans hx547_1
      have HR547_1 := zA1.mk hi547_1
      have HC547_1 := zA1.mk hl547_1
      clear hi547_1 hl547_1
      replace p547 := eq_true p547
      replace q547 := eq_true q547
      have p548 : 0 ≤ (x6_1 : Int) := of_decide_eq_true (by first | (with_reducible assumption) | assumption)
      have q548 : x6_1 < (l0.length : Int) := of_decide_eq_true (by first | (with_reducible assumption) | assumption)
      obtain ⟨ad548, A548_1, c548_1, e548, hx548_0, hx548_1, hl548_1, hi548_1⟩ := zC5 HR0.out x6_1 p548 q548
      have hw548_1 := hx548_1
      have hw548_0 := hx548_0
      obtain rfl : ad547 = ad548 := (by injection e548)
      replace hx548_0 := (HB.out.cell (World.block_lt_of_cell? w _ hx548_0)).trans hx548_0
      replace hx548_1 := (HB.out.cell (World.block_lt_of_cell? w _ hx548_1)).trans hx548_1
      have HR548_1 := zA1.mk hi548_1
      have HC548_1 := zA1.mk hl548_1
      clear hi548_1 hl548_1
      replace p548 := eq_true p548
      replace q548 := eq_true q548
      refine start_ (n := 35) (S := fun w' => w'.cell? (ad547.add ((a1).toNat * 2)) = some (.string ((zA6 l0 a1).f0)) ∧ w'.cell? ⟨(ad547.add ((a1).toNat * 2)).block, (ad547.add ((a1).toNat * 2)).off + 1, none⟩ = some (.slice A547_1 ((zA6 l0 a1).f1).length c547_1) ∧ w'.cell? (ad547.add ((x6_1).toNat * 2)) = some (.string ((zA6 l0 x6_1).f0)) ∧ w'.cell? ⟨(ad547.add ((x6_1).toNat * 2)).block, (ad547.add ((x6_1).toNat * 2)).off + 1, none⟩ = some (.slice A548_1 ((zA6 l0 x6_1).f1).length c548_1)) (ds := []) #[false, false, false, false, false, false, false, false, false, false, false, false, false, false, false, false, false, false, false, false, false, false, false, false, false, false, false, false, false, false, false, false, false, false, false] (by kernel_rfl) rfl rfl ⟨((HB.out.cell (World.block_lt_of_cell? w _ hw547_0)).trans hw547_0), ((HB.out.cell (World.block_lt_of_cell? w _ hw547_1)).trans hw547_1), ((HB.out.cell (World.block_lt_of_cell? w _ hw548_0)).trans hw548_0), ((HB.out.cell (World.block_lt_of_cell? w _ hw548_1)).trans hw548_1)⟩ (fun hHeld => ?_); refine with_tabW zAl.tab5 zAl.bits5 (fun HT_ HW_ => ?_)
      generalize wr.drew = w18 at HB HR547_1 HR548_1 hx547_0 hx547_1 hx548_0 hx548_1 hHeld ⊢
      refine pure_ (i := 0) (N := some 13) (v := ?_) (a' := ?_) #[true, false, false, false, false, false, false, false, false, false, false, false, false, false, false, false, false, false, false, false, false, false, false, false, false, false, false, false, false, false, false, false, false, false, false] rfl rfl (zAq HT_.out (by kernel_rfl)) (fun _ _ _ h => h) (Or.inl ⟨by rfl, ?_⟩) ?_ ?_
      rotate_left
      ·intro w'
       go_simp
       with_reducible rfl
      rotate_left
      ·simp only [Act.put, List.setIfInBounds_toArray, List.set_cons_zero, List.set_cons_succ, i64_w, i32_w]
       rfl
      refine pure_ (i := 1) (N := some 14) (v := ?_) (a' := ?_) #[true, true, false, false, false, false, false, false, false, false, false, false, false, false, false, false, false, false, false, false, false, false, false, false, false, false, false, false, false, false, false, false, false, false, false] rfl rfl (zAq HT_.out (by kernel_rfl)) (fun _ _ _ h => h) (Or.inl ⟨by rfl, ?_⟩) ?_ ?_
      rotate_left
      ·intro w'
       go_simp
       with_reducible rfl
      rotate_left
      ·simp only [Act.put, List.setIfInBounds_toArray, List.set_cons_zero, List.set_cons_succ, i64_w, i32_w]
       rfl
      refine pure_ (i := 2) (N := some 15) (v := ?_) (a' := ?_) #[true, true, true, false, false, false, false, false, false, false, false, false, false, false, false, false, false, false, false, false, false, false, false, false, false, false, false, false, false, false, false, false, false, false, false] rfl rfl (zAq HT_.out (by kernel_rfl)) (fun _ _ _ h => h) (Or.inl ⟨by rfl, ?_⟩) ?_ ?_
      rotate_left
      ·intro w'
       go_simp
       with_reducible rfl
      rotate_left
      ·simp only [Act.put, List.setIfInBounds_toArray, List.set_cons_zero, List.set_cons_succ, i64_w, i32_w]
       rfl
      refine pure_ (i := 3) (N := some 16) (v := ?_) (a' := ?_) #[true, true, true, true, false, false, false, false, false, false, false, false, false, false, false, false, false, false, false, false, false, false, false, false, false, false, false, false, false, false, false, false, false, false, false] rfl rfl (zAq HT_.out (by kernel_rfl)) (fun _ _ _ h => h) (Or.inl ⟨by rfl, ?_⟩) ?_ ?_
      rotate_left
      ·intro w'
       go_simp
       with_reducible rfl
      rotate_left
      ·simp only [Act.put, List.setIfInBounds_toArray, List.set_cons_zero, List.set_cons_succ, i64_w, i32_w]
       rfl
      refine pure_ (i := 4) (N := some 17) (v := ?_) (a' := ?_) #[true, true, true, true, true, false, false, false, false, false, false, false, false, false, false, false, false, false, false, false, false, false, false, false, false, false, false, false, false, false, false, false, false, false, false] rfl rfl (zAq HT_.out (by kernel_rfl)) (fun _ _ _ h => h) (Or.inl ⟨by rfl, ?_⟩) ?_ ?_
      rotate_left
      ·intro w'
       go_simp
       with_reducible rfl
      rotate_left
      ·simp only [Act.put, List.setIfInBounds_toArray, List.set_cons_zero, List.set_cons_succ, i64_w, i32_w]
       rfl
      refine pure_ (i := 5) (N := some 18) (v := ?_) (a' := ?_) #[true, true, true, true, true, true, false, false, false, false, false, false, false, false, false, false, false, false, false, false, false, false, false, false, false, false, false, false, false, false, false, false, false, false, false] rfl rfl (zAq HT_.out (by kernel_rfl)) (fun _ _ _ h => h) (Or.inl ⟨by rfl, ?_⟩) ?_ ?_
      rotate_left
      ·intro w'
       go_simp
       with_reducible rfl
      rotate_left
      ·simp only [Act.put, List.setIfInBounds_toArray, List.set_cons_zero, List.set_cons_succ, i64_w, i32_w]
       rfl
      refine pure_ (i := 6) (N := some 19) (v := ?_) (a' := ?_) #[true, true, true, true, true, true, true, false, false, false, false, false, false, false, false, false, false, false, false, false, false, false, false, false, false, false, false, false, false, false, false, false, false, false, false] rfl rfl (zAq HT_.out (by kernel_rfl)) (fun _ _ _ h => h) (Or.inl ⟨by rfl, ?_⟩) ?_ ?_
      rotate_left
      ·intro w'
       go_simp
       with_reducible rfl
      rotate_left
      ·simp only [Act.put, List.setIfInBounds_toArray, List.set_cons_zero, List.set_cons_succ, i64_w, i32_w]
       rfl
      refine pure_ (i := 7) (N := some 20) (v := ?_) (a' := ?_) #[true, true, true, true, true, true, true, true, false, false, false, false, false, false, false, false, false, false, false, false, false, false, false, false, false, false, false, false, false, false, false, false, false, false, false] rfl rfl (zAq HT_.out (by kernel_rfl)) (fun _ _ _ h => h) (Or.inl ⟨by rfl, ?_⟩) ?_ ?_
      rotate_left
      ·intro w'
       go_simp
       with_reducible rfl
      rotate_left
      ·simp only [Act.put, List.setIfInBounds_toArray, List.set_cons_zero, List.set_cons_succ, i64_w, i32_w]
       rfl
      refine pure_ (i := 9) (N := some 22) (v := ?_) (a' := ?_) #[true, true, true, true, true, true, true, true, false, true, false, false, false, false, false, false, false, false, false, false, false, false, false, false, false, false, false, false, false, false, false, false, false, false, false] rfl rfl (zAq HT_.out (by kernel_rfl)) (fun _ _ _ h => h) (Or.inl ⟨by rfl, ?_⟩) ?_ ?_
      rotate_left
      ·intro w'
       go_simp
       with_reducible rfl
      rotate_left
      ·simp only [Act.put, List.setIfInBounds_toArray, List.set_cons_zero, List.set_cons_succ, i64_w, i32_w]
       rfl
      refine pure_ (i := 10) (N := some 23) (v := ?_) (a' := ?_) #[true, true, true, true, true, true, true, true, false, true, true, false, false, false, false, false, false, false, false, false, false, false, false, false, false, false, false, false, false, false, false, false, false, false, false] rfl rfl (zAq HT_.out (by kernel_rfl)) (fun _ _ _ h => h) (Or.inl ⟨by rfl, ?_⟩) ?_ ?_
      rotate_left
      ·intro w'
       go_simp
       with_reducible rfl
      rotate_left
      ·simp only [Act.put, List.setIfInBounds_toArray, List.set_cons_zero, List.set_cons_succ, i64_w, i32_w]
       rfl
      refine pure_ (i := 11) (N := some 24) (v := ?_) (a' := ?_) #[true, true, true, true, true, true, true, true, false, true, true, true, false, false, false, false, false, false, false, false, false, false, false, false, false, false, false, false, false, false, false, false, false, false, false] rfl rfl (zAq HT_.out (by kernel_rfl)) (fun _ _ _ h => h) (Or.inl ⟨by rfl, ?_⟩) ?_ ?_
      rotate_left
      ·intro w'
       go_simp
       with_reducible rfl
      rotate_left
      ·simp only [Act.put, List.setIfInBounds_toArray, List.set_cons_zero, List.set_cons_succ, i64_w, i32_w]
       rfl
      refine pure_ (i := 12) (N := some 25) (v := ?_) (a' := ?_) #[true, true, true, true, true, true, true, true, false, true, true, true, true, false, false, false, false, false, false, false, false, false, false, false, false, false, false, false, false, false, false, false, false, false, false] rfl rfl (zAq HT_.out (by kernel_rfl)) (fun _ _ _ h => h) (Or.inl ⟨by rfl, ?_⟩) ?_ ?_
      rotate_left
      ·intro w'
       go_simp
       with_reducible rfl
      rotate_left
      ·simp only [Act.put, List.setIfInBounds_toArray, List.set_cons_zero, List.set_cons_succ, i64_w, i32_w]
       rfl
      refine take_ (i := 8) (N := some 21) (v := ?_) (a' := ?_) #[true, true, true, true, true, true, true, true, true, true, true, true, true, false, false, false, false, false, false, false, false, false, false, false, false, false, false, false, false, false, false, false, false, false, false] rfl rfl (zC3 HT_.out HW_.out (by kernel_rfl)) (fun _ _ _ h => h) (Or.inl ⟨by rfl, ?_⟩) hHeld ?_ ?_
      rotate_left
      ·rintro w' ⟨s0, s1, s2, s3⟩
       go_simp
       with_reducible rfl
      rotate_left
      ·simp only [Act.put, List.setIfInBounds_toArray, List.set_cons_zero, List.set_cons_succ, i64_w, i32_w]
       rfl
      refine take_ (i := 13) (N := some 26) (v := ?_) (a' := ?_) #[true, true, true, true, true, true, true, true, true, true, true, true, true, true, false, false, false, false, false, false, false, false, false, false, false, false, false, false, false, false, false, false, false, false, false] rfl rfl (zC3 HT_.out HW_.out (by kernel_rfl)) (fun _ _ _ h => h) (Or.inl ⟨by rfl, ?_⟩) hHeld ?_ ?_
      rotate_left
      ·rintro w' ⟨s0, s1, s2, s3⟩
       go_simp
       with_reducible rfl
      rotate_left
      ·simp only [Act.put, List.setIfInBounds_toArray, List.set_cons_zero, List.set_cons_succ, i64_w, i32_w]
       rfl
      refine one_ (i := 14) (N := some 27) #[true, true, true, true, true, true, true, true, true, true, true, true, true, true, true, false, false, false, false, false, false, false, false, false, false, false, false, false, false, false, false, false, false, false, false] rfl rfl (one_of HT_.out (by kernel_rfl)) (by decide) (fun K hK => ?_)
      refine goes_ Tryd.func51 (by kernel_rfl) rfl #[.slice A547_1 ((zA6 l0 a1).f1).length c547_1, .slice A548_1 ((zA6 l0 x6_1).f1).length c548_1] (by rfl) rfl rfl (by (try simp only [List.map_toArray, List.map_cons, List.map_nil]); first | done | rfl | (simp only [List.length_drop, List.length_take]; rfl)) ?_
      with_reducible refine (zAe.calls k1 _ _ ((zA6 l0 a1).f1) _ _ ((zA6 l0 x6_1).f1) false _ ?side1 ?side2 ?side3 ?side4 A9.out).mono ?_
      (case side1 => repeat (first | exact (Kd.zAy HR547_1.out HB.out) | (with_reducible refine Kd.zA8 ?_ _) | (with_reducible refine Kd.zAd ?_ _) | (with_reducible refine Kd.zAp ?_)))
      (case side2 => exact HC547_1.out)
      (case side3 => repeat (first | exact (Kd.zAy HR548_1.out HB.out) | (with_reducible refine Kd.zA8 ?_ _) | (with_reducible refine Kd.zAd ?_ _) | (with_reducible refine Kd.zAp ?_)))
      (case side4 => exact HC548_1.out)
      rintro e w' ⟨rfl, ⟨nd, rfl⟩⟩
      refine ⟨_, rfl, ?_⟩
      refine hK.out _ _ ⟨((HB.out.cell (World.block_lt_of_cell? w _ hw547_0)).trans hw547_0), ((HB.out.cell (World.block_lt_of_cell? w _ hw547_1)).trans hw547_1), ((HB.out.cell (World.block_lt_of_cell? w _ hw548_0)).trans hw548_0), ((HB.out.cell (World.block_lt_of_cell? w _ hw548_1)).trans hw548_1)⟩ (fun hHeld => ?_)
      clear hK K
      refine norm_ (a' := ?_) ?_ ?_
      rotate_left
      ·show Act.put _ (some 27) _ = _
       simp only [Act.put, List.setIfInBounds_toArray, List.set_cons_zero, List.set_cons_succ, i64_w, i32_w]
       rfl
      refine pure_ (i := 15) (N := some 28) (v := ?_) (a' := ?_) #[true, true, true, true, true, true, true, true, true, true, true, true, true, true, true, true, false, false, false, false, false, false, false, false, false, false, false, false, false, false, false, false, false, false, false] rfl rfl (zAq HT_.out (by kernel_rfl)) (fun _ _ _ h => h) (Or.inl ⟨by rfl, ?_⟩) ?_ ?_
      rotate_left
      ·intro w'
       go_simp
       with_reducible rfl
      rotate_left
      ·simp only [Act.put, List.setIfInBounds_toArray, List.set_cons_zero, List.set_cons_succ, i64_w, i32_w]
       rfl
      refine pure_ (i := 16) (N := some 29) (v := ?_) (a' := ?_) #[true, true, true, true, true, true, true, true, true, true, true, true, true, true, true, true, true, false, false, false, false, false, false, false, false, false, false, false, false, false, false, false, false, false, false] rfl rfl (zAq HT_.out (by kernel_rfl)) (fun _ _ _ h => h) (Or.inl ⟨by rfl, ?_⟩) ?_ ?_
      rotate_left
      ·intro w'
       go_simp
       with_reducible rfl
      rotate_left
      ·simp only [Act.put, List.setIfInBounds_toArray, List.set_cons_zero, List.set_cons_succ, i64_w, i32_w]
       rfl
      refine pure_ (i := 17) (N := some 30) (v := undef) (a' := ?_) #[true, true, true, true, true, true, true, true, true, true, true, true, true, true, true, true, true, true, false, false, false, false, false, false, false, false, false, false, false, false, false, false, false, false, false] rfl rfl (zAq HT_.out (by kernel_rfl)) (fun _ _ _ h => h) (Or.inr ⟨by rfl, rfl⟩) ?_ ?_
      rotate_left
      ·simp only [Act.put, List.setIfInBounds_toArray, List.set_cons_zero, List.set_cons_succ, i64_w, i32_w]
       rfl
      refine pure_ (i := 18) (N := some 31) (v := undef) (a' := ?_) #[true, true, true, true, true, true, true, true, true, true, true, true, true, true, true, true, true, true, true, false, false, false, false, false, false, false, false, false, false, false, false, false, false, false, false] rfl rfl (zAq HT_.out (by kernel_rfl)) (fun _ _ _ h => h) (Or.inr ⟨by rfl, rfl⟩) ?_ ?_
      rotate_left
      ·simp only [Act.put, List.setIfInBounds_toArray, List.set_cons_zero, List.set_cons_succ, i64_w, i32_w]
       rfl
      refine pure_ (i := 19) (N := some 32) (v := undef) (a' := ?_) #[true, true, true, true, true, true, true, true, true, true, true, true, true, true, true, true, true, true, true, true, false, false, false, false, false, false, false, false, false, false, false, false, false, false, false] rfl rfl (zAq HT_.out (by kernel_rfl)) (fun _ _ _ h => h) (Or.inr ⟨by rfl, rfl⟩) ?_ ?_
      rotate_left
      ·simp only [Act.put, List.setIfInBounds_toArray, List.set_cons_zero, List.set_cons_succ, i64_w, i32_w]
       rfl
      refine pure_ (i := 20) (N := some 33) (v := undef) (a' := ?_) #[true, true, true, true, true, true, true, true, true, true, true, true, true, true, true, true, true, true, true, true, true, false, false, false, false, false, false, false, false, false, false, false, false, false, false] rfl rfl (zAq HT_.out (by kernel_rfl)) (fun _ _ _ h => h) (Or.inr ⟨by rfl, rfl⟩) ?_ ?_
      rotate_left
      ·simp only [Act.put, List.setIfInBounds_toArray, List.set_cons_zero, List.set_cons_succ, i64_w, i32_w]
       rfl
      refine pure_ (i := 21) (N := some 34) (v := undef) (a' := ?_) #[true, true, true, true, true, true, true, true, true, true, true, true, true, true, true, true, true, true, true, true, true, true, false, false, false, false, false, false, false, false, false, false, false, false, false] rfl rfl (zAq HT_.out (by kernel_rfl)) (fun _ _ _ h => h) (Or.inr ⟨by rfl, rfl⟩) ?_ ?_
      rotate_left
      ·simp only [Act.put, List.setIfInBounds_toArray, List.set_cons_zero, List.set_cons_succ, i64_w, i32_w]
       rfl
      refine pure_ (i := 22) (N := some 35) (v := undef) (a' := ?_) #[true, true, true, true, true, true, true, true, true, true, true, true, true, true, true, true, true, true, true, true, true, true, true, false, false, false, false, false, false, false, false, false, false, false, false] rfl rfl (zAq HT_.out (by kernel_rfl)) (fun _ _ _ h => h) (Or.inr ⟨by rfl, rfl⟩) ?_ ?_
      rotate_left
      ·simp only [Act.put, List.setIfInBounds_toArray, List.set_cons_zero, List.set_cons_succ, i64_w, i32_w]
       rfl
      refine pure_ (i := 23) (N := some 36) (v := undef) (a' := ?_) #[true, true, true, true, true, true, true, true, true, true, true, true, true, true, true, true, true, true, true, true, true, true, true, true, false, false, false, false, false, false, false, false, false, false, false] rfl rfl (zAq HT_.out (by kernel_rfl)) (fun _ _ _ h => h) (Or.inr ⟨by rfl, rfl⟩) ?_ ?_
      rotate_left
      ·simp only [Act.put, List.setIfInBounds_toArray, List.set_cons_zero, List.set_cons_succ, i64_w, i32_w]
       rfl
      refine pure_ (i := 24) (N := some 37) (v := undef) (a' := ?_) #[true, true, true, true, true, true, true, true, true, true, true, true, true, true, true, true, true, true, true, true, true, true, true, true, true, false, false, false, false, false, false, false, false, false, false] rfl rfl (zAq HT_.out (by kernel_rfl)) (fun _ _ _ h => h) (Or.inr ⟨by rfl, rfl⟩) ?_ ?_
      rotate_left
      ·simp only [Act.put, List.setIfInBounds_toArray, List.set_cons_zero, List.set_cons_succ, i64_w, i32_w]
       rfl
      refine pure_ (i := 25) (N := some 38) (v := undef) (a' := ?_) #[true, true, true, true, true, true, true, true, true, true, true, true, true, true, true, true, true, true, true, true, true, true, true, true, true, true, false, false, false, false, false, false, false, false, false] rfl rfl (zAq HT_.out (by kernel_rfl)) (fun _ _ _ h => h) (Or.inr ⟨by rfl, rfl⟩) ?_ ?_
      rotate_left
      ·simp only [Act.put, List.setIfInBounds_toArray, List.set_cons_zero, List.set_cons_succ, i64_w, i32_w]
       rfl
      refine pure_ (i := 26) (N := some 39) (v := undef) (a' := ?_) #[true, true, true, true, true, true, true, true, true, true, true, true, true, true, true, true, true, true, true, true, true, true, true, true, true, true, true, false, false, false, false, false, false, false, false] rfl rfl (zAq HT_.out (by kernel_rfl)) (fun _ _ _ h => h) (Or.inr ⟨by rfl, rfl⟩) ?_ ?_
      rotate_left
      ·simp only [Act.put, List.setIfInBounds_toArray, List.set_cons_zero, List.set_cons_succ, i64_w, i32_w]
       rfl
      refine pure_ (i := 27) (N := some 40) (v := undef) (a' := ?_) #[true, true, true, true, true, true, true, true, true, true, true, true, true, true, true, true, true, true, true, true, true, true, true, true, true, true, true, true, false, false, false, false, false, false, false] rfl rfl (zAq HT_.out (by kernel_rfl)) (fun _ _ _ h => h) (Or.inr ⟨by rfl, rfl⟩) ?_ ?_
      rotate_left
      ·simp only [Act.put, List.setIfInBounds_toArray, List.set_cons_zero, List.set_cons_succ, i64_w, i32_w]
       rfl
      refine pure_ (i := 28) (N := some 41) (v := undef) (a' := ?_) #[true, true, true, true, true, true, true, true, true, true, true, true, true, true, true, true, true, true, true, true, true, true, true, true, true, true, true, true, true, false, false, false, false, false, false] rfl rfl (zAq HT_.out (by kernel_rfl)) (fun _ _ _ h => h) (Or.inr ⟨by rfl, rfl⟩) ?_ ?_
      rotate_left
      ·simp only [Act.put, List.setIfInBounds_toArray, List.set_cons_zero, List.set_cons_succ, i64_w, i32_w]
       rfl
      refine pure_ (i := 29) (N := some 42) (v := undef) (a' := ?_) #[true, true, true, true, true, true, true, true, true, true, true, true, true, true, true, true, true, true, true, true, true, true, true, true, true, true, true, true, true, true, false, false, false, false, false] rfl rfl (zAq HT_.out (by kernel_rfl)) (fun _ _ _ h => h) (Or.inr ⟨by rfl, rfl⟩) ?_ ?_
      rotate_left
      ·simp only [Act.put, List.setIfInBounds_toArray, List.set_cons_zero, List.set_cons_succ, i64_w, i32_w]
       rfl
      refine pure_ (i := 30) (N := some 43) (v := undef) (a' := ?_) #[true, true, true, true, true, true, true, true, true, true, true, true, true, true, true, true, true, true, true, true, true, true, true, true, true, true, true, true, true, true, true, false, false, false, false] rfl rfl (zAq HT_.out (by kernel_rfl)) (fun _ _ _ h => h) (Or.inr ⟨by rfl, rfl⟩) ?_ ?_
      rotate_left
      ·simp only [Act.put, List.setIfInBounds_toArray, List.set_cons_zero, List.set_cons_succ, i64_w, i32_w]
       rfl
      refine pure_ (i := 31) (N := some 44) (v := undef) (a' := ?_) #[true, true, true, true, true, true, true, true, true, true, true, true, true, true, true, true, true, true, true, true, true, true, true, true, true, true, true, true, true, true, true, true, false, false, false] rfl rfl (zAq HT_.out (by kernel_rfl)) (fun _ _ _ h => h) (Or.inr ⟨by rfl, rfl⟩) ?_ ?_
      rotate_left
      ·simp only [Act.put, List.setIfInBounds_toArray, List.set_cons_zero, List.set_cons_succ, i64_w, i32_w]
       rfl
      refine pure_ (i := 32) (N := some 45) (v := undef) (a' := ?_) #[true, true, true, true, true, true, true, true, true, true, true, true, true, true, true, true, true, true, true, true, true, true, true, true, true, true, true, true, true, true, true, true, true, false, false] rfl rfl (zAq HT_.out (by kernel_rfl)) (fun _ _ _ h => h) (Or.inr ⟨by rfl, rfl⟩) ?_ ?_
      rotate_left
      ·simp only [Act.put, List.setIfInBounds_toArray, List.set_cons_zero, List.set_cons_succ, i64_w, i32_w]
       rfl
      refine pure_ (i := 33) (N := some 46) (v := undef) (a' := ?_) #[true, true, true, true, true, true, true, true, true, true, true, true, true, true, true, true, true, true, true, true, true, true, true, true, true, true, true, true, true, true, true, true, true, true, false] rfl rfl (zAq HT_.out (by kernel_rfl)) (fun _ _ _ h => h) (Or.inr ⟨by rfl, rfl⟩) ?_ ?_
      rotate_left
      ·simp only [Act.put, List.setIfInBounds_toArray, List.set_cons_zero, List.set_cons_succ, i64_w, i32_w]
       rfl
      refine pure_ (i := 34) (N := some 47) (v := ?_) (a' := ?_) #[true, true, true, true, true, true, true, true, true, true, true, true, true, true, true, true, true, true, true, true, true, true, true, true, true, true, true, true, true, true, true, true, true, true, true] rfl rfl (zAq HT_.out (by kernel_rfl)) (fun _ _ _ h => h) (Or.inl ⟨by rfl, ?_⟩) ?_ ?_
      rotate_left
      ·intro w'
       go_simp
       with_reducible rfl
      rotate_left
      ·simp only [Act.put, List.setIfInBounds_toArray, List.set_cons_zero, List.set_cons_succ, i64_w, i32_w]
       rfl
      refine done_ (done_of HT_.out (by kernel_rfl)) ?_
      try go_wp2
      go_roundg k1
      case measure => have := HK1.out; omega
      case rel => exact ⟨(x5_1), (wrap64 (x6_1 + 1)), (by first | rfl | (simp; done) | (simp [*]; done)), (by first | rfl | (simp; done) | (simp [*]; done)), H', ⟨by have := HK1.out; omega⟩, ⟨by repeat (first | (with_reducible first | exact HB.out | apply zA2 | apply zA0 | apply zA3) | exact HB.out)⟩⟩
   ·rw [if_neg c3] at H
    have c3b0 : decide (x6_1 < (l0.length : Int)) = false := decide_eq_false c3
    clear c3
    obtain rfl := Option.some.inj H
    go_wp2
    go_ret
    exact ⟨by first | rfl | (simp [zAx, zAw] <;> rfl) | (simp [*, zAx, zAw] <;> rfl), by repeat (first | (with_reducible first | exact HB.out | apply zA2 | apply zA0 | apply zA3) | exact HB.out)⟩
end
end Go.Proofs.YtbghfbhlbfcloaaDoor.PL
namespace Go.Proofs.YtbghfbhlbfcloaaDoor.PL
section
open Go.RowKit Go.Proofs.YtbghfbhlbfcloaaDoorW.PrintWords Go.Proofs.YtbghfbhlbfcloaaDoorW.PrintLast Go.Proofs.YtbghfbhlbfcloaaDoorW.PrintMore
attribute [local go_sem] zBw zBu zC7 zC6 zBo zBn zBv zBt   -- for this text's walks alone
set_option linter.unusedVariables false
set_option linter.unusedSimpArgs false
def zB8.l0 : Nat → List (S57) → Int → List Int → Int → Option (List Int)
 | 0, _, _, _, _ => none
 | k + 1, x0, x1, x5, x6 => if x6 < (x0.length : Int) then (if x6 = x1 then (zB8.l0 k x0 x1 x5 (wrap64 (x6 + 1))) else (if 0 ≤ x6 then (if 0 ≤ x1 then (if x1 < (x0.length : Int) then ((zAe.f k ((zA6 x0 x6).f1) ((zA6 x0 x1).f1)).bind fun t555 => (if t555 = true then ((zB2.f k x5 ((zA6 x0 x6).f1)).bind fun t557 => (zB8.l0 k x0 x1 t557 (wrap64 (x6 + 1)))) else (zB8.l0 k x0 x1 x5 (wrap64 (x6 + 1))))) else (none)) else (none)) else (none))) else (some x5)
def zB8.f (k : Nat) (l0 : List (S57)) (a1 : Int) : Option (List Int) := if 0 ≤ a1 then (if a1 < (l0.length : Int) then (zB8.l0 k l0 a1 ((zA6 l0 a1).f1) 0) else (none)) else (none)
theorem zB8.zBq : ∀ k, (∀ y0 y1 y2 y3, LeO (zB8.l0 k y0 y1 y2 y3) (zB8.l0 (k + 1) y0 y1 y2 y3))
 | 0 => fun _ _ _ _ r h => by simp [zB8.l0] at h
 | k + 1 => by
  have ih0 := zB8.zBq k
  ·intro y0 y1 y2 y3
   unfold zB8.l0
   repeat' first
   | (with_reducible exact ih0 _ _ _ _)
   | (with_reducible exact zAe.mono _ _ _)
   | (with_reducible exact zB2.mono _ _ _)
   | (with_reducible exact LeO.refl _)
   | (with_reducible exact LeO.none _)
   | (with_reducible refine LeO.ite ?_ ?_)
   | (with_reducible refine LeO.bind ?_ (fun _ => ?_))
theorem zB8.mono : ∀ a0 a1 k, LeO (zB8.f k a0 a1) (zB8.f (k + 1) a0 a1) := by
 intro a0 a1 k
 have ih0 := zB8.zBq k
 unfold zB8.f
 repeat' first
   | (with_reducible exact ih0 _ _ _ _)
   | (with_reducible exact zAe.mono _ _ _)
   | (with_reducible exact zB2.mono _ _ _)
   | (with_reducible exact LeO.refl _)
   | (with_reducible exact LeO.none _)
   | (with_reducible refine LeO.ite ?_ ?_)
   | (with_reducible refine LeO.bind ?_ (fun _ => ?_))
set_option maxHeartbeats 8000000 in
set_option maxRecDepth 100000 in
theorem zB8.calls (k : Nat) (P0_ : Nat → Prop) (A0 : Option Addr) (c0 : Nat) (l0 : List (S57)) (a1 : Int) (r : List Int) (w : World) (hs0 : Kd.V k57 57 w w.heap.size (fun k_ => P0_ k_) (.slice A0 l0.length c0) l0) (h : zB8.f k l0 a1 = some r) :
  Calls Tryd.prog 32 #[.slice A0 l0.length c0, .int .i64 a1] w fun e w' => ∃ v0_ : Value, e = .returned (v0_) ∧ Kd.V (Kd.int .i64) 3 w' w.heap.size (fun k_ => (P0_ k_ ∨ w.heap.size ≤ k_)) v0_ r ∧ Below w.heap.size w w' := by
 have HO0 := zA1.mk (show Kd.V k57 57 w w.heap.size (fun k_ => (P0_ k_ ∨ w.heap.size ≤ k_)) (.slice A0 l0.length c0) l0 from Kd.V_mono hs0 (fun k_ hk => .inl hk))
 have HB := zA1.mk (Below.refl w.heap.size w)
 have H : (if 0 ≤ a1 then (if a1 < (l0.length : Int) then (zB8.l0 k l0 a1 ((zA6 l0 a1).f1) 0) else (none)) else (none)) = some r := h
 clear h
 by_cases c3 : 0 ≤ a1
 rotate_left
 ·rw [if_neg c3] at H
  exact absurd H (by simp)
 rw [if_pos c3] at H
 have c3b0 : decide (0 ≤ a1) = true := decide_eq_true c3
 clear c3
 by_cases c4 : a1 < (l0.length : Int)
 rotate_left
 ·rw [if_neg c4] at H
  exact absurd H (by simp)
 rw [if_pos c4] at H
 have c4b0 : decide (a1 < (l0.length : Int)) = true := decide_eq_true c4
 clear c4
 have H' := zA1.mk H
 clear H
 have p552 : 0 ≤ (a1 : Int) := of_decide_eq_true (by first | (with_reducible assumption) | assumption)
 have q552 : a1 < (l0.length : Int) := of_decide_eq_true (by first | (with_reducible assumption) | assumption)
 obtain ⟨ad552, A552_1, c552_1, e552, hx552_0, hx552_1, hl552_1, hi552_1⟩ := zC5 (Kd.V_reads' HO0.out).2.2 a1 p552 q552
 cases e552
 obtain ⟨ce552, hce552, hMe552, hcc552⟩ := Kd.V_get HO0.out z57 a1 p552 (by first | exact q552 | exact of_decide_eq_true (by first | (with_reducible assumption) | assumption) | (have e_ := (Kd.V_reads' HO0.out).1; omega))
 obtain ⟨ua552_1, uc552_1, rfl, ul552_1, ge552_1⟩ := k57_openF hMe552
 have hv552_1 := hcc552 1 _ rfl
 rw [add_field _ _ 1 (by omega)] at hv552_1
 replace hv552_1 := Option.some.inj (hv552_1.symm.trans hx552_1)
 injection hv552_1 with hva_ hvn_ hvc_
 rw [hva_] at ge552_1
 rw [hvc_] at ul552_1
 have HL552_1 := zA1.mk (show Kd.V (Kd.int .i64) 3 _ w.heap.size _ _ ((zA6 l0 a1).f1) from Kd.V_mk ul552_1 ge552_1)
 clear hva_ hvn_ hvc_ ge552_1 ul552_1
 clear hcc552 hce552
 have HR552_1 := zA1.mk hi552_1
 have HC552_1 := zA1.mk hl552_1
 clear hi552_1 hl552_1
 replace p552 := eq_true p552
 replace q552 := eq_true q552
 go_enter Tryd.func32, Tryd.ntmps32
 go_wp2
 go_loopg [5, 6] k (fun kq v5 v6 w' => ∃ (x5_1 : List Int) (x6_1 : Int), v6 = .int .i64 x6_1 ∧ zA1 (zB8.l0 kq l0 a1 x5_1 x6_1 = some r) ∧ zA1 (kq ≤ k) ∧ zA1 (Kd.V k57 57 w' w.heap.size (fun k_ => (P0_ k_ ∨ w.heap.size ≤ k_)) (.slice (some ad552) l0.length c0) l0) ∧ zA1 (Kd.V (Kd.int .i64) 3 w' w.heap.size (fun k_ => (P0_ k_ ∨ w.heap.size ≤ k_)) v5 x5_1) ∧ zA1 (Kd.C (Kd.int .i64) w' A552_1 ((zA6 l0 a1).f1).length ((zA6 l0 a1).f1)) ∧ zA1 (Below w.heap.size w w'))
 case atStart => exact ⟨((zA6 l0 a1).f1), (0), (by first | rfl | (simp; done) | (simp [*]; done)), H', ⟨Nat.le_refl _⟩, ⟨by (with_reducible repeat (first | apply Kd.V_alloc | apply Kd.V_drewN | apply Kd.V_drew)); exact HO0.out⟩, ⟨by (with_reducible repeat (first | apply Kd.V_alloc | apply Kd.V_drewN | apply Kd.V_drew)); exact HL552_1.out⟩, ⟨by repeat (first | (with_reducible exact HR552_1.out) | (with_reducible refine Kd.zA8 ?_ _) | (with_reducible refine Kd.zAd ?_ _) | (with_reducible refine Kd.zAp ?_) | exact HR552_1.out)⟩, ⟨by repeat (first | (with_reducible first | exact HB.out | apply zA2 | apply zA0 | apply zA3) | exact HB.out)⟩⟩
 case round =>
  clear H'
  try clear p2
  try clear c3
  try clear c3b0
  try clear c4
  try clear c4b0
  try clear hx552_0
  try clear hx552_1
  try clear p552
  try clear q552
  obtain ⟨x5_1, x6_1, rfl, HA, HK1, HO_0, HO_5, HR552_1, HB⟩ := hrel
  cases gk with
  | zero => exact absurd HA.out (by simp [zB8.l0])
  | succ k1 =>
   have H := HA.out
   clear HA
   simp only [zB8.l0] at H
   by_cases c5 : x6_1 < (l0.length : Int)
   ·rw [if_pos c5] at H
    have c5b0 : decide (x6_1 < (l0.length : Int)) = true := decide_eq_true c5
    clear c5
    by_cases c6 : x6_1 = a1
    ·rw [if_pos c6] at H
     have c6b0 : (x6_1 == a1) = true := beq_iff_eq.mpr c6
     have c6b1 : (x6_1 != a1) = false := bne_eq_false_iff_eq.mpr c6
     clear c6
     have H' := zA1.mk H
     clear H
     go_wp2
     repeat (go_quiet (fail); try go_wp2)
     go_roundg k1
     case measure => have := HK1.out; omega
     case rel => exact ⟨(x5_1), (wrap64 (x6_1 + 1)), (by first | rfl | (simp; done) | (simp [*]; done)), H', ⟨by have := HK1.out; omega⟩, ⟨by (with_reducible repeat (first | apply Kd.V_alloc | apply Kd.V_drewN | apply Kd.V_drew)); exact HO_0.out⟩, ⟨by (with_reducible repeat (first | apply Kd.V_alloc | apply Kd.V_drewN | apply Kd.V_drew)); exact HO_5.out⟩, ⟨by repeat (first | (with_reducible exact HR552_1.out) | (with_reducible refine Kd.zA8 ?_ _) | (with_reducible refine Kd.zAd ?_ _) | (with_reducible refine Kd.zAp ?_) | exact HR552_1.out)⟩, ⟨by repeat (first | (with_reducible first | exact HB.out | apply zA2 | apply zA0 | apply zA3) | exact HB.out)⟩⟩
    ·rw [if_neg c6] at H
     have c6b0 : (x6_1 == a1) = false := beq_eq_false_iff_ne.mpr c6
     have c6b1 : (x6_1 != a1) = true := bne_iff_ne.mpr c6
     by_cases c7 : 0 ≤ x6_1
     rotate_left
     ·rw [if_neg c7] at H
      exact absurd H (by simp)
     rw [if_pos c7] at H
     have c7b0 : decide (0 ≤ x6_1) = true := decide_eq_true c7
     clear c7
     by_cases c8 : 0 ≤ a1
     rotate_left
     ·rw [if_neg c8] at H
      exact absurd H (by simp)
     rw [if_pos c8] at H
     have c8b0 : decide (0 ≤ a1) = true := decide_eq_true c8
     clear c8
     by_cases c9 : a1 < (l0.length : Int)
     rotate_left
     ·rw [if_neg c9] at H
      exact absurd H (by simp)
     rw [if_pos c9] at H
     have c9b0 : decide (a1 < (l0.length : Int)) = true := decide_eq_true c9
     clear c9
     replace H := Option.bind_eq_some_iff.mp H
     obtain ⟨t555, A100, H⟩ := H
     replace H : (if t555 = true then ((zB2.f k1 x5_1 ((zA6 l0 x6_1).f1)).bind fun t557 => (zB8.l0 k1 l0 a1 t557 (wrap64 (x6_1 + 1)))) else (zB8.l0 k1 l0 a1 x5_1 (wrap64 (x6_1 + 1)))) = some r := H
     have A10 := zA1.mk A100
     clear A100
     by_cases c11 : t555 = true
     ·subst c11
      have H1 : ((zB2.f k1 x5_1 ((zA6 l0 x6_1).f1)).bind fun t557 => (zB8.l0 k1 l0 a1 t557 (wrap64 (x6_1 + 1)))) = some r := by rw [if_pos rfl] at H; exact H
      clear H
      have H := H1
      clear H1
      replace H := Option.bind_eq_some_iff.mp H
      obtain ⟨t557, A120, H⟩ := H
      replace H : (zB8.l0 k1 l0 a1 t557 (wrap64 (x6_1 + 1))) = some r := H
      have A12 := zA1.mk A120
      clear A120
      have H' := zA1.mk H
      clear H
      have p553 : 0 ≤ (x6_1 : Int) := of_decide_eq_true (by first | (with_reducible assumption) | assumption)
      have q553 : x6_1 < (l0.length : Int) := of_decide_eq_true (by first | (with_reducible assumption) | assumption)
      obtain ⟨ad553, A553_1, c553_1, e553, hx553_0, hx553_1, hl553_1, hi553_1⟩ := zC5 (Kd.V_reads' HO_0.out).2.2 x6_1 p553 q553
      obtain rfl : ad552 = ad553 := (by injection e553)
      obtain ⟨ce553, hce553, hMe553, hcc553⟩ := Kd.V_get HO_0.out z57 x6_1 p553 (by first | exact q553 | exact of_decide_eq_true (by first | (with_reducible assumption) | assumption) | (have e_ := (Kd.V_reads' HO_0.out).1; omega))
      obtain ⟨ua553_1, uc553_1, rfl, ul553_1, ge553_1⟩ := k57_openF hMe553
      have hv553_1 := hcc553 1 _ rfl
      rw [add_field _ _ 1 (by omega)] at hv553_1
      replace hv553_1 := Option.some.inj (hv553_1.symm.trans hx553_1)
      injection hv553_1 with hva_ hvn_ hvc_
      rw [hva_] at ge553_1
      rw [hvc_] at ul553_1
      have HL553_1 := zA1.mk (show Kd.V (Kd.int .i64) 3 _ w.heap.size _ _ ((zA6 l0 x6_1).f1) from Kd.V_mk ul553_1 ge553_1)
      clear hva_ hvn_ hvc_ ge553_1 ul553_1
      clear hcc553 hce553
      have HR553_1 := zA1.mk hi553_1
      have HC553_1 := zA1.mk hl553_1
      clear hi553_1 hl553_1
      replace p553 := eq_true p553
      replace q553 := eq_true q553
      have p554 : 0 ≤ (a1 : Int) := of_decide_eq_true (by first | (with_reducible assumption) | assumption)
      have q554 : a1 < (l0.length : Int) := of_decide_eq_true (by first | (with_reducible assumption) | assumption)
      obtain ⟨ad554, A554_1, c554_1, e554, hx554_0, hx554_1, hl554_1, hi554_1⟩ := zC5 (Kd.V_reads' HO_0.out).2.2 a1 p554 q554
      obtain rfl : ad552 = ad554 := (by injection e554)
      obtain ⟨ce554, hce554, hMe554, hcc554⟩ := Kd.V_get HO_0.out z57 a1 p554 (by first | exact q554 | exact of_decide_eq_true (by first | (with_reducible assumption) | assumption) | (have e_ := (Kd.V_reads' HO_0.out).1; omega))
      obtain ⟨ua554_1, uc554_1, rfl, ul554_1, ge554_1⟩ := k57_openF hMe554
      have hv554_1 := hcc554 1 _ rfl
      rw [add_field _ _ 1 (by omega)] at hv554_1
      replace hv554_1 := Option.some.inj (hv554_1.symm.trans hx554_1)
      injection hv554_1 with hva_ hvn_ hvc_
      rw [hva_] at ge554_1
      rw [hvc_] at ul554_1
      have HL554_1 := zA1.mk (show Kd.V (Kd.int .i64) 3 _ w.heap.size _ _ ((zA6 l0 a1).f1) from Kd.V_mk ul554_1 ge554_1)
      clear hva_ hvn_ hvc_ ge554_1 ul554_1
      clear hcc554 hce554
      have HR554_1 := zA1.mk hi554_1
      have HC554_1 := zA1.mk hl554_1
      clear hi554_1 hl554_1
      replace p554 := eq_true p554
      replace q554 := eq_true q554
      go_wp2_with (first | (go_at_call 51; (with_reducible refine (zAe.calls k1 _ _ ((zA6 l0 x6_1).f1) _ _ ((zA6 l0 a1).f1) true _ ?side1 ?side2 ?side3 ?side4 A10.out).mono ?_); (case side1 => repeat (first | exact (by repeat (first | (with_reducible exact HR553_1.out) | (with_reducible refine Kd.zA8 ?_ _) | (with_reducible refine Kd.zAd ?_ _) | (with_reducible refine Kd.zAp ?_) | exact HR553_1.out)) | (with_reducible refine Kd.zA8 ?_ _) | (with_reducible refine Kd.zAd ?_ _) | (with_reducible refine Kd.zAp ?_))); (case side2 => exact HC553_1.out); (case side3 => repeat (first | exact (by repeat (first | (with_reducible exact HR554_1.out) | (with_reducible refine Kd.zA8 ?_ _) | (with_reducible refine Kd.zAd ?_ _) | (with_reducible refine Kd.zAp ?_) | exact HR554_1.out)) | (with_reducible refine Kd.zA8 ?_ _) | (with_reducible refine Kd.zAd ?_ _) | (with_reducible refine Kd.zAp ?_))); (case side4 => exact HC554_1.out); rintro e w' ⟨rfl, ⟨nd, rfl⟩⟩; (try first | exact ⟨rfl, _, World.drewN_drewN _ _ _⟩ | exact ⟨rfl, _, Eq.trans (World.drewN_drewN _ _ _) (congrArg (World.drewN _) (Nat.add_assoc _ _ _))⟩); have p556 : 0 ≤ (x6_1 : Int) := of_decide_eq_true (by first | (with_reducible assumption) | assumption); have q556 : x6_1 < (l0.length : Int) := of_decide_eq_true (by first | (with_reducible assumption) | assumption); obtain ⟨ad556, A556_1, c556_1, e556, hx556_0, hx556_1, hl556_1, hi556_1⟩ := zC5 (Kd.V_reads' HO_0.out).2.2 x6_1 p556 q556; obtain rfl : ad552 = ad556 := (by injection e556); obtain ⟨ce556, hce556, hMe556, hcc556⟩ := Kd.V_get HO_0.out z57 x6_1 p556 (by first | exact q556 | exact of_decide_eq_true (by first | (with_reducible assumption) | assumption) | (have e_ := (Kd.V_reads' HO_0.out).1; omega)); obtain ⟨ua556_1, uc556_1, rfl, ul556_1, ge556_1⟩ := k57_openF hMe556; have hv556_1 := hcc556 1 _ rfl; rw [add_field _ _ 1 (by omega)] at hv556_1; replace hv556_1 := Option.some.inj (hv556_1.symm.trans hx556_1); injection hv556_1 with hva_ hvn_ hvc_; rw [hva_] at ge556_1; rw [hvc_] at ul556_1; have HL556_1 := zA1.mk (show Kd.V (Kd.int .i64) 3 _ w.heap.size _ _ ((zA6 l0 x6_1).f1) from Kd.V_mk ul556_1 ge556_1); clear hva_ hvn_ hvc_ ge556_1 ul556_1; clear hcc556 hce556; have HR556_1 := zA1.mk hi556_1; have HC556_1 := zA1.mk hl556_1; clear hi556_1 hl556_1; replace p556 := eq_true p556; replace q556 := eq_true q556; have ea_ := Option.some.inj (hx553_1.symm.trans hx556_1); injection ea_ with ea_ en_ ec_; subst ea_; subst ec_; clear en_; obtain ⟨Ao13, co13, eo13⟩ := Kd.V_slice HO_5.out; subst eo13) | (go_at_call 43; (with_reducible refine (zB2.calls k1 _ _ x5_1 _ _ ((zA6 l0 x6_1).f1) t557 _ ?side1 ?side2 ?side3 ?side4 A12.out).mono ?_); (case side1 => repeat (first | exact (Kd.V_reads' HO_5.out).2.2 | (with_reducible refine Kd.zA8 ?_ _) | (with_reducible refine Kd.zAd ?_ _) | (with_reducible refine Kd.zAp ?_))); (case side2 => exact (Kd.V_reads' HO_5.out).2.1); (case side3 => repeat (first | exact (by repeat (first | (with_reducible exact HR556_1.out) | (with_reducible refine Kd.zA8 ?_ _) | (with_reducible refine Kd.zAd ?_ _) | (with_reducible refine Kd.zAp ?_) | exact HR556_1.out)) | (with_reducible refine Kd.zA8 ?_ _) | (with_reducible refine Kd.zAd ?_ _) | (with_reducible refine Kd.zAp ?_))); (case side4 => exact HC556_1.out); rintro e w14 ⟨v558, rfl, ho0, hb⟩; have n0_ := zA1.mk (Kd.V_elder' (by (with_reducible repeat (first | apply Kd.V_alloc | apply Kd.V_drewN | apply Kd.V_drew)); exact HO_0.out) (Kd.R_base ho0) hb); have n1_ := zA1.mk (Kd.V_elder' (by (with_reducible repeat (first | apply Kd.V_alloc | apply Kd.V_drewN | apply Kd.V_drew)); exact HO_5.out) (Kd.R_base ho0) hb); have n2_ := zA1.mk (Kd.V_elder' (by (with_reducible repeat (first | apply Kd.V_alloc | apply Kd.V_drewN | apply Kd.V_drew)); exact HL553_1.out) (Kd.R_base ho0) hb); have n3_ := zA1.mk (Kd.V_elder' (by (with_reducible repeat (first | apply Kd.V_alloc | apply Kd.V_drewN | apply Kd.V_drew)); exact HL554_1.out) (Kd.R_base ho0) hb); have n4_ := zA1.mk (Kd.V_elder' (by (with_reducible repeat (first | apply Kd.V_alloc | apply Kd.V_drewN | apply Kd.V_drew)); exact HL556_1.out) (Kd.R_base ho0) hb); have n5_ := zA1.mk (Kd.R_lower (Kd.R_newM (M := fun k_ => (w.heap.size ≤ k_)) ho0 (zAc (by repeat (first | (with_reducible first | exact HB.out | apply zA2 | apply zA0 | apply zA3) | exact HB.out))) (fun k_ h_ => h_)) (zAc (by repeat (first | (with_reducible first | exact HB.out | apply zA2 | apply zA0 | apply zA3) | exact HB.out)))); have n6_ := zA1.mk (Kd.zAy (by repeat (first | (with_reducible exact HR552_1.out) | (with_reducible refine Kd.zA8 ?_ _) | (with_reducible refine Kd.zAd ?_ _) | (with_reducible refine Kd.zAp ?_) | exact HR552_1.out)) hb); have n7_ := zA1.mk (Kd.zAy (by repeat (first | (with_reducible exact HR553_1.out) | (with_reducible refine Kd.zA8 ?_ _) | (with_reducible refine Kd.zAd ?_ _) | (with_reducible refine Kd.zAp ?_) | exact HR553_1.out)) hb); have n8_ := zA1.mk (Kd.zAy (by repeat (first | (with_reducible exact HR554_1.out) | (with_reducible refine Kd.zA8 ?_ _) | (with_reducible refine Kd.zAd ?_ _) | (with_reducible refine Kd.zAp ?_) | exact HR554_1.out)) hb); have n9_ := zA1.mk (Kd.zAy (by repeat (first | (with_reducible exact HR556_1.out) | (with_reducible refine Kd.zA8 ?_ _) | (with_reducible refine Kd.zAd ?_ _) | (with_reducible refine Kd.zAp ?_) | exact HR556_1.out)) hb); have n10_ := zA1.mk (zAm (by repeat (first | (with_reducible first | exact HB.out | apply zA2 | apply zA0 | apply zA3) | exact HB.out)) hb); clear HO_0; clear HO_5; clear HL553_1; clear HL554_1; clear HL556_1; clear HR552_1; clear HR553_1; clear HR554_1; clear HR556_1; clear HB; have HO_0 := n0_; have HO_5 := n1_; have HL553_1 := n2_; have HL554_1 := n3_; have HL556_1 := n4_; have HO559 := n5_; have HR552_1 := n6_; have HR553_1 := n7_; have HR554_1 := n8_; have HR556_1 := n9_; have HB := n10_; clear n0_ n1_ n2_ n3_ n4_ n5_ n6_ n7_ n8_ n9_ n10_; (try clear hb); (try clear hb2); (try clear hk); (try clear hi); (try clear ho0)))
      repeat (go_quiet (first | (go_at_call 51; (with_reducible refine (zAe.calls k1 _ _ ((zA6 l0 x6_1).f1) _ _ ((zA6 l0 a1).f1) true _ ?side1 ?side2 ?side3 ?side4 A10.out).mono ?_); (case side1 => repeat (first | exact (by repeat (first | (with_reducible exact HR553_1.out) | (with_reducible refine Kd.zA8 ?_ _) | (with_reducible refine Kd.zAd ?_ _) | (with_reducible refine Kd.zAp ?_) | exact HR553_1.out)) | (with_reducible refine Kd.zA8 ?_ _) | (with_reducible refine Kd.zAd ?_ _) | (with_reducible refine Kd.zAp ?_))); (case side2 => exact HC553_1.out); (case side3 => repeat (first | exact (by repeat (first | (with_reducible exact HR554_1.out) | (with_reducible refine Kd.zA8 ?_ _) | (with_reducible refine Kd.zAd ?_ _) | (with_reducible refine Kd.zAp ?_) | exact HR554_1.out)) | (with_reducible refine Kd.zA8 ?_ _) | (with_reducible refine Kd.zAd ?_ _) | (with_reducible refine Kd.zAp ?_))); (case side4 => exact HC554_1.out); rintro e w' ⟨rfl, ⟨nd, rfl⟩⟩; (try first | exact ⟨rfl, _, World.drewN_drewN _ _ _⟩ | exact ⟨rfl, _, Eq.trans (World.drewN_drewN _ _ _) (congrArg (World.drewN _) (Nat.add_assoc _ _ _))⟩); have p556 : 0 ≤ (x6_1 : Int) := of_decide_eq_true (by first | (with_reducible assumption) | assumption); have q556 : x6_1 < (l0.length : Int) := of_decide_eq_true (by first | (with_reducible assumption) | assumption); obtain ⟨ad556, A556_1, c556_1, e556, hx556_0, hx556_1, hl556_1, hi556_1⟩ := zC5 (Kd.V_reads' HO_0.out).2.2 x6_1 p556 q556; obtain rfl : ad552 = ad556 := (by injection e556); obtain ⟨ce556, hce556, hMe556, hcc556⟩ := Kd.V_get HO_0.out z57 x6_1 p556 (by first | exact q556 | exact of_decide_eq_true (by first | (with_reducible assumption) | assumption) | (have e_ := (Kd.V_reads' HO_0.out).1; omega)); obtain ⟨ua556_1, uc556_1, rfl, ul556_1, ge556_1⟩ := k57_openF hMe556; have hv556_1 := hcc556 1 _ rfl; rw [add_field _ _ 1 (by omega)] at hv556_1; replace hv556_1 := Option.some.inj (hv556_1.symm.trans hx556_1); injection hv556_1 with hva_ hvn_ hvc_; rw [hva_] at ge556_1; rw [hvc_] at ul556_1; have HL556_1 := zA1.mk (show Kd.V (Kd.int .i64) 3 _ w.heap.size _ _ ((zA6 l0 x6_1).f1) from Kd.V_mk ul556_1 ge556_1); clear hva_ hvn_ hvc_ ge556_1 ul556_1; clear hcc556 hce556; have HR556_1 := zA1.mk hi556_1; have HC556_1 := zA1.mk hl556_1; clear hi556_1 hl556_1; replace p556 := eq_true p556; replace q556 := eq_true q556; have ea_ := Option.some.inj (hx553_1.symm.trans hx556_1); injection ea_ with ea_ en_ ec_; subst ea_; subst ec_; clear en_; obtain ⟨Ao13, co13, eo13⟩ := Kd.V_slice HO_5.out; subst eo13) | (go_at_call 43; (with_reducible refine (zB2.calls k1 _ _ x5_1 _ _ ((zA6 l0 x6_1).f1) t557 _ ?side1 ?side2 ?side3 ?side4 A12.out).mono ?_); (case side1 => repeat (first | exact (Kd.V_reads' HO_5.out).2.2 | (with_reducible refine Kd.zA8 ?_ _) | (with_reducible refine Kd.zAd ?_ _) | (with_reducible refine Kd.zAp ?_))); (case side2 => exact (Kd.V_reads' HO_5.out).2.1); (case side3 => repeat (first | exact (by repeat (first | (with_reducible exact HR556_1.out) | (with_reducible refine Kd.zA8 ?_ _) | (with_reducible refine Kd.zAd ?_ _) | (with_reducible refine Kd.zAp ?_) | exact HR556_1.out)) | (with_reducible refine Kd.zA8 ?_ _) | (with_reducible refine Kd.zAd ?_ _) | (with_reducible refine Kd.zAp ?_))); (case side4 => exact HC556_1.out); rintro e w14 ⟨v558, rfl, ho0, hb⟩; have n0_ := zA1.mk (Kd.V_elder' (by (with_reducible repeat (first | apply Kd.V_alloc | apply Kd.V_drewN | apply Kd.V_drew)); exact HO_0.out) (Kd.R_base ho0) hb); have n1_ := zA1.mk (Kd.V_elder' (by (with_reducible repeat (first | apply Kd.V_alloc | apply Kd.V_drewN | apply Kd.V_drew)); exact HO_5.out) (Kd.R_base ho0) hb); have n2_ := zA1.mk (Kd.V_elder' (by (with_reducible repeat (first | apply Kd.V_alloc | apply Kd.V_drewN | apply Kd.V_drew)); exact HL553_1.out) (Kd.R_base ho0) hb); have n3_ := zA1.mk (Kd.V_elder' (by (with_reducible repeat (first | apply Kd.V_alloc | apply Kd.V_drewN | apply Kd.V_drew)); exact HL554_1.out) (Kd.R_base ho0) hb); have n4_ := zA1.mk (Kd.V_elder' (by (with_reducible repeat (first | apply Kd.V_alloc | apply Kd.V_drewN | apply Kd.V_drew)); exact HL556_1.out) (Kd.R_base ho0) hb); have n5_ := zA1.mk (Kd.R_lower (Kd.R_newM (M := fun k_ => (w.heap.size ≤ k_)) ho0 (zAc (by repeat (first | (with_reducible first | exact HB.out | apply zA2 | apply zA0 | apply zA3) | exact HB.out))) (fun k_ h_ => h_)) (zAc (by repeat (first | (with_reducible first | exact HB.out | apply zA2 | apply zA0 | apply zA3) | exact HB.out)))); have n6_ := zA1.mk (Kd.zAy (by repeat (first | (with_reducible exact HR552_1.out) | (with_reducible refine Kd.zA8 ?_ _) | (with_reducible refine Kd.zAd ?_ _) | (with_reducible refine Kd.zAp ?_) | exact HR552_1.out)) hb); have n7_ := zA1.mk (Kd.zAy (by repeat (first | (with_reducible exact HR553_1.out) | (with_reducible refine Kd.zA8 ?_ _) | (with_reducible refine Kd.zAd ?_ _) | (with_reducible refine Kd.zAp ?_) | exact HR553_1.out)) hb); have n8_ := zA1.mk (Kd.zAy (by repeat (first | (with_reducible exact HR554_1.out) | (with_reducible refine Kd.zA8 ?_ _) | (with_reducible refine Kd.zAd ?_ _) | (with_reducible refine Kd.zAp ?_) | exact HR554_1.out)) hb); have n9_ := zA1.mk (Kd.zAy (by repeat (first | (with_reducible exact HR556_1.out) | (with_reducible refine Kd.zA8 ?_ _) | (with_reducible refine Kd.zAd ?_ _) | (with_reducible refine Kd.zAp ?_) | exact HR556_1.out)) hb); have n10_ := zA1.mk (zAm (by repeat (first | (with_reducible first | exact HB.out | apply zA2 | apply zA0 | apply zA3) | exact HB.out)) hb); clear HO_0; clear HO_5; clear HL553_1; clear HL554_1; clear HL556_1; clear HR552_1; clear HR553_1; clear HR554_1; clear HR556_1; clear HB; have HO_0 := n0_; have HO_5 := n1_; have HL553_1 := n2_; have HL554_1 := n3_; have HL556_1 := n4_; have HO559 := n5_; have HR552_1 := n6_; have HR553_1 := n7_; have HR554_1 := n8_; have HR556_1 := n9_; have HB := n10_; clear n0_ n1_ n2_ n3_ n4_ n5_ n6_ n7_ n8_ n9_ n10_; (try clear hb); (try clear hb2); (try clear hk); (try clear hi); (try clear ho0))); try go_wp2_with (first | (go_at_call 51; (with_reducible refine (zAe.calls k1 _ _ ((zA6 l0 x6_1).f1) _ _ ((zA6 l0 a1).f1) true _ ?side1 ?side2 ?side3 ?side4 A10.out).mono ?_); (case side1 => repeat (first | exact (by repeat (first | (with_reducible exact HR553_1.out) | (with_reducible refine Kd.zA8 ?_ _) | (with_reducible refine Kd.zAd ?_ _) | (with_reducible refine Kd.zAp ?_) | exact HR553_1.out)) | (with_reducible refine Kd.zA8 ?_ _) | (with_reducible refine Kd.zAd ?_ _) | (with_reducible refine Kd.zAp ?_))); (case side2 => exact HC553_1.out); (case side3 => repeat (first | exact (by repeat (first | (with_reducible exact HR554_1.out) | (with_reducible refine Kd.zA8 ?_ _) | (with_reducible refine Kd.zAd ?_ _) | (with_reducible refine Kd.zAp ?_) | exact HR554_1.out)) | (with_reducible refine Kd.zA8 ?_ _) | (with_reducible refine Kd.zAd ?_ _) | (with_reducible refine Kd.zAp ?_))); (case side4 => exact HC554_1.out); rintro e w' ⟨rfl, ⟨nd, rfl⟩⟩; (try first | exact ⟨rfl, _, World.drewN_drewN _ _ _⟩ | exact ⟨rfl, _, Eq.trans (World.drewN_drewN _ _ _) (congrArg (World.drewN _) (Nat.add_assoc _ _ _))⟩); have p556 : 0 ≤ (x6_1 : Int) := of_decide_eq_true (by first | (with_reducible assumption) | assumption); have q556 : x6_1 < (l0.length : Int) := of_decide_eq_true (by first | (with_reducible assumption) | assumption); obtain ⟨ad556, A556_1, c556_1, e556, hx556_0, hx556_1, hl556_1, hi556_1⟩ := zC5 (Kd.V_reads' HO_0.out).2.2 x6_1 p556 q556; obtain rfl : ad552 = ad556 := (by injection e556); obtain ⟨ce556, hce556, hMe556, hcc556⟩ := Kd.V_get HO_0.out z57 x6_1 p556 (by first | exact q556 | exact of_decide_eq_true (by first | (with_reducible assumption) | assumption) | (have e_ := (Kd.V_reads' HO_0.out).1; omega)); obtain ⟨ua556_1, uc556_1, rfl, ul556_1, ge556_1⟩ := k57_openF hMe556; have hv556_1 := hcc556 1 _ rfl; rw [add_field _ _ 1 (by omega)] at hv556_1; replace hv556_1 := Option.some.inj (hv556_1.symm.trans hx556_1); injection hv556_1 with hva_ hvn_ hvc_; rw [hva_] at ge556_1; rw [hvc_] at ul556_1; have HL556_1 := zA1.mk (show Kd.V (Kd.int .i64) 3 _ w.heap.size _ _ ((zA6 l0 x6_1).f1) from Kd.V_mk ul556_1 ge556_1); clear hva_ hvn_ hvc_ ge556_1 ul556_1; clear hcc556 hce556; have HR556_1 := zA1.mk hi556_1; have HC556_1 := zA1.mk hl556_1; clear hi556_1 hl556_1; replace p556 := eq_true p556; replace q556 := eq_true q556; have ea_ := Option.some.inj (hx553_1.symm.trans hx556_1); injection ea_ with ea_ en_ ec_; subst ea_; subst ec_; clear en_; obtain ⟨Ao13, co13, eo13⟩ := Kd.V_slice HO_5.out; subst eo13) | (go_at_call 43; (with_reducible refine (zB2.calls k1 _ _ x5_1 _ _ ((zA6 l0 x6_1).f1) t557 _ ?side1 ?side2 ?side3 ?side4 A12.out).mono ?_); (case side1 => repeat (first | exact (Kd.V_reads' HO_5.out).2.2 | (with_reducible refine Kd.zA8 ?_ _) | (with_reducible refine Kd.zAd ?_ _) | (with_reducible refine Kd.zAp ?_))); (case side2 => exact (Kd.V_reads' HO_5.out).2.1); (case side3 => repeat (first | exact (by repeat (first | (with_reducible exact HR556_1.out) | (with_reducible refine Kd.zA8 ?_ _) | (with_reducible refine Kd.zAd ?_ _) | (with_reducible refine Kd.zAp ?_) | exact HR556_1.out)) | (with_reducible refine Kd.zA8 ?_ _) | (with_reducible refine Kd.zAd ?_ _) | (with_reducible refine Kd.zAp ?_))); (case side4 => exact HC556_1.out); rintro e w14 ⟨v558, rfl, ho0, hb⟩; have n0_ := zA1.mk (Kd.V_elder' (by (with_reducible repeat (first | apply Kd.V_alloc | apply Kd.V_drewN | apply Kd.V_drew)); exact HO_0.out) (Kd.R_base ho0) hb); have n1_ := zA1.mk (Kd.V_elder' (by (with_reducible repeat (first | apply Kd.V_alloc | apply Kd.V_drewN | apply Kd.V_drew)); exact HO_5.out) (Kd.R_base ho0) hb); have n2_ := zA1.mk (Kd.V_elder' (by (with_reducible repeat (first | apply Kd.V_alloc | apply Kd.V_drewN | apply Kd.V_drew)); exact HL553_1.out) (Kd.R_base ho0) hb); have n3_ := zA1.mk (Kd.V_elder' (by (with_reducible repeat (first | apply Kd.V_alloc | apply Kd.V_drewN | apply Kd.V_drew)); exact HL554_1.out) (Kd.R_base ho0) hb); have n4_ := zA1.mk (Kd.V_elder' (by (with_reducible repeat (first | apply Kd.V_alloc | apply Kd.V_drewN | apply Kd.V_drew)); exact HL556_1.out) (Kd.R_base ho0) hb); have n5_ := zA1.mk (Kd.R_lower (Kd.R_newM (M := fun k_ => (w.heap.size ≤ k_)) ho0 (zAc (by repeat (first | (with_reducible first | exact HB.out | apply zA2 | apply zA0 | apply zA3) | exact HB.out))) (fun k_ h_ => h_)) (zAc (by repeat (first | (with_reducible first | exact HB.out | apply zA2 | apply zA0 | apply zA3) | exact HB.out)))); have n6_ := zA1.mk (Kd.zAy (by repeat (first | (with_reducible exact HR552_1.out) | (with_reducible refine Kd.zA8 ?_ _) | (with_reducible refine Kd.zAd ?_ _) | (with_reducible refine Kd.zAp ?_) | exact HR552_1.out)) hb); have n7_ := zA1.mk (Kd.zAy (by repeat (first | (with_reducible exact HR553_1.out) | (with_reducible refine Kd.zA8 ?_ _) | (with_reducible refine Kd.zAd ?_ _) | (with_reducible refine Kd.zAp ?_) | exact HR553_1.out)) hb); have n8_ := zA1.mk (Kd.zAy (by repeat (first | (with_reducible exact HR554_1.out) | (with_reducible refine Kd.zA8 ?_ _) | (with_reducible refine Kd.zAd ?_ _) | (with_reducible refine Kd.zAp ?_) | exact HR554_1.out)) hb); have n9_ := zA1.mk (Kd.zAy (by repeat (first | (with_reducible exact HR556_1.out) | (with_reducible refine Kd.zA8 ?_ _) | (with_reducible refine Kd.zAd ?_ _) | (with_reducible refine Kd.zAp ?_) | exact HR556_1.out)) hb); have n10_ := zA1.mk (zAm (by repeat (first | (with_reducible first | exact HB.out | apply zA2 | apply zA0 | apply zA3) | exact HB.out)) hb); clear HO_0; clear HO_5; clear HL553_1; clear HL554_1; clear HL556_1; clear HR552_1; clear HR553_1; clear HR554_1; clear HR556_1; clear HB; have HO_0 := n0_; have HO_5 := n1_; have HL553_1 := n2_; have HL554_1 := n3_; have HL556_1 := n4_; have HO559 := n5_; have HR552_1 := n6_; have HR553_1 := n7_; have HR554_1 := n8_; have HR556_1 := n9_; have HB := n10_; clear n0_ n1_ n2_ n3_ n4_ n5_ n6_ n7_ n8_ n9_ n10_; (try clear hb); (try clear hb2); (try clear hk); (try clear hi); (try clear ho0))))
      go_roundg k1
      case measure => have := HK1.out; omega
      case rel => exact ⟨(t557), (wrap64 (x6_1 + 1)), (by first | rfl | (simp; done) | (simp [*]; done)), H', ⟨by have := HK1.out; omega⟩, ⟨by (with_reducible repeat (first | apply Kd.V_alloc | apply Kd.V_drewN | apply Kd.V_drew)); exact Kd.V_mono HO_0.out (fun _ hk => hk.1)⟩, ⟨Kd.V_mono (Kd.R_V (by (with_reducible repeat (first | apply Kd.zAk | apply Kd.zAj | apply Kd.zAt)); exact Kd.zCc HO559.out (fun _ hk => hk.1))) (fun k_ hk => by first | exact ⟨(.inr (hk.1)), hk.2⟩ | exact (.inr (hk)))⟩, ⟨by repeat (first | (with_reducible exact HR552_1.out) | (with_reducible refine Kd.zA8 ?_ _) | (with_reducible refine Kd.zAd ?_ _) | (with_reducible refine Kd.zAp ?_) | exact HR552_1.out)⟩, ⟨by repeat (first | (with_reducible first | exact HB.out | apply zA2 | apply zA0 | apply zA3) | exact HB.out)⟩⟩
     ·replace c11 := Bool.eq_false_iff.mpr c11
      subst c11
      have H1 : (zB8.l0 k1 l0 a1 x5_1 (wrap64 (x6_1 + 1))) = some r := by rw [if_neg (show ¬ (false = true) by decide)] at H; exact H
      clear H
      have H := H1
      clear H1
      have H' := zA1.mk H
      clear H
      have p553 : 0 ≤ (x6_1 : Int) := of_decide_eq_true (by first | (with_reducible assumption) | assumption)
      have q553 : x6_1 < (l0.length : Int) := of_decide_eq_true (by first | (with_reducible assumption) | assumption)
      obtain ⟨ad553, A553_1, c553_1, e553, hx553_0, hx553_1, hl553_1, hi553_1⟩ := zC5 (Kd.V_reads' HO_0.out).2.2 x6_1 p553 q553
      obtain rfl : ad552 = ad553 := (by injection e553)
      obtain ⟨ce553, hce553, hMe553, hcc553⟩ := Kd.V_get HO_0.out z57 x6_1 p553 (by first | exact q553 | exact of_decide_eq_true (by first | (with_reducible assumption) | assumption) | (have e_ := (Kd.V_reads' HO_0.out).1; omega))
      obtain ⟨ua553_1, uc553_1, rfl, ul553_1, ge553_1⟩ := k57_openF hMe553
      have hv553_1 := hcc553 1 _ rfl
      rw [add_field _ _ 1 (by omega)] at hv553_1
      replace hv553_1 := Option.some.inj (hv553_1.symm.trans hx553_1)
      injection hv553_1 with hva_ hvn_ hvc_
      rw [hva_] at ge553_1
      rw [hvc_] at ul553_1
      have HL553_1 := zA1.mk (show Kd.V (Kd.int .i64) 3 _ w.heap.size _ _ ((zA6 l0 x6_1).f1) from Kd.V_mk ul553_1 ge553_1)
      clear hva_ hvn_ hvc_ ge553_1 ul553_1
      clear hcc553 hce553
      have HR553_1 := zA1.mk hi553_1
      have HC553_1 := zA1.mk hl553_1
      clear hi553_1 hl553_1
      replace p553 := eq_true p553
      replace q553 := eq_true q553
      have p554 : 0 ≤ (a1 : Int) := of_decide_eq_true (by first | (with_reducible assumption) | assumption)
      have q554 : a1 < (l0.length : Int) := of_decide_eq_true (by first | (with_reducible assumption) | assumption)
      obtain ⟨ad554, A554_1, c554_1, e554, hx554_0, hx554_1, hl554_1, hi554_1⟩ := zC5 (Kd.V_reads' HO_0.out).2.2 a1 p554 q554
      obtain rfl : ad552 = ad554 := (by injection e554)
      obtain ⟨ce554, hce554, hMe554, hcc554⟩ := Kd.V_get HO_0.out z57 a1 p554 (by first | exact q554 | exact of_decide_eq_true (by first | (with_reducible assumption) | assumption) | (have e_ := (Kd.V_reads' HO_0.out).1; omega))
      obtain ⟨ua554_1, uc554_1, rfl, ul554_1, ge554_1⟩ := k57_openF hMe554
      have hv554_1 := hcc554 1 _ rfl
      rw [add_field _ _ 1 (by omega)] at hv554_1
      replace hv554_1 := Option.some.inj (hv554_1.symm.trans hx554_1)
      injection hv554_1 with hva_ hvn_ hvc_
      rw [hva_] at ge554_1
      rw [hvc_] at ul554_1
      have HL554_1 := zA1.mk (show Kd.V (Kd.int .i64) 3 _ w.heap.size _ _ ((zA6 l0 a1).f1) from Kd.V_mk ul554_1 ge554_1)
      clear hva_ hvn_ hvc_ ge554_1 ul554_1
      clear hcc554 hce554
      have HR554_1 := zA1.mk hi554_1
      have HC554_1 := zA1.mk hl554_1
      clear hi554_1 hl554_1
      replace p554 := eq_true p554
      replace q554 := eq_true q554
      go_wp2_with (first | (go_at_call 51; (with_reducible refine (zAe.calls k1 _ _ ((zA6 l0 x6_1).f1) _ _ ((zA6 l0 a1).f1) false _ ?side1 ?side2 ?side3 ?side4 A10.out).mono ?_); (case side1 => repeat (first | exact (by repeat (first | (with_reducible exact HR553_1.out) | (with_reducible refine Kd.zA8 ?_ _) | (with_reducible refine Kd.zAd ?_ _) | (with_reducible refine Kd.zAp ?_) | exact HR553_1.out)) | (with_reducible refine Kd.zA8 ?_ _) | (with_reducible refine Kd.zAd ?_ _) | (with_reducible refine Kd.zAp ?_))); (case side2 => exact HC553_1.out); (case side3 => repeat (first | exact (by repeat (first | (with_reducible exact HR554_1.out) | (with_reducible refine Kd.zA8 ?_ _) | (with_reducible refine Kd.zAd ?_ _) | (with_reducible refine Kd.zAp ?_) | exact HR554_1.out)) | (with_reducible refine Kd.zA8 ?_ _) | (with_reducible refine Kd.zAd ?_ _) | (with_reducible refine Kd.zAp ?_))); (case side4 => exact HC554_1.out); rintro e w' ⟨rfl, ⟨nd, rfl⟩⟩; (try first | exact ⟨rfl, _, World.drewN_drewN _ _ _⟩ | exact ⟨rfl, _, Eq.trans (World.drewN_drewN _ _ _) (congrArg (World.drewN _) (Nat.add_assoc _ _ _))⟩)))
      repeat (go_quiet (first | (go_at_call 51; (with_reducible refine (zAe.calls k1 _ _ ((zA6 l0 x6_1).f1) _ _ ((zA6 l0 a1).f1) false _ ?side1 ?side2 ?side3 ?side4 A10.out).mono ?_); (case side1 => repeat (first | exact (by repeat (first | (with_reducible exact HR553_1.out) | (with_reducible refine Kd.zA8 ?_ _) | (with_reducible refine Kd.zAd ?_ _) | (with_reducible refine Kd.zAp ?_) | exact HR553_1.out)) | (with_reducible refine Kd.zA8 ?_ _) | (with_reducible refine Kd.zAd ?_ _) | (with_reducible refine Kd.zAp ?_))); (case side2 => exact HC553_1.out); (case side3 => repeat (first | exact (by repeat (first | (with_reducible exact HR554_1.out) | (with_reducible refine Kd.zA8 ?_ _) | (with_reducible refine Kd.zAd ?_ _) | (with_reducible refine Kd.zAp ?_) | exact HR554_1.out)) | (with_reducible refine Kd.zA8 ?_ _) | (with_reducible refine Kd.zAd ?_ _) | (with_reducible refine Kd.zAp ?_))); (case side4 => exact HC554_1.out); rintro e w' ⟨rfl, ⟨nd, rfl⟩⟩; (try first | exact ⟨rfl, _, World.drewN_drewN _ _ _⟩ | exact ⟨rfl, _, Eq.trans (World.drewN_drewN _ _ _) (congrArg (World.drewN _) (Nat.add_assoc _ _ _))⟩))); try go_wp2_with (first | (go_at_call 51; (with_reducible refine (zAe.calls k1 _ _ ((zA6 l0 x6_1).f1) _ _ ((zA6 l0 a1).f1) false _ ?side1 ?side2 ?side3 ?side4 A10.out).mono ?_); (case side1 => repeat (first | exact (by repeat (first | (with_reducible exact HR553_1.out) | (with_reducible refine Kd.zA8 ?_ _) | (with_reducible refine Kd.zAd ?_ _) | (with_reducible refine Kd.zAp ?_) | exact HR553_1.out)) | (with_reducible refine Kd.zA8 ?_ _) | (with_reducible refine Kd.zAd ?_ _) | (with_reducible refine Kd.zAp ?_))); (case side2 => exact HC553_1.out); (case side3 => repeat (first | exact (by repeat (first | (with_reducible exact HR554_1.out) | (with_reducible refine Kd.zA8 ?_ _) | (with_reducible refine Kd.zAd ?_ _) | (with_reducible refine Kd.zAp ?_) | exact HR554_1.out)) | (with_reducible refine Kd.zA8 ?_ _) | (with_reducible refine Kd.zAd ?_ _) | (with_reducible refine Kd.zAp ?_))); (case side4 => exact HC554_1.out); rintro e w' ⟨rfl, ⟨nd, rfl⟩⟩; (try first | exact ⟨rfl, _, World.drewN_drewN _ _ _⟩ | exact ⟨rfl, _, Eq.trans (World.drewN_drewN _ _ _) (congrArg (World.drewN _) (Nat.add_assoc _ _ _))⟩))))
      go_roundg k1
      case measure => have := HK1.out; omega
      case rel => exact ⟨(x5_1), (wrap64 (x6_1 + 1)), (by first | rfl | (simp; done) | (simp [*]; done)), H', ⟨by have := HK1.out; omega⟩, ⟨by (with_reducible repeat (first | apply Kd.V_alloc | apply Kd.V_drewN | apply Kd.V_drew)); exact HO_0.out⟩, ⟨by (with_reducible repeat (first | apply Kd.V_alloc | apply Kd.V_drewN | apply Kd.V_drew)); exact HO_5.out⟩, ⟨by repeat (first | (with_reducible exact HR552_1.out) | (with_reducible refine Kd.zA8 ?_ _) | (with_reducible refine Kd.zAd ?_ _) | (with_reducible refine Kd.zAp ?_) | exact HR552_1.out)⟩, ⟨by repeat (first | (with_reducible first | exact HB.out | apply zA2 | apply zA0 | apply zA3) | exact HB.out)⟩⟩
   ·rw [if_neg c5] at H
    have c5b0 : decide (x6_1 < (l0.length : Int)) = false := decide_eq_false c5
    clear c5
    obtain rfl := Option.some.inj H
    go_wp2
    go_ret
    exact ⟨_, by first | rfl | (simp [zAx, zAw] <;> rfl) | (simp [*, zAx, zAw] <;> rfl), by (with_reducible repeat (first | apply Kd.V_alloc | apply Kd.V_drewN | apply Kd.V_drew)); exact HO_5.out, by repeat (first | (with_reducible first | exact HB.out | apply zA2 | apply zA0 | apply zA3) | exact HB.out)⟩
end
end Go.Proofs.YtbghfbhlbfcloaaDoor.PL
namespace Go.Proofs.YtbghfbhlbfcloaaDoor.PL
section
set_option linter.unusedVariables false
set_option linter.unusedSimpArgs false
open Go.RowKit Go.Proofs.YtbghfbhlbfcloaaDoorW.PrintWords Go.Proofs.YtbghfbhlbfcloaaDoorW.PrintLast Go.Proofs.YtbghfbhlbfcloaaDoorW.PrintMore
theorem one_distinct {l : List S57} {n : Int} {i : Nat} {x : S57} (h : CG.one l n i x = some 0) : ∀ y ∈ l.take i, x.f1 ≠ y.f1 := by
 unfold CG.one at h
 split at h
 ·cases h
 ·split at h
  ·cases h
  ·split at h
   ·cases h
   ·obtain ⟨e, _, h⟩ := Option.bind_eq_some_iff.1 h
    split at h
    ·rename_i hne
     injection h with h
     exact absurd h hne
    ·split at h
     ·cases h
     ·rename_i hany
      intro y hy he
      exact hany (List.any_eq_true.2 ⟨y, hy, decide_eq_true he⟩)
theorem go_distinct {l : List S57} {n : Int} : ∀ (r : List S57) (i : Nat), l.drop i = r → CG.go l n i r = some 0 → ∀ j (hj : j < l.length), i ≤ j → ∀ y ∈ l.take j, l[j].f1 ≠ y.f1
 | [], i, hd, _, j, hj, hij => by
  have := List.drop_eq_nil_iff.1 hd
  omega
 | x :: r, i, hd, hg, j, hj, hij => by
  have hlt : i < l.length := by
   rcases Nat.lt_or_ge i l.length with h | h
   ·exact h
   ·rw [List.drop_eq_nil_of_le h] at hd; cases hd
  rw [List.drop_eq_getElem_cons hlt] at hd
  injection hd with hx hr
  rw [CG.go] at hg
  obtain ⟨e, h1, h2⟩ := Option.bind_eq_some_iff.1 hg
  by_cases h0 : e = 0
  ·rw [if_pos h0] at h2
   rcases Nat.lt_or_ge i j with h | h
   ·exact go_distinct r (i + 1) hr h2 j hj h
   ·obtain rfl : j = i := by omega
    rw [h0, ← hx] at h1
    exact one_distinct h1
  ·rw [if_neg h0] at h2
   injection h2 with h2
   exact absurd h2 h0
theorem cgf_distinct {l : List S57} {n : Int} (h : CG.f l n = some 0) : ∀ i k (hi : i < l.length) (hk : k < l.length), i ≠ k → l[i].f1 ≠ l[k].f1 := by
 unfold CG.f at h
 split at h
 ·cases h
 ·split at h
  ·cases h
  ·split at h
   ·intro i k hi hk hne
    have key : ∀ a b (ha : a < l.length) (hb : b < l.length), b < a → l[a].f1 ≠ l[b].f1 := fun a b ha hb hlt => by
     refine go_distinct l 0 (List.drop_zero) h a ha (Nat.zero_le _) l[b] ?_
     rw [List.mem_take_iff_getElem]
     exact ⟨b, by omega, rfl⟩
    rcases Nat.lt_or_ge i k with h1 | h1
    ·exact fun e => key k i hk hi h1 e.symm
    ·exact key i k hi hk (by omega)
   ·cases h
theorem mk_inj {n : Int} {x y : List Int} {m : Nat} (hx : MkOf x m) (hy : MkOf y m) (ox : OkM n x) (oy : OkM n y) : x = y := by
 have hmem : ∀ a, a ∈ x ↔ a ∈ y := fun a => by
  constructor
  ·intro ha
   obtain ⟨i, rfl⟩ : ∃ i : Nat, a = (i : Int) := ⟨a.toNat, by have := (ox.1 a ha).1; omega⟩
   exact (hy.2 i).1 ((hx.2 i).2 ha)
  ·intro ha
   obtain ⟨i, rfl⟩ : ∃ i : Nat, a = (i : Int) := ⟨a.toNat, by have := (oy.1 a ha).1; omega⟩
   exact (hx.2 i).1 ((hy.2 i).2 ha)
 have hp : x.Perm y := (List.perm_ext_iff_of_nodup (ox.2.imp fun h => by omega) (oy.2.imp fun h => by omega)).2 hmem
 exact List.Perm.eq_of_pairwise (fun a b _ _ h1 h2 => by omega) ox.2 oy.2 hp
theorem sub_and {z w : List Int} {p q : Nat} (hz : MkOf z p) (hw : MkOf w q) (hz0 : ∀ a ∈ z, 0 ≤ a) : (p &&& q = p) ↔ (z.all fun a => decide (a ∈ w)) = true := by
 rw [List.all_eq_true]
 constructor
 ·intro he a ha
  obtain ⟨b, rfl⟩ : ∃ b : Nat, a = (b : Int) := ⟨a.toNat, by have := hz0 a ha; omega⟩
  have h1 : p.testBit b = true := (hz.2 b).2 ha
  rw [← he, Nat.testBit_and, Bool.and_eq_true] at h1
  exact decide_eq_true ((hw.2 b).1 h1.2)
 ·intro h
  refine nb_ext fun i => ?_
  rw [Nat.testBit_and, Bool.and_eq_true]
  constructor
  ·exact fun h => h.1
  ·intro h1
   exact ⟨h1, (hw.2 i).2 (by simpa using h _ ((hz.2 i).1 h1))⟩
def inL (x y : List Int) : Bool := decide (x ≠ y) && x.all fun a => decide (a ∈ y)
theorem inside_f {n : Int} (hn : n ≤ 12) {x y : S57} (hx : OkM n x.f1 ∧ x.f1.length ≤ 10) (hy : OkM n y.f1 ∧ y.f1.length ≤ 10) (k : Nat) (hk : 20 ≤ k) : zBr.f k x.f0 x.f1 y.f0 y.f1 = some (inL x.f1 y.f1) := by
 obtain ⟨m, hm, hmf⟩ := mask_f x.f1 (by omega) (fun a ha => ⟨(hx.1.1 a ha).1, by have := (hx.1.1 a ha).2; omega⟩)
 obtain ⟨o, ho, hof⟩ := mask_f y.f1 (by omega) (fun a ha => ⟨(hy.1.1 a ha).1, by have := (hy.1.1 a ha).2; omega⟩)
 unfold zBr.f
 rw [hmf k (by omega), Option.bind_some, hof k (by omega), Option.bind_some]
 by_cases he : m = o
 ·subst he
  rw [if_pos rfl]
  unfold inL
  rw [decide_eq_false (fun h => h (mk_inj hm ho hx.1 hy.1))]
  rfl
 ·rw [if_neg (by omega), andJ m o hm.1 ho.1]
  have hne : x.f1 ≠ y.f1 := fun e => he (by
   rw [← e] at ho
   exact nb_ext fun i => (hm.2 i).trans (ho.2 i).symm)
  have hs := sub_and hm ho (fun a ha => (hx.1.1 a ha).1)
  unfold inL
  rw [decide_eq_true hne, Bool.true_and]
  congr 1
  rw [Bool.eq_iff_iff, beq_iff_eq, ← hs]
  omega
def bst (l : List S57) (i : Nat) (b : Int) (k : Nat) : Int :=
 if inL (zA6 l i).f1 (zA6 l k).f1 = true then (if b < 0 then (k : Int) else if (zA6 l k).f1.length < (zA6 l b).f1.length then (k : Int) else b) else b
def bsF (l : List S57) (i : Nat) : Nat → Nat → Int → Int
 | 0, _, b => b
 | c + 1, k, b => bsF l i c (k + 1) (bst l i b k)
theorem bst_in {l : List S57} {i k : Nat} {b : Int} (hk : k < l.length) (hb : b = -1 ∨ 0 ≤ b ∧ b < l.length) : bst l i b k = -1 ∨ 0 ≤ bst l i b k ∧ bst l i b k < l.length := by
 unfold bst
 split
 ·split
  ·exact .inr ⟨by omega, by omega⟩
  ·split
   ·exact .inr ⟨by omega, by omega⟩
   ·exact hb
 ·exact hb
theorem bsF_in {l : List S57} {i : Nat} : ∀ (c k : Nat) (b : Int), k + c = l.length → (b = -1 ∨ 0 ≤ b ∧ b < l.length) → (bsF l i c k b = -1 ∨ 0 ≤ bsF l i c k b ∧ bsF l i c k b < l.length)
 | 0, _, _, _, h => h
 | c + 1, k, b, hk, h => bsF_in c (k + 1) _ (by omega) (bst_in (by omega) h)
section
variable {l : List S57} {n : Int} {R : Option (List Int × Int)}
theorem par_l1 (hl : l.length ≤ 8) (hn : n ≤ 12) (hg : ∀ x ∈ l, OkM n x.f1 ∧ x.f1.length ≤ 10) (i : Nat) (hi : i < l.length) (out : List Int) (ho : out.length ≤ 8) (N : Nat) : ∀ (c j : Nat) (b : Int), j + c = l.length → (b = -1 ∨ 0 ≤ b ∧ b < l.length) →
  (∀ k, N ≤ k → zAg.l0 k l (out ++ [bsF l i c j b]) l (l.length : Int) ((i + 1 : Nat) : Int) = R) → ∀ k, N + c + 30 ≤ k →
  zAg.l1 k l out b l (l.length : Int) (i : Int) l (l.length : Int) (j : Int) (zA6 l i).f0 (zA6 l i).f1 = R
 | 0, j, b, hj, hb, H, k, hk => by
  obtain ⟨k, rfl⟩ : ∃ q, k = q + 1 := ⟨k - 1, by omega⟩
  rw [zAg.l1, if_neg (by omega), if_pos (by omega), wr1 i (by omega)]
  exact H k (by omega)
 | c + 1, j, b, hj, hb, H, k, hk => by
  obtain ⟨k, rfl⟩ : ∃ q, k = q + 1 := ⟨k - 1, by omega⟩
  have hjl : j < l.length := by omega
  have hin := inside_f hn (x := zA6 l i) (y := zA6 l j) (by rw [rdG l i hi]; exact hg _ (List.getElem_mem hi)) (by rw [rdG l j hjl]; exact hg _ (List.getElem_mem hjl)) k (by omega)
  have hb' := bst_in (i := i) hjl hb
  rw [bsF] at H
  have ih := par_l1 hl hn hg i hi out ho N c (j + 1) (bst l i b j) (by omega) hb' H k (by omega)
  rw [zAg.l1, if_pos (by omega), if_pos (by omega), if_pos (by omega), hin, Option.bind_some, wr1 j (by omega)]
  unfold bst at ih
  by_cases h1 : inL (zA6 l i).f1 (zA6 l j).f1 = true
  ·rw [if_pos h1] at ih ⊢
   by_cases h2 : b < 0
   ·rw [if_pos h2] at ih ⊢
    exact ih
   ·rw [if_neg h2] at ih ⊢
    rw [if_pos (by omega), if_pos (by omega)]
    by_cases h3 : (zA6 l j).f1.length < (zA6 l b).f1.length
    ·rw [if_pos h3] at ih
     rw [if_pos (by omega)]
     exact ih
    ·rw [if_neg h3] at ih
     rw [if_neg (by omega)]
     exact ih
  ·rw [if_neg h1] at ih ⊢
   exact ih
def parL (l : List S57) : List Int := (List.range l.length).map fun i => bsF l i l.length 0 (-1)
theorem par_l0 (hl : l.length ≤ 8) (hn : n ≤ 12) (hg : ∀ x ∈ l, OkM n x.f1 ∧ x.f1.length ≤ 10) : ∀ (c i : Nat), i + c = l.length → ∀ k, 10 + 60 * c ≤ k →
  zAg.l0 k l ((parL l).take i) l (l.length : Int) (i : Int) = some (parL l, 0)
 | 0, i, hi, k, hk => by
  obtain ⟨k, rfl⟩ : ∃ q, k = q + 1 := ⟨k - 1, by omega⟩
  rw [zAg.l0, if_neg (by omega), List.take_of_length_le (by unfold parL; simp; omega)]
 | c + 1, i, hi, k, hk => by
  obtain ⟨k, rfl⟩ : ∃ q, k = q + 1 := ⟨k - 1, by omega⟩
  have hil : i < l.length := by omega
  have hpl : (parL l).length = l.length := by unfold parL; simp
  rw [zAg.l0, if_pos (by omega), if_pos (by omega), if_pos (by omega)]
  refine par_l1 hl hn hg i hil _ (by rw [List.length_take]; omega) (10 + 60 * c) l.length 0 (-1) (by omega) (.inl rfl) (fun k hk => ?_) k (by omega)
  have ih := par_l0 hl hn hg c (i + 1) (by omega) k hk
  rw [List.take_succ_eq_append_getElem (show i < (parL l).length by omega)] at ih
  have e : (parL l)[i]'(by omega) = bsF l i l.length 0 (-1) := by unfold parL; simp
  rw [e] at ih
  exact ih
theorem rpar_l (hl : l.length ≤ 8) (hg : ∀ x ∈ l, x.f1.length ≤ 10) (hd : ∀ i k (hi : i < l.length) (hk : k < l.length), i ≠ k → l[i].f1 ≠ l[k].f1) (i : Nat) (hi : i < l.length) : ∀ (c j : Nat) (b : Int), j + c = l.length → (b = -1 ∨ 0 ≤ b ∧ b < l.length) → ∀ k, 2100 + c ≤ k →
  zAl.l0 k l (i : Int) b (j : Int) = some (bsF l i c j b)
 | 0, j, b, hj, hb, k, hk => by
  obtain ⟨k, rfl⟩ : ∃ q, k = q + 1 := ⟨k - 1, by omega⟩
  rw [zAl.l0, if_neg (by omega), bsF]
 | c + 1, j, b, hj, hb, k, hk => by
  obtain ⟨k, rfl⟩ : ∃ q, k = q + 1 := ⟨k - 1, by omega⟩
  have hjl : j < l.length := by omega
  have hb' := bst_in (i := i) hjl hb
  have ih := rpar_l hl hg hd i hi c (j + 1) (bst l i b j) (by omega) hb' k (by omega)
  have li := hg _ (List.getElem_mem hi)
  have lj := hg _ (List.getElem_mem hjl)
  rw [zAl.l0, if_pos (by omega), bsF, wr1 j (by omega)]
  unfold bst at ih ⊢
  by_cases hij : j = i
  ·subst hij
   have h1 : ¬ inL (zA6 l j).f1 (zA6 l j).f1 = true := by unfold inL; simp
   rw [if_pos rfl, if_neg h1]
   rw [if_neg h1] at ih
   exact ih
  ·have hne := hd i j hi hjl (fun e => hij e.symm)
   rw [if_neg (by omega), if_pos (by omega), if_pos (by omega), if_pos (by omega), within_f _ _ (by rw [rdG l i hi]; omega) (by rw [rdG l j hjl]; omega) k (by omega), Option.bind_some]
   have hin : inL (zA6 l i).f1 (zA6 l j).f1 = ((zA6 l i).f1.all fun a => decide (a ∈ (zA6 l j).f1)) := by
    unfold inL
    rw [rdG l i hi, rdG l j hjl, decide_eq_true hne, Bool.true_and]
   rw [← hin]
   by_cases h1 : inL (zA6 l i).f1 (zA6 l j).f1 = true
   ·rw [if_pos h1] at ih
    rw [if_pos h1, if_pos h1]
    by_cases h2 : b < 0
    ·rw [if_pos h2] at ih
     rw [if_pos h2, if_pos h2]
     exact ih
    ·rw [if_neg h2] at ih
     rw [if_neg h2, if_neg h2, if_pos (by omega), if_pos (by omega)]
     by_cases h3 : (zA6 l j).f1.length < (zA6 l b).f1.length
     ·rw [if_pos h3] at ih
      rw [if_pos (by omega), if_pos h3]
      exact ih
     ·rw [if_neg h3] at ih
      rw [if_neg (by omega), if_neg h3]
      exact ih
   ·rw [if_neg h1] at ih
    rw [if_neg h1, if_neg h1]
    exact ih
end
def E12 (m : Nat) : List Int := ((List.range 12).filter fun i => m.testBit i).map fun i : Nat => (i : Int)
theorem listed12_tab : ((List.range 4096).all fun m => zB9.f 20 (m : Int) == some (E12 m)) = true := by kernel_rfl
theorem listed12_f (k : Nat) (hk : 20 ≤ k) (m : Nat) (hm : m < 4096) : zB9.f k (m : Int) = some (E12 m) := by
 have h := List.all_eq_true.1 listed12_tab m (List.mem_range.2 hm)
 exact up (fun k => zB9.mono (m : Int) k) (by simpa using h) k hk
end
end Go.Proofs.YtbghfbhlbfcloaaDoor.PL
namespace Go.Proofs.YtbghfbhlbfcloaaDoor.PL
section
open Go.RowKit Go.Sort Go.Proofs Go.Proofs.YtbghfbhlbfcloaaDoorW.PrintWords Go.Proofs.YtbghfbhlbfcloaaDoorW.PrintLast Go.Proofs.YtbghfbhlbfcloaaDoorW.PrintMore
set_option linter.unusedVariables false
set_option linter.unusedSimpArgs false
def insq {α : Type} (le : α → α → Bool) (a : α) : List α → List α
 | [] => [a]
 | b :: t => if le a b = true then a :: b :: t else b :: insq le a t
def isort {α : Type} (le : α → α → Bool) : List α → List α
 | [] => []
 | a :: r => insq le a (isort le r)
theorem insq_perm {α : Type} (le : α → α → Bool) (a : α) : ∀ l : List α, (insq le a l).Perm (a :: l)
 | [] => List.Perm.refl _
 | b :: t => by
  unfold insq
  split
  ·exact List.Perm.refl _
  ·exact ((insq_perm le a t).cons b).trans (List.Perm.swap a b t)
theorem isort_perm {α : Type} (le : α → α → Bool) : ∀ l : List α, (isort le l).Perm l
 | [] => List.Perm.refl _
 | a :: r => (insq_perm le a _).trans ((isort_perm le r).cons a)
theorem insq_pair {α : Type} (le : α → α → Bool) (ht : ∀ a b c, le a b = true → le b c = true → le a c = true) (htot : ∀ a b, (le a b || le b a) = true) (a : α) : ∀ l : List α, l.Pairwise (fun x y => le x y = true) → (insq le a l).Pairwise fun x y => le x y = true
 | [], _ => by simp [insq]
 | b :: t, h => by
  unfold insq
  split
  ·rename_i hab
   refine List.Pairwise.cons (fun c hc => ?_) h
   rcases List.mem_cons.1 hc with rfl | hc
   ·exact hab
   ·exact ht a b c hab (List.rel_of_pairwise_cons h hc)
  ·rename_i hab
   have hba : le b a = true := by
    have := htot a b
    simpa [hab] using this
   refine List.Pairwise.cons (fun c hc => ?_) (insq_pair le ht htot a t (List.Pairwise.of_cons h))
   rcases List.mem_cons.1 ((insq_perm le a t).mem_iff.1 hc) with rfl | hc
   ·exact hba
   ·exact List.rel_of_pairwise_cons h hc
theorem isort_pair {α : Type} (le : α → α → Bool) (ht : ∀ a b c, le a b = true → le b c = true → le a c = true) (htot : ∀ a b, (le a b || le b a) = true) : ∀ l : List α, (isort le l).Pairwise fun x y => le x y = true
 | [] => List.Pairwise.nil
 | a :: r => insq_pair le ht htot a _ (isort_pair le ht htot r)
theorem merge_isort {α : Type} (le : α → α → Bool) (ht : ∀ a b c, le a b = true → le b c = true → le a c = true) (htot : ∀ a b, (le a b || le b a) = true) (l : List α) (ha : ∀ a b, a ∈ l → b ∈ l → le a b = true → le b a = true → a = b) : l.mergeSort le = isort le l :=
 List.Perm.eq_of_pairwise (fun a b h1 h2 => ha a b ((List.mergeSort_perm l le).mem_iff.1 h1) ((isort_perm le l).mem_iff.1 h2)) (List.pairwise_mergeSort ht htot l) (isort_pair le ht htot l) ((List.mergeSort_perm l le).trans (isort_perm le l).symm)
def leC {α : Type} (cf : α → α → Int) (x y : α) : Bool := !(decide (cf y x < 0))
theorem merge_cf {α : Type} (cf : α → α → Int) (hO : SWO (ltOf cf)) (l : List α) (ha : ∀ a b, a ∈ l → b ∈ l → ¬ cf a b < 0 → ¬ cf b a < 0 → a = b) : (l.mergeSort fun x y => !(decide (cf y x < 0))) = isort (leC cf) l := by
 refine merge_isort (leC cf) ?_ ?_ l ?_
 ·intro a b c h1 h2
  have := hO.ntrans c b a (by simpa [leC, ltOf] using h2) (by simpa [leC, ltOf] using h1)
  simpa [leC, ltOf] using this
 ·intro a b
  by_cases h : cf b a < 0
  ·have h1 : ltOf cf b a = true := decide_eq_true h
   have h2 : ltOf cf a b = false := by
    cases e : ltOf cf a b with
    | false => rfl
    | true =>
     have := hO.trans a b a e h1
     rw [hO.irrefl a] at this
     cases this
   simp only [leC, Bool.or_eq_true, Bool.not_eq_true']
   exact .inr h2
  ·simp [leC, h]
 ·intro a b ha' hb' h1 h2
  exact ha a b ha' hb' (by simpa [leC] using h2) (by simpa [leC] using h1)
def SortsK (P : Program) (F k : Nat) : Prop :=
 ∀ (m : Nat) (enc : Fin (m + 1) → List Value) (_ : ∀ x, (enc x).length = k) (_ : ∀ x, ∀ v ∈ enc x, v.oneCell' = true) (cf : Fin (m + 1) → Fin (m + 1) → Int) (_ : SWO (ltOf cf)) (g : Nat) (cb : Array Value) (blk off cap : Nat) (d : Array (Fin (m + 1))) (w : World)
  (_ : ∀ args w, (callFunc g args).run P w = .ok (.enter g args) w) (_ : CmpLays P g cb enc k cf blk off d.size w) (_ : HoldsK enc k w blk off d) (_ : blk < w.heap.size) (_ : d.size < 4611686018427387904) (_ : ∀ x y, (ltOf cf) x y = false → (ltOf cf) y x = false → x = y),
  Calls P F #[.slice (some ⟨blk, off, none⟩) d.size cap, .func (.func g) #[] cb] w fun e w' =>
   e = .returned (.tuple #[]) ∧ ∃ n os, w' = sortWorldK enc k w blk off n (d.toList.mergeSort fun x y => !(ltOf cf) y x).toArray os
def chunk (inner : List Value) (k j : Nat) : List Value := (inner.drop (j * k)).take k
theorem chunk_get {inner : List Value} {k j i : Nat} (hi : i < k) : (chunk inner k j)[i]? = inner[j * k + i]? := by
 unfold chunk
 rw [List.getElem?_take_of_lt hi, List.getElem?_drop]
theorem chunk_len {inner : List Value} {k j n : Nat} (hl : inner.length = n * k) (hj : j < n) : (chunk inner k j).length = k := by
 unfold chunk
 rw [List.length_take, List.length_drop, hl]
 have : (j + 1) * k ≤ n * k := Nat.mul_le_mul_right k hj
 rw [Nat.add_mul, Nat.one_mul] at this
 omega
def flatI (inner : List Value) (k : Nat) (l : List Nat) : List Value := l.flatMap (chunk inner k)
theorem flatI_len {inner : List Value} {k n : Nat} (hl : inner.length = n * k) : ∀ (l : List Nat), (∀ j ∈ l, j < n) → (flatI inner k l).length = l.length * k
 | [], _ => by simp [flatI]
 | j :: r, h => by
  have h1 := chunk_len hl (h j (by simp))
  have h2 := flatI_len hl r (fun q hq => h q (by simp [hq]))
  unfold flatI at h2 ⊢
  rw [List.flatMap_cons, List.length_append, h1, h2, List.length_cons, Nat.add_mul]
  omega
theorem flatI_chunk {inner : List Value} {k n : Nat} (hl : inner.length = n * k) : ∀ (l : List Nat) (_ : ∀ j ∈ l, j < n) (i : Nat) (q : Nat), l[i]? = some q → ((flatI inner k l).drop (i * k)).take k = chunk inner k q
 | [], _, i, q, h => by simp at h
 | j :: r, h, i, q, hi => by
  have h1 := chunk_len hl (h j (by simp))
  cases i with
  | zero =>
   simp at hi
   subst hi
   unfold flatI
   rw [List.flatMap_cons, Nat.zero_mul, List.drop_zero, List.take_append_of_le_length (by omega), List.take_of_length_le (by omega)]
  | succ i =>
   simp at hi
   have ih := flatI_chunk hl r (fun q hq => h q (by simp [hq])) i q hi
   unfold flatI at ih ⊢
   rw [List.flatMap_cons, Nat.add_mul, Nat.one_mul, Nat.add_comm, ← List.drop_drop]
   rw [List.drop_left' h1]
   exact ih
theorem flatK_list {m k : Nat} (enc : Fin (m + 1) → List Value) (hk : ∀ x, (enc x).length = k) (d : Array (Fin (m + 1))) : flatK enc k d = (d.toList.flatMap enc).toArray := by
 have hlen : ∀ l : List (Fin (m + 1)), (l.flatMap enc).length = l.length * k := by
  intro l
  induction l with
  | nil => simp
  | cons a r ih => rw [List.flatMap_cons, List.length_append, hk, ih, List.length_cons, Nat.add_mul]; omega
 have hget : ∀ (l : List (Fin (m + 1))) (j i : Nat) (q : Fin (m + 1)), i < k → l[j]? = some q → (l.flatMap enc)[j * k + i]? = (enc q)[i]? := by
  intro l
  induction l with
  | nil => intro j i q _ h; simp at h
  | cons a r ih =>
   intro j i q hi h
   cases j with
   | zero =>
    simp at h
    subst h
    rw [List.flatMap_cons, Nat.zero_mul, Nat.zero_add, List.getElem?_append_left (by rw [hk]; exact hi)]
   | succ j =>
    simp at h
    rw [List.flatMap_cons, List.getElem?_append_right (by rw [hk, Nat.add_mul]; omega), hk]
    rw [show (j + 1) * k + i - k = j * k + i by rw [Nat.add_mul]; omega]
    exact ih j i q hi h
 refine ext_get! (by simp [hlen]) fun t ht => ?_
 have ht' : t < d.size * k := by simpa using ht
 have k0 : 0 < k := by
  rcases Nat.eq_zero_or_pos k with h | h
  ·subst h; simp at ht'
  ·exact h
 rw [get_flatK _ _ _ t ht']
 have hj : t / k < d.size := Nat.div_lt_of_lt_mul (by rwa [Nat.mul_comm] at ht')
 have hi : t % k < k := Nat.mod_lt _ k0
 have h1 := hget d.toList (t / k) (t % k) d[t / k]! hi (by rw [Array.getElem?_toList, getElem!_pos d _ hj, Array.getElem?_eq_getElem hj])
 rw [Nat.mul_comm, Nat.div_add_mod] at h1
 have h2 : t < (d.toList.flatMap enc).length := by rw [hlen]; simpa using ht'
 have h3 : t % k < (enc d[t / k]!).length := by rw [hk]; exact hi
 rw [List.getElem?_eq_getElem h2, List.getElem?_eq_getElem h3] at h1
 rw [getElem!_pos (enc d[t / k]!) _ h3, getElem!_pos (d.toList.flatMap enc).toArray t (by simpa using h2)]
 simpa using (Option.some.inj h1).symm
theorem map_finRange (n : Nat) : (List.finRange n).map (fun j => j.val) = List.range n := by
 apply List.ext_getElem (by simp)
 intro i h1 h2
 simp
theorem flatI_range {inner : List Value} {k : Nat} : ∀ (n : Nat), n * k ≤ inner.length → flatI inner k (List.range n) = inner.take (n * k)
 | 0, _ => by simp [flatI]
 | n + 1, h => by
  rw [Nat.add_mul, Nat.one_mul] at h
  have ih := flatI_range (inner := inner) (k := k) n (by omega)
  unfold flatI at ih ⊢
  rw [List.range_succ, List.flatMap_append, ih, List.flatMap_singleton]
  unfold chunk
  rw [Nat.add_mul, Nat.one_mul, List.take_add]
theorem flatMap_fin {n : Nat} (f : Nat → List Value) (l : List (Fin n)) : l.flatMap (fun j => f j.val) = (l.map fun j => j.val).flatMap f := by
 induction l with
 | nil => rfl
 | cons a r ih => simp [List.flatMap_cons, ih]
theorem holds_raw {W : World} {g : Nat} {cur : Array Value} {e : TypeId} (F : Array Value) (hb : W.heap[g]? = some (.cells cur e (0, 0))) (ht : cur.toList.take F.size = F.toList) : Holds id W g 0 F := by
 intro j hj
 refine ⟨?_, by simp [World.frozen?, hb]⟩
 have h1 : (cur.toList.take F.size)[j]? = F.toList[j]? := by rw [ht]
 rw [List.getElem?_take_of_lt hj] at h1
 simp only [World.cell?, hb, Nat.zero_add]
 simp only [Option.isSome_none, Bool.false_eq_true, if_false]
 rw [← Array.getElem?_toList, h1, Array.getElem?_toList, Array.getElem?_eq_getElem hj, getElem!_pos F j hj]
 rfl
theorem heap_raw {W : World} {g n : Nat} {os : Array Obj} {cur : Array Value} {e : TypeId} {fr : Nat × Nat} (F : Array Value) (hb : W.heap[g]? = some (.cells cur e fr)) :
  (grow (putRow id (Sort.ahead W n) g 0 F) os).heap[g]? = some (.cells (putCells id 0 F cur) e fr) := by
 have hg : g < W.heap.size := (Array.getElem?_eq_some_iff.1 hb).1
 rw [heap_grow_old _ _ (by simpa using hg)]
 simp [putRow, mapBlock, Sort.ahead, Array.getElem?_modify, hb, onCells]
theorem grownBy_raw {W : World} {g n : Nat} {os : Array Obj} (F : Array Value) : W.grownBy (grow (putRow id (Sort.ahead W n) g 0 F) os) (some g) := by
 refine ⟨rfl, rfl, rfl, by simp, fun k hk hne => ?_⟩
 rw [heap_grow_old _ _ (by simpa using hk)]
 have : g ≠ k := fun e => hne (by rw [e])
 simp [putRow, mapBlock, Sort.ahead, Array.getElem?_modify, this]
theorem take_raw (cur F : Array Value) (h : F.size ≤ cur.size) : (putCells id 0 F cur).toList.take F.size = F.toList := by
 apply List.ext_getElem?
 intro j
 by_cases hj : j < F.size
 ·rw [List.getElem?_take_of_lt hj, Array.getElem?_toList]
  simp [putCells, hj, show j < cur.size by omega]
 ·rw [List.getElem?_take_eq_none (by omega), List.getElem?_eq_none (by simp; omega)]
theorem sortR {α : Type} {d : Kd α} {e base : Nat} {ok : Nat → Prop} {W : World} {g cap : Nat} {xs : List α} {P : Program} {F gf : Nat} {cb : Array Value}
  (hS : SortsK P F d.sz) (HO : d.R e W base ok (.slice (some ⟨g, 0, none⟩) xs.length cap) xs) (hlen : xs.length < 4611686018427387904) (hne : 0 < xs.length) (x0 : α) (cfv : α → α → Int) (hO : SWO (ltOf cfv))
  (hT : ∀ i j, i < xs.length → j < xs.length → ¬ cfv (xs.getD i x0) (xs.getD j x0) < 0 → ¬ cfv (xs.getD j x0) (xs.getD i x0) < 0 → i = j)
  (eg : ∀ args w, (callFunc gf args).run P w = .ok (.enter gf args) w)
  (hcmp : ∀ x y cx cy W', x ∈ xs → y ∈ xs → d.K W' x cx → d.K W' y cy → Calls P gf (#[.agg cx.toArray, .agg cy.toArray] ++ cb) W' fun e w' => e = .returned (.int .i64 (cfv x y)) ∧ Gr W' w') :
  Calls P F #[.slice (some ⟨g, 0, none⟩) xs.length cap, .func (.func gf) #[] cb] W fun e' w' =>
   e' = .returned (.tuple #[]) ∧ d.R e w' base ok (.slice (some ⟨g, 0, none⟩) xs.length cap) (xs.mergeSort fun x y => !(decide (cfv y x < 0))) ∧ W.grownBy w' (some g) := by
 obtain ⟨h0, inner, ho, hr⟩ := HO
 obtain ⟨hil, ho⟩ := ho
 rcases ho with ⟨hx, _⟩ | ⟨g', cap', cur, hv, hbase, hb, hn, hcap, hcs, htk⟩
 ·cases hx
 cases hv
 obtain ⟨m, hm⟩ : ∃ m, xs.length = m + 1 := ⟨xs.length - 1, by omega⟩
 have hgl : g < W.heap.size := (Array.getElem?_eq_some_iff.1 hb).1
 let enc : Fin (m + 1) → List Value := fun j => chunk inner d.sz j.val
 let cf : Fin (m + 1) → Fin (m + 1) → Int := fun i j => cfv (xs.getD i.val x0) (xs.getD j.val x0)
 have hk : ∀ x, (enc x).length = d.sz := fun x => chunk_len hil (by have := x.isLt; omega)
 have hM : ∀ x : Fin (m + 1), d.M W base (fun k => ok k ∧ some k ≠ (Value.slice (some ⟨g, 0, none⟩) xs.length cap).ownBlock) (xs.getD x.val x0) (enc x) := fun x => by
  have hx : x.val < xs.length := by have := x.isLt; omega
  have h1 := hr.2 x.val (xs[x.val]) (List.getElem?_eq_getElem hx)
  rw [List.getD_eq_getElem?_getD, List.getElem?_eq_getElem hx]
  exact h1
 have h1 : ∀ x, ∀ v ∈ enc x, v.oneCell' = true := fun x v hv => d.K_one (d.K_of_M (hM x)) v hv
 have hOc : SWO (ltOf cf) := ⟨fun x => hO.irrefl _, fun x y z => hO.trans _ _ _, fun x y z => hO.ntrans _ _ _⟩
 have hTc : ∀ x y, (ltOf cf) x y = false → (ltOf cf) y x = false → x = y := fun x y hx hy => by
  apply Fin.ext
  refine hT x.val y.val (by have := x.isLt; omega) (by have := y.isLt; omega) ?_ ?_
  ·exact of_decide_eq_false hx
  ·exact of_decide_eq_false hy
 let d0 : Array (Fin (m + 1)) := (List.finRange (m + 1)).toArray
 have hd0 : d0.size = xs.length := by simp [d0, hm]
 have hfl : ∀ l : List (Fin (m + 1)), l.flatMap enc = flatI inner d.sz (l.map fun j => j.val) := fun l => flatMap_fin (chunk inner d.sz) l
 have hF0 : flatK enc d.sz d0 = inner.toArray := by
  rw [flatK_list enc hk, hfl]
  show (flatI inner d.sz ((List.finRange (m + 1)).map fun j => j.val)).toArray = _
  rw [map_finRange, flatI_range (m + 1) (by rw [hil, hm]; exact Nat.le_refl _), List.take_of_length_le (by rw [hil, hm]; exact Nat.le_refl _)]
 have hH : HoldsK enc d.sz W g 0 d0 := by
  unfold HoldsK
  rw [hF0]
  exact holds_raw inner.toArray hb (by rw [List.size_toArray, hil]; exact htk)
 have hblk : ∀ (w1 : World), (∀ k, k < W.heap.size → k ≠ g → w1.heap[k]? = W.heap[k]?) → ∀ x : Fin (m + 1), d.M w1 base (fun k => ok k ∧ some k ≠ (Value.slice (some ⟨g, 0, none⟩) xs.length cap).ownBlock) (xs.getD x.val x0) (enc x) := fun w1 hw1 x =>
  Kd.M_step (hM x) (fun k hk1 hk2 => hw1 k hk2 (fun e1 => hk1.2 (by rw [e1]; rfl)))
 have hsw : ∀ n (os : Array Obj) (dk : Array (Fin (m + 1))), ∀ k, k < W.heap.size → k ≠ g → (sortWorldK enc d.sz W g 0 n dk os).heap[k]? = W.heap[k]? := fun n os dk k hk1 hk2 =>
  (grownBy_raw (n := n) (os := os) (flatK enc d.sz dk)).block k hk1 (fun e1 => hk2 (Option.some.inj e1))
 have hC : CmpLays P gf cb enc d.sz cf g 0 d0.size W := fun n os dk _ x y => by
  have hx : x.val < xs.length := by have := x.isLt; omega
  have hy : y.val < xs.length := by have := y.isLt; omega
  refine (hcmp (xs.getD x.val x0) (xs.getD y.val x0) (enc x) (enc y) _ ?_ ?_ (d.K_of_M (hblk _ (hsw n os dk) x)) (d.K_of_M (hblk _ (hsw n os dk) y))).mono fun e w' h => ⟨h.1, h.2.out⟩
  ·rw [List.getD_eq_getElem?_getD, List.getElem?_eq_getElem hx]; exact List.getElem_mem hx
  ·rw [List.getD_eq_getElem?_getD, List.getElem?_eq_getElem hy]; exact List.getElem_mem hy
 have main := hS m enc hk h1 cf hOc gf cb g 0 cap d0 W eg hC hH hgl (by rw [hd0]; exact hlen) hTc
 rw [hd0] at main
 refine main.mono fun e' w' h => ?_
 obtain ⟨he, n, os, rfl⟩ := h
 refine ⟨he, ?_, grownBy_raw _⟩
 have hsorted : ((d0.toList.mergeSort fun x y => !(ltOf cf) y x).map fun j => xs.getD j.val x0) = xs.mergeSort fun x y => !(decide (cfv y x < 0)) := by
  rw [List.map_mergeSort (s := fun x y => !(decide (cfv y x < 0)))]
  ·congr 1
   apply List.ext_getElem (by simp [d0, hm])
   intro i h1 h2
   simp [d0]
   rw [List.getElem?_eq_getElem h2]
   rfl
  ·intro a _ b _
   rfl
 let d' := d0.toList.mergeSort fun x y => !(ltOf cf) y x
 have hd' : d'.length = xs.length := by simp [d', d0, hm]
 have hle : ∀ j ∈ d'.map (fun j => j.val), j < xs.length := by
  intro j hj
  obtain ⟨q, _, rfl⟩ := List.mem_map.1 hj
  have := q.isLt
  omega
 have hlen' : (xs.mergeSort fun x y => !(decide (cfv y x < 0))).length = xs.length := List.length_mergeSort _
 have hcs2 : (flatK enc d.sz d'.toArray).size ≤ cur.size := by
  rw [size_flatK, hcs, List.size_toArray, hd']
  exact Nat.mul_le_mul_right _ hn
 refine ⟨h0, (flatI inner d.sz (d'.map fun j => j.val)), ?_, ?_⟩
 ·refine ⟨by rw [flatI_len hil _ hle, List.length_map, hd', hlen'], .inr ⟨g, cap, _, by rw [hlen'], hbase, heap_raw _ hb, by rw [hlen']; exact hn, hcap, by simpa [putCells] using hcs, ?_⟩⟩
  have h3 := take_raw cur (flatK enc d.sz d'.toArray) hcs2
  rw [size_flatK, List.size_toArray, hd'] at h3
  rw [hlen', h3, flatK_list enc hk, hfl]
 ·refine ⟨by rw [flatI_len hil _ hle, List.length_map, hd', hlen'], fun i p hp => ?_⟩
  rw [← hsorted] at hp
  rw [List.getElem?_map] at hp
  obtain ⟨q, hq, rfl⟩ := Option.map_eq_some_iff.1 hp
  rw [flatI_chunk hil _ hle i q.val (by rw [List.getElem?_map]; rw [show (d'[i]?) = some q from hq]; rfl)]
  exact hblk _ (hsw n os _) q
theorem zipIdx_sort {α : Type} (xs : List α) (le : α → α → Bool) : ((xs.zipIdx.mergeSort fun p q => le p.1 q.1).map fun p => p.1) = xs.mergeSort le := by
 rw [List.map_mergeSort (s := le)]
 ·rw [List.zipIdx_map_fst]
 ·intro a _ b _; rfl
theorem sortS {α : Type} {d : Kd α} {e base : Nat} {ok : Nat → Prop} {W : World} {g cap : Nat} {xs : List α} {P : Program} {F gf : Nat} {cb : Array Value}
  (hS : SortsK P F d.sz) (HO : Kd.S d e W base ok (.slice (some ⟨g, 0, none⟩) xs.length cap) xs) (hlen : xs.length < 4611686018427387904) (hne : 0 < xs.length) (x0 : α) (cfv : α → α → Int) (hO : SWO (ltOf cfv))
  (hT : ∀ i j, i < xs.length → j < xs.length → ¬ cfv (xs.getD i x0) (xs.getD j x0) < 0 → ¬ cfv (xs.getD j x0) (xs.getD i x0) < 0 → i = j)
  (eg : ∀ args w, (callFunc gf args).run P w = .ok (.enter gf args) w)
  (hcmp : ∀ x y cx cy W', x ∈ xs → y ∈ xs → d.K W' x cx → d.K W' y cy → Calls P gf (#[.agg cx.toArray, .agg cy.toArray] ++ cb) W' fun e w' => e = .returned (.int .i64 (cfv x y)) ∧ Gr W' w') :
  Calls P F #[.slice (some ⟨g, 0, none⟩) xs.length cap, .func (.func gf) #[] cb] W fun e' w' =>
   e' = .returned (.tuple #[]) ∧ Kd.S d e w' base ok (.slice (some ⟨g, 0, none⟩) xs.length cap) (xs.mergeSort fun x y => !(decide (cfv y x < 0))) ∧ W.grownBy w' (some g) := by
 obtain ⟨f, HO⟩ := HO
 have hl : xs.zipIdx.length = xs.length := List.length_zipIdx
 rw [← hl] at HO
 have hgd : ∀ i, i < xs.length → (xs.zipIdx.getD i (x0, 0)) = (xs.getD i x0, i) := fun i hi => by
  rw [List.getD_eq_getElem?_getD, List.getD_eq_getElem?_getD, List.getElem?_zipIdx, List.getElem?_eq_getElem hi]
  simp
 have main := sortR (d := Kd.tag f d) (e := e) (base := base) (ok := ok) (W := W) (g := g) (cap := cap) (xs := xs.zipIdx) (P := P) (F := F) (gf := gf) (cb := cb) hS HO (by rw [hl]; exact hlen) (by rw [hl]; exact hne) (x0, 0) (fun p q => cfv p.1 q.1)
  ⟨fun x => hO.irrefl _, fun x y z => hO.trans _ _ _, fun x y z => hO.ntrans _ _ _⟩
  (fun i j hi hj h1 h2 => by rw [hl] at hi hj; rw [hgd i hi, hgd j hj] at h1 h2; exact hT i j hi hj h1 h2) eg
  (fun x y cx cy W' hx hy kx ky => hcmp x.1 y.1 cx cy W' (List.fst_mem_of_mem_zipIdx hx) (List.fst_mem_of_mem_zipIdx hy) kx ky)
 rw [hl] at main
 refine main.mono fun e' w' h => ⟨h.1, ?_, h.2.2⟩
 obtain ⟨h0, inner, ho, hr⟩ := h.2.1
 have hs := zipIdx_sort xs (fun x y => !(decide (cfv y x < 0)))
 generalize hL : (xs.zipIdx.mergeSort fun p q => !(decide (cfv q.1 p.1 < 0))) = L at ho hr hs
 have hnd : ∀ i j, (hi : i < L.length) → (hj : j < L.length) → (L[i]).2 = (L[j]).2 → i = j := by
  intro i j hi hj hij
  have hp : (L.map fun p => p.2).Perm (xs.zipIdx.map fun p => p.2) := by rw [← hL]; exact (List.mergeSort_perm _ _).map _
  have hn : (L.map fun p => p.2).Nodup := hp.nodup_iff.2 (by rw [List.zipIdx_map_snd]; exact List.nodup_range')
  have h1 := (List.getElem_inj (h₀ := by simpa using hi) (h₁ := by simpa using hj) hn).1 (by simpa using hij)
  exact h1
 have hlL : L.length = (xs.mergeSort fun x y => !(decide (cfv y x < 0))).length := by rw [← hs, List.length_map]
 obtain ⟨f', hf'⟩ := Kd.reps_tag (d := d) (w := w') (base := base) (ok := fun k => ok k ∧ some k ≠ (Value.slice (some ⟨g, 0, none⟩) xs.length cap).ownBlock) (xs := xs.mergeSort fun x y => !(decide (cfv y x < 0))) (inner := inner)
  (fun j k => ((ok k ∧ some k ≠ (Value.slice (some ⟨g, 0, none⟩) xs.length cap).ownBlock) ∧ ∃ hj : j < L.length, f k = (L[j]).2))
  (fun i j k hi hj => by obtain ⟨_, hi, h1⟩ := hi; obtain ⟨_, hj, h2⟩ := hj; exact hnd i j hi hj (h1.symm.trans h2)) (fun j k hk => hk.1)
  (by rw [hr.1, hlL]; rfl)
  (fun j x hx => by
   rw [← hs, List.getElem?_map] at hx
   obtain ⟨q, hq, rfl⟩ := Option.map_eq_some_iff.1 hx
   obtain ⟨hjl, hjq⟩ := List.getElem?_eq_some_iff.1 hq
   refine d.M_mono (fun k hk => ⟨hk.1, hjl, ?_⟩) (hr.2 j q hq)
   rw [hjq]; exact hk.2)
 refine ⟨f', h0, inner, ?_, hf'⟩
 rw [List.length_zipIdx, ← hlL]
 exact ho
end
end Go.Proofs.YtbghfbhlbfcloaaDoor.PL
namespace Go.Proofs
section
set_option linter.unusedVariables false
set_option linter.unusedSimpArgs false
open Go.Shelf
def Tryd.insInt_ren : Go.Shelf.Ren := ⟨fun | 20 => 94 | n => n, fun | 24 => 3 | 22 => 23 | 3 => 3 | 25 => 92 | 4 => 4 | 0 => 0 | n => n, fun | n => n⟩
theorem Tryd.insInt : Go.Proofs.SlLaysF.n20 Tryd.prog Tryd.insInt_ren := {
 mixed := by kernel_rfl
 f20 := ⟨Tryd.f94.name, by decide, Tryd.func94.trans (congrArg some (by kernel_rfl))⟩
 t0 := Tryd.underlying0
 a0 := Tryd.isAgg0
 z0 := Tryd.sizeOf0
 v0 := Tryd.zeroValue0
 t3 := Tryd.underlying3
 a3 := Tryd.isAgg3
 z3 := Tryd.sizeOf3
 v3 := Tryd.zeroValue3
 t4 := Tryd.underlying4
 a4 := Tryd.isAgg4
 z4 := Tryd.sizeOf4
 v4 := Tryd.zeroValue4
 t22 := Tryd.underlying23
 a22 := Tryd.isAgg23
 z22 := Tryd.sizeOf23
 v22 := Tryd.zeroValue23
 a24 := Tryd.isAgg3
 z24 := Tryd.sizeOf3
 t25 := Tryd.underlying92
 a25 := Tryd.isAgg92
 z25 := Tryd.sizeOf92
 v25 := Tryd.zeroValue92 }
end
end Go.Proofs
namespace Go.Proofs.YtbghfbhlbfcloaaDoor.PL
section
open Go.RowKit Go.Sort Go.Proofs Go.Proofs.YtbghfbhlbfcloaaDoorW.PrintWords Go.Proofs.YtbghfbhlbfcloaaDoorW.PrintLast Go.Proofs.YtbghfbhlbfcloaaDoorW.PrintMore
set_option linter.unusedVariables false
set_option linter.unusedSimpArgs false
def keyI (l : List S57) (x : Int) : Int := ((zA6 l x).f1.length : Int)
set_option maxHeartbeats 1000000 in
theorem clo54 (B : Nat) (A : Option Addr) (c : Nat) (l : List S57) (x y : Int) (w W : World) (hr : Kd.C k57 w A l.length l) (hb : Below w.heap.size w W) (hB : W.cell? ⟨B, 0, none⟩ = some (.slice A l.length c)) (hx0 : 0 ≤ x) (hx1 : x < l.length) (hy0 : 0 ≤ y) (hy1 : y < l.length) :
  Calls Tryd.prog 54 #[.int .i64 x, .int .i64 y, .pointer (some ⟨B, 0, none⟩)] W fun e w' => e = .returned (.int .i64 (keyI l x - keyI l y)) ∧ ∃ q, w' = W.drewN q := by
 obtain ⟨ad, A1, c1, rfl, ha0, ha1, hc1, hC1⟩ := zC5 hr x hx0 hx1
 obtain ⟨ad', A2, c2, e, hb0, hb1, hc2, hC2⟩ := zC5 hr y hy0 hy1
 cases e
 have n1 := hC1.2.1
 have n2 := hC2.2.1
 unfold keyI
 replace ha1 := (hb.cell (World.block_lt_of_cell? w _ ha1)).trans ha1
 replace hb1 := (hb.cell (World.block_lt_of_cell? w _ hb1)).trans hb1
 clear ha0 hb0 hC1 hC2 hr hb hc1 hc2
 generalize (zA6 l x).f1.length = p at *
 generalize (zA6 l y).f1.length = q at *
 have hu57 := Tryd.underlying57
 go_enter Tryd.func54, Tryd.ntmps54
 go_wp2
 repeat (go_quiet (fail); try go_wp2)
 go_ret
 exact ⟨by go_num, _, rfl⟩
def encF (m : Nat) (j : Fin (m + 1)) : Value := .int .i64 (j.val : Nat)
def cfF (l : List S57) (m : Nat) (i j : Fin (m + 1)) : Int := keyI l (i.val : Nat) - keyI l (j.val : Nat)
def srtA (l : List S57) (m : Nat) : Array (Fin (m + 1)) := Go.Sort.insertionSort (ltOf (cfF l m)) (List.finRange (m + 1)).toArray 0 (m + 1)
def srt (l : List S57) : List Int := match l.length with
 | 0 => []
 | m + 1 => (srtA l m).toList.map fun j => ((j.val : Nat) : Int)
def rngI (n : Nat) : List Int := (List.range n).map fun i : Nat => (i : Int)
theorem putRow_map {α : Type} [Inhabited α] (enc : α → Value) (W : World) (g : Nat) (d : Array α) : putRow enc W g 0 d = putRow id W g 0 (d.map enc) := by
 unfold putRow
 congr 1
 unfold putCells
 funext c
 congr 1
 funext k x
 by_cases h : 0 ≤ k ∧ k < 0 + d.size
 ·rw [if_pos h, if_pos (by simpa using h)]
  rw [getElem!_pos _ _ (by omega), getElem!_pos _ _ (by simpa using h)]
  simp
 ·rw [if_neg h, if_neg (by simpa using h)]
theorem sorted_world {m : Nat} (W : World) (g n : Nat) (D : Array (Fin (m + 1))) : (putRow (encF m) W g 0 D).drewN n = grow (putRow id (Go.Sort.ahead W n) g 0 (D.map (encF m))) #[] := by
 rw [← sortWorld_none]
 unfold sortWorld
 rw [putRow_map]
theorem rng_fin (m : Nat) : (List.finRange (m + 1)).map (fun j => ((j.val : Nat) : Int)) = rngI (m + 1) := by
 unfold rngI
 rw [← map_finRange, List.map_map]
 rfl
theorem row_fin {base : Nat} {ok : Nat → Prop} {W : World} {g cap m : Nat} (HO : Kd.R (Kd.int .i64) 3 W base ok (.slice (some ⟨g, 0, none⟩) (m + 1) cap) (rngI (m + 1))) :
  Holds (encF m) W g 0 (List.finRange (m + 1)).toArray ∧ g < W.heap.size ∧ base ≤ g ∧ ∀ (D : Array (Fin (m + 1))) (n : Nat), D.size = m + 1 →
   Kd.R (Kd.int .i64) 3 ((putRow (encF m) W g 0 D).drewN n) base ok (.slice (some ⟨g, 0, none⟩) (m + 1) cap) (D.toList.map fun j => ((j.val : Nat) : Int)) ∧ W.grownBy ((putRow (encF m) W g 0 D).drewN n) (some g) := by
 have hrl : (rngI (m + 1)).length = m + 1 := by unfold rngI; simp
 obtain ⟨h0, inner, ho, hr⟩ := HO
 obtain ⟨hil, ho⟩ := ho
 rcases ho with ⟨hx, _⟩ | ⟨g', cap', cur, hv, hbase, hb, hn, hcap, hcs, htk⟩
 ·cases hx
 rw [hrl] at hv
 cases hv
 rw [hrl] at hil hn htk
 have hgl : g < W.heap.size := (Array.getElem?_eq_some_iff.1 hb).1
 have hsz : (Kd.int .i64).sz = 1 := rfl
 rw [hsz, Nat.mul_one] at hil htk
 rw [hsz, Nat.mul_one] at hcs
 have hin : inner = (List.finRange (m + 1)).map (encF m) := by
  apply List.ext_getElem (by simp [hil])
  intro i h1 h2
  have hi : i < m + 1 := by omega
  have h3 := hr.2 i (i : Int) (by unfold rngI; simp [List.getElem?_range hi])
  rw [hsz, Nat.mul_one] at h3
  have h4 : (inner.drop i).take 1 = [Value.int .i64 (i : Int)] := h3
  rw [List.drop_eq_getElem_cons h1, List.take_succ_cons, List.take_zero] at h4
  injection h4 with h4 _
  rw [h4]
  simp [encF]
 refine ⟨?_, hgl, hbase, fun D n hD => ?_⟩
 ·intro j hj
  have hj' : j < m + 1 := by simpa using hj
  have hF : Holds id W g 0 inner.toArray := holds_raw inner.toArray hb (by rw [List.size_toArray, hil]; exact htk)
  obtain ⟨h1, h2⟩ := hF j (by simp; omega)
  refine ⟨?_, h2⟩
  rw [h1]
  congr 1
  rw [getElem!_pos inner.toArray j (by simp; omega), getElem!_pos (List.finRange (m + 1)).toArray j hj]
  simp [hin]
 ·rw [sorted_world]
  refine ⟨?_, grownBy_raw _⟩
  have hDs : (D.map (encF m)).size = m + 1 := by simp [hD]
  have hlD : (D.toList.map fun j => ((j.val : Nat) : Int)).length = m + 1 := by simp [hD]
  refine ⟨h0, (D.map (encF m)).toList, ⟨by rw [hlD, hsz]; simp [hD], .inr ⟨g, cap, _, by rw [hlD], hbase, heap_raw _ hb, by rw [hlD]; exact hn, hcap, by rw [hsz, Nat.mul_one]; simpa [putCells] using hcs, ?_⟩⟩, ?_⟩
  ·have h3 := take_raw cur (D.map (encF m)) (by omega)
   rw [hDs] at h3
   rw [hlD, hsz, Nat.mul_one]
   exact h3
  ·refine ⟨by rw [hlD, hsz]; simp [hD], fun i p hp => ?_⟩
   rw [List.getElem?_map] at hp
   obtain ⟨q, hq, rfl⟩ := Option.map_eq_some_iff.1 hp
   rw [hsz, Nat.mul_one]
   show ((D.map (encF m)).toList.drop i).take 1 = [Value.int .i64 (q.val : Nat)]
   have hiD : i < D.toList.length := (List.getElem?_eq_some_iff.1 hq).1
   have hqe : D.toList[i] = q := (List.getElem?_eq_some_iff.1 hq).2
   rw [Array.toList_map, List.drop_eq_getElem_cons (by simpa using hiD), List.take_succ_cons, List.take_zero, List.getElem_map, hqe]
   rfl
theorem ins94 {l : List S57} {m : Nat} (hm : l.length = m + 1) (hlen : m < 1000) {w W : World} {g cap B c : Nat} {A : Option Addr} (hr : Kd.C k57 w A l.length l) (hb : Below w.heap.size w W) (hg0 : w.heap.size ≤ g) (hBg : B ≠ g) (hBK : W.heap[B]? = some (.cells #[.slice A l.length c] 52 (0, 0)))
  (hH : Holds (encF m) W g 0 (List.finRange (m + 1)).toArray) (hgl : g < W.heap.size) :
  Calls Tryd.prog 94 #[.slice (some ⟨g, 0, none⟩) ((m + 1 : Nat)) cap, .int .i64 0, .int .i64 ((m + 1 : Nat) : Int), .func (.func 54) #[] #[.pointer (some ⟨B, 0, none⟩)]] W fun e w' => e = .returned (.tuple #[]) ∧ ∃ n, w' = (putRow (encF m) W g 0 (srtA l m)).drewN n := by
 have hsz : (List.finRange (m + 1)).toArray.size = m + 1 := by simp
 have hBl : B < W.heap.size := (Array.getElem?_eq_some_iff.1 hBK).1
 have hcmp : CmpReads Tryd.prog 54 #[.pointer (some ⟨B, 0, none⟩)] (encF m) (cfF l m) g 0 (List.finRange (m + 1)).toArray.size W := fun n os dk _ x y => by
  have hgr : W.grownBy (sortWorld (encF m) W g 0 n dk os) (some g) := by
   unfold sortWorld
   rw [putRow_map]
   exact grownBy_raw _
  have hbl : Below w.heap.size W (sortWorld (encF m) W g 0 n dk os) := ⟨hgr.os, hgr.tape, hgr.output, hgr.size, fun k hk => hgr.block k (by omega) (fun e => by injection e; omega)⟩
  have hx := x.isLt
  have hy := y.isLt
  refine clo54 B A c l ((x.val : Nat) : Int) ((y.val : Nat) : Int) w _ hr (hb.trans hbl) ?_ (by omega) (by omega) (by omega) (by omega)
  have h1 : (sortWorld (encF m) W g 0 n dk os).heap[B]? = some (.cells #[.slice A l.length c] 52 (0, 0)) := (hgr.block B hBl (fun e => by injection e with e; exact hBg e)).trans hBK
  exact (zA9 h1 0).trans rfl
 have main := Any.insertionSortCmpFunc_one Tryd.insInt (encF m) (fun _ => rfl) (cfF l m) 54 #[.pointer (some ⟨B, 0, none⟩)] g 0 cap 0 (m + 1) (List.finRange (m + 1)).toArray W (enters_of Tryd.func54 (by kernel_rfl) rfl) hcmp hH (Nat.zero_le _) (by rw [hsz]; exact Nat.le_refl _) (by rw [hsz]; omega)
 rw [hsz] at main
 exact main
set_option maxHeartbeats 1000000 in
theorem st74 {l : List S57} {m : Nat} (hm : l.length = m + 1) (hlen : m < 12) {w W : World} {g cap B c : Nat} {A : Option Addr} (hr : Kd.C k57 w A l.length l) (hb : Below w.heap.size w W) (hg0 : w.heap.size ≤ g) (hBg : B ≠ g) (hBK : W.heap[B]? = some (.cells #[.slice A l.length c] 52 (0, 0)))
  (hH : Holds (encF m) W g 0 (List.finRange (m + 1)).toArray) (hgl : g < W.heap.size) :
  Calls Tryd.prog 74 #[.slice (some ⟨g, 0, none⟩) ((m + 1 : Nat)) cap, .int .i64 ((m + 1 : Nat) : Int), .func (.func 54) #[] #[.pointer (some ⟨B, 0, none⟩)]] W fun e w' => e = .returned (.tuple #[]) ∧ ∃ n, w' = (putRow (encF m) W g 0 (srtA l m)).drewN n := by
 have HC := zA1.mk (ins94 (cap := cap) hm (by omega) hr hb hg0 hBg hBK hH hgl)
 clear hr hb hg0 hBg hBK hH hgl
 have h20 : ((m + 1 : Nat) : Int) < 20 := by omega
 generalize ((m + 1 : Nat) : Int) = N at HC h20
 go_enter Tryd.func74, Tryd.ntmps74
 go_wp2
 go_loopw [7, 8] (fun v7 v8 wr => v7 = .int .i64 0 ∧ v8 = .int .i64 20 ∧ wr = W) (fun _ _ _ => 0)
 case atStart => exact ⟨rfl, rfl, rfl⟩
 case round =>
  obtain ⟨rfl, rfl, rfl⟩ := hrel
  go_wp2_with (go_at_call 94; refine HC.out.mono ?_; rintro e w' ⟨rfl, hw⟩)
  generalize hW2 : w' = W2 at hw ⊢
  clear hW2
  go_loopw [6] (fun v6 wx => v6 = .int .i64 20 ∧ wx = W2) (fun _ _ => 0)
  case atStart => exact ⟨rfl, rfl⟩
  case round =>
   obtain ⟨rfl, rfl⟩ := hrel
   go_wp2
   go_end0
   exact ⟨rfl, hw⟩
theorem st53 {l : List S57} {m : Nat} (hm : l.length = m + 1) (hlen : m < 12) {w W : World} {g cap B c : Nat} {A : Option Addr} (hr : Kd.C k57 w A l.length l) (hb : Below w.heap.size w W) (hg0 : w.heap.size ≤ g) (hBg : B ≠ g) (hBK : W.heap[B]? = some (.cells #[.slice A l.length c] 52 (0, 0)))
  (hH : Holds (encF m) W g 0 (List.finRange (m + 1)).toArray) (hgl : g < W.heap.size) :
  Calls Tryd.prog 53 #[.slice (some ⟨g, 0, none⟩) ((m + 1 : Nat)) cap, .func (.func 54) #[] #[.pointer (some ⟨B, 0, none⟩)]] W fun e w' => e = .returned (.tuple #[]) ∧ ∃ n, w' = (putRow (encF m) W g 0 (srtA l m)).drewN n := by
 have HC := zA1.mk (st74 (cap := cap) hm hlen hr hb hg0 hBg hBK hH hgl)
 clear hr hb hg0 hBg hBK hH hgl
 go_enter Tryd.func53, Tryd.ntmps53
 go_wp2_with (go_at_call 74; refine HC.out.mono ?_; rintro e w' ⟨rfl, hw⟩)
 go_end0
 exact ⟨rfl, hw⟩
set_option maxHeartbeats 1000000 in
theorem ins94n (p : Option Addr) (cap : Nat) (fv : Value) (W : World) : Calls Tryd.prog 94 #[.slice p 0 cap, .int .i64 0, .int .i64 0, fv] W fun e w' => e = .returned (.tuple #[]) ∧ w' = W := by
 go_enter Tryd.func94, Tryd.ntmps94
 go_wp2
 go_loopw [8] (fun v8 wx => v8 = .int .i64 1 ∧ wx = W) (fun _ _ => 0)
 case atStart => exact ⟨rfl, rfl⟩
 case round =>
  obtain ⟨rfl, rfl⟩ := hrel
  go_wp2
  go_end0
  exact ⟨rfl, rfl⟩
set_option maxHeartbeats 1000000 in
theorem st74n (p : Option Addr) (cap : Nat) (fv : Value) (W : World) : Calls Tryd.prog 74 #[.slice p 0 cap, .int .i64 0, fv] W fun e w' => e = .returned (.tuple #[]) ∧ w' = W := by
 go_enter Tryd.func74, Tryd.ntmps74
 go_wp2
 go_loopw [7, 8] (fun v7 v8 wr => v7 = .int .i64 0 ∧ v8 = .int .i64 20 ∧ wr = W) (fun _ _ _ => 0)
 case atStart => exact ⟨rfl, rfl, rfl⟩
 case round =>
  obtain ⟨rfl, rfl, rfl⟩ := hrel
  go_wp2_with (go_at_call 94; refine (ins94n p cap fv _).mono ?_; rintro e w' ⟨rfl, rfl⟩)
  go_loopw [6] (fun v6 wx => v6 = .int .i64 20 ∧ wx = w') (fun _ _ => 0)
  case atStart => exact ⟨rfl, rfl⟩
  case round =>
   obtain ⟨rfl, rfl⟩ := hrel
   go_wp2
   go_end0
   exact ⟨rfl, rfl⟩
theorem st53n (p : Option Addr) (cap : Nat) (fv : Value) (W : World) : Calls Tryd.prog 53 #[.slice p 0 cap, fv] W fun e w' => e = .returned (.tuple #[]) ∧ w' = W := by
 go_enter Tryd.func53, Tryd.ntmps53
 go_wp2_with (go_at_call 74; refine (st74n p cap fv _).mono ?_; rintro e w' ⟨rfl, rfl⟩)
 go_end0
 exact ⟨rfl, rfl⟩
end
end Go.Proofs.YtbghfbhlbfcloaaDoor.PL
namespace Go.Proofs.YtbghfbhlbfcloaaDoor.PL
section
open Go.RowKit Go.Proofs.YtbghfbhlbfcloaaDoorW.PrintWords Go.Proofs.YtbghfbhlbfcloaaDoorW.PrintLast Go.Proofs.YtbghfbhlbfcloaaDoorW.PrintMore
set_option linter.unusedVariables false
set_option linter.unusedSimpArgs false
def OD.f (l : List S57) (n : Int) : Option (List Int × Int) := (CG.f l n).bind fun t => if t = 0 then (if l.length ≤ 12 then some (srt l, 0) else none) else some ([], t)
theorem rngI_succ (i : Nat) : rngI i ++ [(i : Int)] = rngI (i + 1) := by
 unfold rngI
 rw [List.range_succ, List.map_append]
 rfl
theorem rngI_len (i : Nat) : (rngI i).length = i := by unfold rngI; simp
theorem srt_nil {l : List S57} (h : l.length = 0) : srt l = [] := by unfold srt; rw [h]
theorem srt_cons {l : List S57} {m : Nat} (h : l.length = m + 1) : srt l = (srtA l m).toList.map fun j => ((j.val : Nat) : Int) := by unfold srt; rw [h]
theorem insInner_size {α : Type} [Inhabited α] (lt : α → α → Bool) (a : Nat) : ∀ (j : Nat) (d : Array α), (Go.Sort.insInner lt a j d).size = d.size
 | 0, d => rfl
 | j + 1, d => by
  unfold Go.Sort.insInner
  split
  ·rw [insInner_size lt a j]
   simp [Go.Sort.swp]
  ·rfl
theorem insOuter_size {α : Type} [Inhabited α] (lt : α → α → Bool) (a b : Nat) : ∀ (n i : Nat) (d : Array α), b - i = n → (Go.Sort.insOuter lt a b i d).size = d.size
 | 0, i, d, h => by rw [Go.Sort.insOuter, if_neg (by omega)]
 | n + 1, i, d, h => by
  rw [Go.Sort.insOuter, if_pos (by omega), insOuter_size lt a b n (i + 1) _ (by omega), insInner_size]
theorem srtA_size (l : List S57) (m : Nat) : (srtA l m).size = m + 1 := by
 unfold srtA Go.Sort.insertionSort
 rw [insOuter_size _ _ _ _ _ _ rfl]
 simp
theorem row_open {base : Nat} {ok : Nat → Prop} {W : World} {v : Value} {m : Nat} (HO : Kd.R (Kd.int .i64) 3 W base ok v (rngI (m + 1))) : ∃ g cap, v = .slice (some ⟨g, 0, none⟩) (m + 1) cap := by
 obtain ⟨_, inner, ⟨_, ho⟩, _⟩ := HO
 rw [rngI_len] at ho
 rcases ho with ⟨_, h⟩ | ⟨g, cap, cur, hv, _⟩
 ·omega
 ·exact ⟨g, cap, hv⟩
set_option maxHeartbeats 8000000 in
set_option maxRecDepth 100000 in
theorem OD.calls (A0 : Option Addr) (c0 : Nat) (l0 : List S57) (a1 : Int) (r1 : List Int) (r2 : Int) (w : World) (hr0 : Kd.C k57 w A0 l0.length l0) (hc0 : l0.length ≤ c0) (h : OD.f l0 a1 = some (r1, r2)) :
  Calls Tryd.prog 27 #[.slice A0 l0.length c0, .int .i64 a1] w fun e w' => ∃ v0_ : Value, e = .returned (.tuple #[v0_, .int .i64 r2]) ∧ Kd.R (Kd.int .i64) 3 w' w.heap.size (fun _ => True) v0_ r1 ∧ Below w.heap.size w w' := by
 have HR0 := zA1.mk hr0
 have HC0 := zA1.mk hc0
 clear hr0 hc0
 unfold OD.f at h
 obtain ⟨t148, A30, H⟩ := Option.bind_eq_some_iff.mp h
 clear h
 have A3 := zA1.mk A30
 clear A30
 have HB := zA1.mk (Below.refl w.heap.size w)
 by_cases c4 : t148 = 0
 ·rw [if_pos c4] at H
  by_cases c12 : l0.length ≤ 12
  rotate_left
  ·rw [if_neg c12] at H
   cases H
  rw [if_pos c12] at H
  simp only [Option.some.injEq, Prod.mk.injEq] at H
  obtain ⟨rfl, rfl⟩ := H
  have HL := zA1.mk c12
  clear c12
  have c4b0 : (t148 == 0) = true := beq_iff_eq.mpr c4
  have c4b1 : (t148 != 0) = false := bne_eq_false_iff_eq.mpr c4
  clear c4
  go_enter Tryd.func27, Tryd.ntmps27
  go_wp2_with (first | ((with_reducible refine zBl (N := 2) rfl ?_); refine zBp ?hg (N := 2) ?hd (cs := #[.slice A0 l0.length c0]) (t := 52) ?hr ?_; (case hd => rfl); (case hg => rfl); (case hr => first | (go_simp; done) | (go_simp; rfl)); intro gb hg w8 hbox hb; have n0_ := zA1.mk (zAm (by repeat (first | (with_reducible first | exact HB.out | apply zA2 | apply zA0 | apply zA3) | exact HB.out)) hb); have n1_ := zA1.mk (hbox); have n2_ := zA1.mk ((by rw [hg]; exact (zAc (by repeat (first | (with_reducible first | exact HB.out | apply zA2 | apply zA0 | apply zA3) | exact HB.out))) : w.heap.size ≤ gb)); clear HB; have HB := n0_; have BK := n1_; have GE := n2_; clear n0_ n1_ n2_; clear hb hbox hg; have hcz : w8.cell? ⟨gb, 0, none⟩ = some (.slice A0 l0.length c0) := (zA9 BK.out 0).trans rfl; have hfz := zAh BK.out 0) | (go_at_call 29; (with_reducible refine (CG.calls _ _ l0 a1 t148 _ ?side1 ?side2 A3.out).mono ?_); (case side1 => repeat (first | exact (Kd.zAy HR0.out HB.out) | (with_reducible refine Kd.zA8 ?_ _) | (with_reducible refine Kd.zAd ?_ _) | (with_reducible refine Kd.zAp ?_))); (case side2 => exact HC0.out); rintro e w5 ⟨rfl, hb⟩; have n0_ := zA1.mk (zAm (by repeat (first | (with_reducible first | exact HB.out | apply zA2 | apply zA0 | apply zA3) | exact HB.out)) hb); have n1_ := zA1.mk (zBc (g := gb) (o := .cells #[.slice A0 l0.length c0] 52 (0, 0)) (by (with_reducible repeat (first | refine zAb ?_ _ | refine zAf ?_ | refine zAa ?_ _)); exact BK.out) hb); clear HB; clear BK; have HB := n0_; have BK := n1_; clear n0_ n1_; clear hb; have hcz5 : w5.cell? ⟨gb, 0, none⟩ = some (.slice A0 l0.length c0) := (zA9 BK.out 0).trans rfl; have hfz5 := zAh BK.out 0))
  go_loopw [7, 17] (fun v7 v17 wr => ∃ x : Nat, v17 = .int .i64 (x : Int) ∧ x ≤ l0.length ∧ zA1 (Kd.R (Kd.int .i64) 3 wr w.heap.size (fun k_ => k_ ≠ gb) v7 (rngI x)) ∧ zA1 (wr.heap[gb]? = some (.cells #[.slice A0 l0.length c0] 52 (0, 0))) ∧ zA1 (Below w.heap.size w wr)) (fun _ v17 _ => l0.length - (intOf v17).toNat)
  case atStart => exact ⟨0, rfl, Nat.zero_le _, ⟨Kd.R_nil _ _ _ _ _⟩, ⟨by (with_reducible repeat (first | refine zAb ?_ _ | refine zAf ?_ | refine zAa ?_ _)); exact BK.out⟩, ⟨by repeat (first | (with_reducible first | exact HB.out | apply zA2 | apply zA0 | apply zA3) | exact HB.out)⟩⟩
  case round =>
   clear hcz hfz hcz5 hfz5 BK HB
   obtain ⟨x, rfl, hxl, HO7, BK, HB⟩ := hrel
   have hle : l0.length ≤ 12 := HL.out
   by_cases hlt : x < l0.length
   ·have hb0 : decide ((x : Int) < (l0.length : Int)) = true := decide_eq_true (by omega)
    have HSN := zA1.mk (rngI_succ x)
    have HLN := zA1.mk (rngI_len x)
    go_wp2_with (first | ((with_reducible refine zC1 (b := .append) (xs := #[.tmp 20, .tmp 22]) rfl ?_); at_builtin; refine Kd.R_append (Kd.int .i64) (w0 := w) w.heap.size rfl (.tmp 20) (.tmp 22) 23 3 (.int .i64 0) 8 rfl Tryd.underlying23 info3 rfl (by decide) (by omega) u7 (rngI x) (x : Int) [.int .i64 (x : Int)] (fun k_ => k_ ≠ gb) (fun _ => False) rfl rfl ?aP (fun _ hk => hk.elim) ?aF ?aO ?aB ?aS ?aL ?_; (case aP => exact rfl); (case aB => exact (by repeat (first | (with_reducible first | exact HB.out | apply zA2 | apply zA0 | apply zA3) | exact HB.out))); (case aF => exact (fun k hk e => by have := blk_lt BK.out; omega)); (case aO => exact (by (with_reducible repeat (first | apply Kd.zAk | apply Kd.zAj | apply Kd.zAt)); exact HO7.out)); (case aS => exact (zAc (by repeat (first | (with_reducible first | exact HB.out | apply zA2 | apply zA0 | apply zA3) | exact HB.out)))); (case aL => rw [HLN.out]; omega); intro v150 w8 ho hb hg hat; rw [HSN.out] at ho; have n0_ := zA1.mk hb; have n1_ := zA1.mk ho; have n2_ := zA1.mk (blk_grown (by (with_reducible repeat (first | refine zAb ?_ _ | refine zAf ?_ | refine zAa ?_ _)); exact BK.out) hg (fun e => HO7.out.1 gb e.symm rfl)); clear HB HO7 BK; have HB := n0_; have HO7 := n1_; have BK := n2_; clear n0_ n1_ n2_; clear ho hb hg hat))
    go_roundw
    case rel => exact ⟨x + 1, by go_num, by omega, ⟨by (with_reducible repeat (first | apply Kd.zAk | apply Kd.zAj | apply Kd.zAt)); exact HO7.out⟩, ⟨by (with_reducible repeat (first | refine zAb ?_ _ | refine zAf ?_ | refine zAa ?_ _)); exact BK.out⟩, ⟨by repeat (first | (with_reducible first | exact HB.out | apply zA2 | apply zA0 | apply zA3) | exact HB.out)⟩⟩
    case measure => simp [intOf]; omega
   ·obtain rfl : x = l0.length := by omega
    have hb0 : decide (((l0.length : Nat) : Int) < (l0.length : Int)) = false := decide_eq_false (by omega)
    have hcz : wr.cell? ⟨gb, 0, none⟩ = some (.slice A0 l0.length c0) := (zA9 BK.out 0).trans rfl
    have hfz := zAh BK.out 0
    cases hln : l0.length with
    | zero =>
     obtain ⟨Ao, co, rfl⟩ := Kd.zCe HO7.out
     have e0 : (rngI l0.length).length = 0 := by rw [hln]; rfl
     rw [e0] at HO7 ⊢
     have HR := zA1.mk (show Kd.R (Kd.int .i64) 3 wr w.heap.size (fun _ => True) (.slice Ao 0 co) (srt l0) by
      rw [srt_nil hln]
      have h := HO7.out
      rw [hln] at h
      exact Kd.zCc h (fun _ _ => trivial))
     clear HO7 e0
     go_wp2_with (go_at_call 53; refine (st53n _ _ _ _).mono ?_; rintro e w' ⟨rfl, rfl⟩)
     go_ret2
     exact ⟨_, rfl, by (with_reducible repeat (first | apply Kd.zAk | apply Kd.zAj | apply Kd.zAt)); exact HR.out, by repeat (first | (with_reducible first | exact HB.out | apply zA2 | apply zA0 | apply zA3) | exact HB.out)⟩
    | succ m =>
     have h7 := HO7.out
     rw [hln] at h7
     obtain ⟨g, cap, rfl⟩ := row_open h7
     obtain ⟨hH, hgl, hgb, hfin⟩ := row_fin h7
     have hne : gb ≠ g := fun e => h7.1 g rfl e.symm
     have HS := zA1.mk (st53 (cap := cap) hln (by omega) HR0.out HB.out hgb hne BK.out hH hgl)
     have HF := zA1.mk (hfin (srtA l0 m))
     have HZ := zA1.mk (srtA_size l0 m)
     have HE := zA1.mk (srt_cons hln)
     clear h7 hH hgl hfin HO7
     go_wp2_with (go_at_call 53; refine HS.out.mono ?_; rintro e w' ⟨rfl, hw⟩)
     go_ret2
     obtain ⟨n, rfl⟩ := hw
     obtain ⟨hR, hG⟩ := HF.out n HZ.out
     exact ⟨_, rfl, by rw [HE.out]; exact Kd.zCc hR (fun _ _ => trivial), HB.out.trans ⟨hG.os, hG.tape, hG.output, hG.size, fun k hk => hG.block k (by have := HB.out.size; omega) (fun e => by injection e with e; omega)⟩⟩
 ·rw [if_neg c4] at H
  have c4b0 : (t148 == 0) = false := beq_eq_false_iff_ne.mpr c4
  have c4b1 : (t148 != 0) = true := bne_iff_ne.mpr c4
  simp only [Option.some.injEq, Prod.mk.injEq] at H
  obtain ⟨rfl, rfl⟩ := H
  go_enter Tryd.func27, Tryd.ntmps27
  go_wp2_with (first | ((with_reducible refine zBl (N := 2) rfl ?_); refine zBp ?hg (N := 2) ?hd (cs := #[.slice A0 l0.length c0]) (t := 52) ?hr ?_; (case hd => rfl); (case hg => rfl); (case hr => first | (go_simp; done) | (go_simp; rfl)); intro gb hg w8 hbox hb; have n0_ := zA1.mk (zAm (by repeat (first | (with_reducible first | exact HB.out | apply zA2 | apply zA0 | apply zA3) | exact HB.out)) hb); have n1_ := zA1.mk (hbox); have n2_ := zA1.mk ((by rw [hg]; exact (zAc (by repeat (first | (with_reducible first | exact HB.out | apply zA2 | apply zA0 | apply zA3) | exact HB.out))) : w.heap.size ≤ gb)); clear HB; have HB := n0_; have BK := n1_; have GE := n2_; clear n0_ n1_ n2_; clear hb hbox hg; have hcz : w8.cell? ⟨gb, 0, none⟩ = some (.slice A0 l0.length c0) := (zA9 BK.out 0).trans rfl; have hfz := zAh BK.out 0) | (go_at_call 29; (with_reducible refine (CG.calls _ _ l0 a1 t148 _ ?side1 ?side2 A3.out).mono ?_); (case side1 => repeat (first | exact (Kd.zAy HR0.out HB.out) | (with_reducible refine Kd.zA8 ?_ _) | (with_reducible refine Kd.zAd ?_ _) | (with_reducible refine Kd.zAp ?_))); (case side2 => exact HC0.out); rintro e w5 ⟨rfl, hb⟩; have n0_ := zA1.mk (zAm (by repeat (first | (with_reducible first | exact HB.out | apply zA2 | apply zA0 | apply zA3) | exact HB.out)) hb); have n1_ := zA1.mk (zBc (g := gb) (o := .cells #[.slice A0 l0.length c0] 52 (0, 0)) (by (with_reducible repeat (first | refine zAb ?_ _ | refine zAf ?_ | refine zAa ?_ _)); exact BK.out) hb); clear HB; clear BK; have HB := n0_; have BK := n1_; clear n0_ n1_; clear hb; have hcz5 : w5.cell? ⟨gb, 0, none⟩ = some (.slice A0 l0.length c0) := (zA9 BK.out 0).trans rfl; have hfz5 := zAh BK.out 0))
  go_ret2
  exact ⟨_, rfl, Kd.R_nil _ _ _ _ _, by repeat (first | (with_reducible first | exact HB.out | apply zA2 | apply zA0 | apply zA3) | exact HB.out)⟩
end
end Go.Proofs.YtbghfbhlbfcloaaDoor.PL
namespace Go.Proofs.YtbghfbhlbfcloaaDoor.PL
section
open Go.RowKit Go.Proofs.YtbghfbhlbfcloaaDoorW.PrintWords Go.Proofs.YtbghfbhlbfcloaaDoorW.PrintLast Go.Proofs.YtbghfbhlbfcloaaDoorW.PrintMore
attribute [local go_sem] zBw zBu zC7 zC6 zBo zBn zBv zBt   -- for this text's walks alone
set_option linter.unusedVariables false
set_option linter.unusedSimpArgs false
attribute [local go_sem high] eqA68
def zBs.l0 : Nat → List (S68) → Int → Int → Int → Int → Option (Int)
 | 0, _, _, _, _, _ => none
 | k + 1, x0, x7, x8, x137000, x137001 => if x8 < x7 then (if 0 ≤ x8 then (if x8 < (x0.length : Int) then (if (x137000 == ((zB4 x0 x8).f0) && (x137001 == ((zB4 x0 x8).f1))) = true then (some x8) else (zBs.l0 k x0 x7 (wrap64 (x8 + 1)) x137000 x137001)) else (none)) else (none)) else (some (-1))
def zBs.f (k : Nat) (l0 : List (S68)) (a1_0 : Int) (a1_1 : Int) : Option (Int) := zBs.l0 k l0 (l0.length : Int) 0 a1_0 a1_1
theorem zBs.zBq : ∀ k, (∀ y0 y1 y2 y3 y4, LeO (zBs.l0 k y0 y1 y2 y3 y4) (zBs.l0 (k + 1) y0 y1 y2 y3 y4))
 | 0 => fun _ _ _ _ _ r h => by simp [zBs.l0] at h
 | k + 1 => by
  have ih0 := zBs.zBq k
  ·intro y0 y1 y2 y3 y4
   unfold zBs.l0
   repeat' first
   | (with_reducible exact ih0 _ _ _ _ _)
   | (with_reducible exact LeO.refl _)
   | (with_reducible exact LeO.none _)
   | (with_reducible refine LeO.ite ?_ ?_)
   | (with_reducible refine LeO.bind ?_ (fun _ => ?_))
theorem zBs.mono : ∀ a0 a1 a2 k, LeO (zBs.f k a0 a1 a2) (zBs.f (k + 1) a0 a1 a2) := by
 intro a0 a1 a2 k
 have ih0 := zBs.zBq k
 unfold zBs.f
 repeat' first
   | (with_reducible exact ih0 _ _ _ _ _)
   | (with_reducible exact LeO.refl _)
   | (with_reducible exact LeO.none _)
   | (with_reducible refine LeO.ite ?_ ?_)
   | (with_reducible refine LeO.bind ?_ (fun _ => ?_))
set_option maxHeartbeats 8000000 in
set_option maxRecDepth 100000 in
theorem zBs.calls (k : Nat) (A0 : Option Addr) (c0 : Nat) (l0 : List (S68)) (a1_0 : Int) (a1_1 : Int) (r : Int) (w : World) (hr0 : Kd.C k68 w A0 l0.length l0) (hc0 : l0.length ≤ c0) (h : zBs.f k l0 a1_0 a1_1 = some r) :
  Calls Tryd.prog 93 #[.slice A0 l0.length c0, .agg #[.int .i64 a1_0, .int .i64 a1_1]] w fun e w' => e = .returned (.int .i64 r) ∧ Below w.heap.size w w' := by
 have hu68 := Tryd.underlying68
 have HR0 := zA1.mk hr0
 have HC0 := zA1.mk hc0
 clear hr0 hc0
 have HB := zA1.mk (Below.refl w.heap.size w)
 have H : (zBs.l0 k l0 (l0.length : Int) 0 a1_0 a1_1) = some r := h
 clear h
 have H' := zA1.mk H
 clear H
 go_enter Tryd.func93, Tryd.ntmps93
 go_wp2_with (first | ((with_reducible refine zBl (N := 3) rfl ?_); refine zBp ?hg (N := 3) ?hd (cs := #[.int .i64 a1_0, .int .i64 a1_1]) (t := 68) ?hr ?_; (case hd => rfl); (case hg => rfl); (case hr => first | (go_simp; done) | (go_simp; rfl)); intro gb136 hg w3 hbox hb; have n0_ := zA1.mk (zAm (by repeat (first | (with_reducible first | exact HB.out | apply zA2 | apply zA0 | apply zA3) | exact HB.out)) hb); have n1_ := zA1.mk (hbox); have n2_ := zA1.mk ((by rw [hg]; exact (zAc (by repeat (first | (with_reducible first | exact HB.out | apply zA2 | apply zA0 | apply zA3) | exact HB.out))) : w.heap.size ≤ gb136)); have n3_ := zA1.mk ((by rw [hg]; exact (zAc (by repeat (first | (with_reducible first | exact HB.out | apply zA2 | apply zA0 | apply zA3) | exact HB.out))) : w.heap.size ≤ gb136)); clear HB; have HB := n0_; have BK136 := n1_; have GW136 := n2_; have GE136 := n3_; clear n0_ n1_ n2_ n3_; clear hb hbox hg))
 repeat (go_quiet (first | ((with_reducible refine zBl (N := 3) rfl ?_); refine zBp ?hg (N := 3) ?hd (cs := #[.int .i64 a1_0, .int .i64 a1_1]) (t := 68) ?hr ?_; (case hd => rfl); (case hg => rfl); (case hr => first | (go_simp; done) | (go_simp; rfl)); intro gb136 hg w3 hbox hb; have n0_ := zA1.mk (zAm (by repeat (first | (with_reducible first | exact HB.out | apply zA2 | apply zA0 | apply zA3) | exact HB.out)) hb); have n1_ := zA1.mk (hbox); have n2_ := zA1.mk ((by rw [hg]; exact (zAc (by repeat (first | (with_reducible first | exact HB.out | apply zA2 | apply zA0 | apply zA3) | exact HB.out))) : w.heap.size ≤ gb136)); have n3_ := zA1.mk ((by rw [hg]; exact (zAc (by repeat (first | (with_reducible first | exact HB.out | apply zA2 | apply zA0 | apply zA3) | exact HB.out))) : w.heap.size ≤ gb136)); clear HB; have HB := n0_; have BK136 := n1_; have GW136 := n2_; have GE136 := n3_; clear n0_ n1_ n2_ n3_; clear hb hbox hg)); try go_wp2_with (first | ((with_reducible refine zBl (N := 3) rfl ?_); refine zBp ?hg (N := 3) ?hd (cs := #[.int .i64 a1_0, .int .i64 a1_1]) (t := 68) ?hr ?_; (case hd => rfl); (case hg => rfl); (case hr => first | (go_simp; done) | (go_simp; rfl)); intro gb136 hg w3 hbox hb; have n0_ := zA1.mk (zAm (by repeat (first | (with_reducible first | exact HB.out | apply zA2 | apply zA0 | apply zA3) | exact HB.out)) hb); have n1_ := zA1.mk (hbox); have n2_ := zA1.mk ((by rw [hg]; exact (zAc (by repeat (first | (with_reducible first | exact HB.out | apply zA2 | apply zA0 | apply zA3) | exact HB.out))) : w.heap.size ≤ gb136)); have n3_ := zA1.mk ((by rw [hg]; exact (zAc (by repeat (first | (with_reducible first | exact HB.out | apply zA2 | apply zA0 | apply zA3) | exact HB.out))) : w.heap.size ≤ gb136)); clear HB; have HB := n0_; have BK136 := n1_; have GW136 := n2_; have GE136 := n3_; clear n0_ n1_ n2_ n3_; clear hb hbox hg)))
 go_loopg [8] k (fun kq v8 w' => ∃ (x8_1 : Int), v8 = .int .i64 x8_1 ∧ zA1 (zBs.l0 kq l0 (l0.length : Int) x8_1 a1_0 a1_1 = some r) ∧ zA1 (kq ≤ k) ∧ zA1 (w'.heap[gb136]? = some (.cells #[.int .i64 a1_0, .int .i64 a1_1] 68 (0, 0))) ∧ zA1 (Below w.heap.size w w'))
 case atStart => exact ⟨(0), (by first | rfl | (simp; done) | (simp [*]; done)), H', ⟨Nat.le_refl _⟩, ⟨by (with_reducible repeat (first | refine zAb ?_ _ | refine zAf ?_ | refine zAa ?_ _)); exact BK136.out⟩, ⟨by repeat (first | (with_reducible first | exact HB.out | apply zA2 | apply zA0 | apply zA3 | refine zA7 ?_ GE136.out) | exact HB.out)⟩⟩
 case round =>
  clear H'
  try clear p2
  obtain ⟨x8_1, rfl, HA, HK1, BK136, HB⟩ := hrel
  cases gk with
  | zero => exact absurd HA.out (by simp [zBs.l0])
  | succ k1 =>
   have H := HA.out
   clear HA
   simp only [zBs.l0] at H
   by_cases c4 : x8_1 < (l0.length : Int)
   ·rw [if_pos c4] at H
    have c4b0 : decide (x8_1 < (l0.length : Int)) = true := decide_eq_true c4
    clear c4
    by_cases c5 : 0 ≤ x8_1
    rotate_left
    ·rw [if_neg c5] at H
     exact absurd H (by simp)
    rw [if_pos c5] at H
    have c5b0 : decide (0 ≤ x8_1) = true := decide_eq_true c5
    clear c5
    by_cases c6 : x8_1 < (l0.length : Int)
    rotate_left
    ·rw [if_neg c6] at H
     exact absurd H (by simp)
    rw [if_pos c6] at H
    have c6b0 : decide (x8_1 < (l0.length : Int)) = true := decide_eq_true c6
    clear c6
    by_cases c7 : (a1_0 == ((zB4 l0 x8_1).f0) && (a1_1 == ((zB4 l0 x8_1).f1))) = true
    ·rw [if_pos c7] at H
     have c7b0 : (a1_0 == ((zB4 l0 x8_1).f0) && (a1_1 == ((zB4 l0 x8_1).f1))) = true := c7
     (try (have c7b1 : decide (a1_0 = ((zB4 l0 x8_1).f0) && (a1_1 == ((zB4 l0 x8_1).f1))) = true := by simpa using c7))
     (try (have c7b2 : (a1_0 == ((zB4 l0 x8_1).f0) && (a1_1 == ((zB4 l0 x8_1).f1))) = true := by simpa using c7))
     clear c7
     obtain rfl := Option.some.inj H
     have hcz8_0 : wr.cell? ⟨gb136, 0, none⟩ = some (.int .i64 a1_0) := (zA9 BK136.out 0).trans rfl
     have hcz8_1 : wr.cell? ⟨gb136, 1, none⟩ = some (.int .i64 a1_1) := (zA9 BK136.out 1).trans rfl
     have hfz8_0 := zAh BK136.out 0
     have hfz8_1 := zAh BK136.out 1
     have p137 : 0 ≤ (x8_1 : Int) := of_decide_eq_true (by first | (with_reducible assumption) | assumption)
     have q137 : x8_1 < (l0.length : Int) := of_decide_eq_true (by first | (with_reducible assumption) | assumption)
     obtain ⟨ad137, e137, hx137_0, hx137_1⟩ := at_T68 HR0.out x8_1 p137 q137
     cases e137
     replace hx137_0 := (HB.out.cell (World.block_lt_of_cell? w _ hx137_0)).trans hx137_0
     replace hx137_1 := (HB.out.cell (World.block_lt_of_cell? w _ hx137_1)).trans hx137_1
     replace p137 := eq_true p137
     replace q137 := eq_true q137
     go_wp2
     repeat (go_quiet (fail); try go_wp2)
     go_ret
     exact ⟨by first | rfl | (simp [zAx, zAw] <;> rfl) | (simp [*, zAx, zAw] <;> rfl), by repeat (first | (with_reducible first | exact HB.out | apply zA2 | apply zA0 | apply zA3 | refine zA7 ?_ GE136.out) | exact HB.out)⟩
    ·rw [if_neg c7] at H
     have c7b0 : (a1_0 == ((zB4 l0 x8_1).f0) && (a1_1 == ((zB4 l0 x8_1).f1))) = false := by simpa using c7
     (try (have c7b1 : decide (a1_0 = ((zB4 l0 x8_1).f0) && (a1_1 == ((zB4 l0 x8_1).f1))) = false := by simpa using c7))
     (try (have c7b2 : (a1_0 == ((zB4 l0 x8_1).f0) && (a1_1 == ((zB4 l0 x8_1).f1))) = false := by simpa using c7))
     (try (have c7b3 : ¬ (a1_0 = ((zB4 l0 x8_1).f0) && (a1_1 == ((zB4 l0 x8_1).f1))) := by simpa using c7))
     clear c7
     have H' := zA1.mk H
     clear H
     have hcz9_0 : wr.cell? ⟨gb136, 0, none⟩ = some (.int .i64 a1_0) := (zA9 BK136.out 0).trans rfl
     have hcz9_1 : wr.cell? ⟨gb136, 1, none⟩ = some (.int .i64 a1_1) := (zA9 BK136.out 1).trans rfl
     have hfz9_0 := zAh BK136.out 0
     have hfz9_1 := zAh BK136.out 1
     have p137 : 0 ≤ (x8_1 : Int) := of_decide_eq_true (by first | (with_reducible assumption) | assumption)
     have q137 : x8_1 < (l0.length : Int) := of_decide_eq_true (by first | (with_reducible assumption) | assumption)
     obtain ⟨ad137, e137, hx137_0, hx137_1⟩ := at_T68 HR0.out x8_1 p137 q137
     cases e137
     replace hx137_0 := (HB.out.cell (World.block_lt_of_cell? w _ hx137_0)).trans hx137_0
     replace hx137_1 := (HB.out.cell (World.block_lt_of_cell? w _ hx137_1)).trans hx137_1
     replace p137 := eq_true p137
     replace q137 := eq_true q137
     go_wp2
     repeat (go_quiet (fail); try go_wp2)
     go_roundg k1
     case measure => have := HK1.out; omega
     case rel => exact ⟨(wrap64 (x8_1 + 1)), (by first | rfl | (simp; done) | (simp [*]; done)), H', ⟨by have := HK1.out; omega⟩, ⟨by (with_reducible repeat (first | refine zAb ?_ _ | refine zAf ?_ | refine zAa ?_ _)); exact BK136.out⟩, ⟨by repeat (first | (with_reducible first | exact HB.out | apply zA2 | apply zA0 | apply zA3 | refine zA7 ?_ GE136.out) | exact HB.out)⟩⟩
   ·rw [if_neg c4] at H
    have c4b0 : decide (x8_1 < (l0.length : Int)) = false := decide_eq_false c4
    clear c4
    obtain rfl := Option.some.inj H
    go_wp2
    repeat (go_quiet (fail); try go_wp2)
    go_ret
    exact ⟨by first | rfl | (simp [zAx, zAw] <;> rfl) | (simp [*, zAx, zAw] <;> rfl), by repeat (first | (with_reducible first | exact HB.out | apply zA2 | apply zA0 | apply zA3 | refine zA7 ?_ GE136.out) | exact HB.out)⟩
end
end Go.Proofs.YtbghfbhlbfcloaaDoor.PL
namespace Go.Proofs.YtbghfbhlbfcloaaDoor.PL
section
open Go.RowKit Go.Proofs.YtbghfbhlbfcloaaDoorW.PrintWords Go.Proofs.YtbghfbhlbfcloaaDoorW.PrintLast Go.Proofs.YtbghfbhlbfcloaaDoorW.PrintMore
attribute [local go_sem] zBw zBu zC7 zC6 zBo zBn zBv zBt   -- for this text's walks alone
set_option linter.unusedVariables false
set_option linter.unusedSimpArgs false
attribute [local go_sem high] eqA68
def graph_Edge_73.f (k : Nat) (l0 : List (S68)) (a1_0 : Int) (a1_1 : Int) : Option (Bool) := (zBs.f k l0 a1_0 a1_1).bind fun t139 => (some (decide (t139 ≥ 0)))
theorem graph_Edge_73.mono : ∀ a0 a1 a2 k, LeO (graph_Edge_73.f k a0 a1 a2) (graph_Edge_73.f (k + 1) a0 a1 a2) := by
 intro a0 a1 a2 k
 unfold graph_Edge_73.f
 repeat' first
   | (with_reducible exact zBs.mono _ _ _ _)
   | (with_reducible exact LeO.refl _)
   | (with_reducible exact LeO.none _)
   | (with_reducible refine LeO.ite ?_ ?_)
   | (with_reducible refine LeO.bind ?_ (fun _ => ?_))
set_option maxHeartbeats 8000000 in
set_option maxRecDepth 100000 in
theorem graph_Edge_73.calls (k : Nat) (A0 : Option Addr) (c0 : Nat) (l0 : List (S68)) (a1_0 : Int) (a1_1 : Int) (r : Bool) (w : World) (hr0 : Kd.C k68 w A0 l0.length l0) (hc0 : l0.length ≤ c0) (h : graph_Edge_73.f k l0 a1_0 a1_1 = some r) :
  Calls Tryd.prog 73 #[.slice A0 l0.length c0, .agg #[.int .i64 a1_0, .int .i64 a1_1]] w fun e w' => e = .returned (.bool r) ∧ Below w.heap.size w w' := by
 have hu68 := Tryd.underlying68
 have HR0 := zA1.mk hr0
 have HC0 := zA1.mk hc0
 clear hr0 hc0
 have HB := zA1.mk (Below.refl w.heap.size w)
 have H : ((zBs.f k l0 a1_0 a1_1).bind fun t139 => (some (decide (t139 ≥ 0)))) = some r := h
 clear h
 replace H := Option.bind_eq_some_iff.mp H
 obtain ⟨t139, A30, H⟩ := H
 replace H : (some (decide (t139 ≥ 0))) = some r := H
 have A3 := zA1.mk A30
 clear A30
 obtain rfl := Option.some.inj H
 go_enter Tryd.func73, Tryd.ntmps73
 go_wp2_with (first | ((with_reducible refine zBl (N := 3) rfl ?_); refine zBp ?hg (N := 3) ?hd (cs := #[.int .i64 a1_0, .int .i64 a1_1]) (t := 68) ?hr ?_; (case hd => rfl); (case hg => rfl); (case hr => first | (go_simp; done) | (go_simp; rfl)); intro gb138 hg w4 hbox hb; have n0_ := zA1.mk (zAm (by repeat (first | (with_reducible first | exact HB.out | apply zA2 | apply zA0 | apply zA3) | exact HB.out)) hb); have n1_ := zA1.mk (hbox); have n2_ := zA1.mk ((by rw [hg]; exact (zAc (by repeat (first | (with_reducible first | exact HB.out | apply zA2 | apply zA0 | apply zA3) | exact HB.out))) : w.heap.size ≤ gb138)); have n3_ := zA1.mk ((by rw [hg]; exact (zAc (by repeat (first | (with_reducible first | exact HB.out | apply zA2 | apply zA0 | apply zA3) | exact HB.out))) : w.heap.size ≤ gb138)); clear HB; have HB := n0_; have BK138 := n1_; have GW138 := n2_; have GE138 := n3_; clear n0_ n1_ n2_ n3_; clear hb hbox hg; have hcz5_0 : w4.cell? ⟨gb138, 0, none⟩ = some (.int .i64 a1_0) := (zA9 BK138.out 0).trans rfl; have hcz5_1 : w4.cell? ⟨gb138, 1, none⟩ = some (.int .i64 a1_1) := (zA9 BK138.out 1).trans rfl; have hfz5_0 := zAh BK138.out 0; have hfz5_1 := zAh BK138.out 1) | ((with_reducible refine zB1 (f := 93) rfl ?_); refine zC2 (some 7) rfl rfl Tryd.func93 (by kernel_rfl) rfl #[.slice A0 l0.length c0, .agg #[.int .i64 a1_0, .int .i64 a1_1]] rfl (by (try simp only [List.map_toArray, List.map_cons, List.map_nil]); first | done | rfl | (simp only [List.length_drop, List.length_take]; rfl)) ?_; (with_reducible refine (zBs.calls k _ _ l0 a1_0 a1_1 t139 _ ?side1 ?side2 A3.out).mono ?_); (case side1 => repeat (first | exact (Kd.zAy HR0.out HB.out) | (with_reducible refine Kd.zA8 ?_ _) | (with_reducible refine Kd.zAd ?_ _) | (with_reducible refine Kd.zAp ?_))); (case side2 => exact HC0.out); rintro e w6 ⟨rfl, hb⟩; refine ⟨_, rfl, ?_⟩; have n0_ := zA1.mk (zBc (g := gb138) (o := .cells #[.int .i64 a1_0, .int .i64 a1_1] 68 (0, 0)) (by (with_reducible repeat (first | refine zAb ?_ _ | refine zAf ?_ | refine zAa ?_ _)); exact BK138.out) hb); have n1_ := zA1.mk (zAm (by repeat (first | (with_reducible first | exact HB.out | apply zA2 | apply zA0 | apply zA3 | refine zA7 ?_ GE138.out) | exact HB.out)) hb); clear BK138; clear HB; have BK138 := n0_; have HB := n1_; clear n0_ n1_; (try clear hb); (try clear hb2); (try clear hk); (try clear hi)))
 go_ret
 exact ⟨by first | rfl | (simp [zAx, zAw] <;> rfl) | (simp [*, zAx, zAw] <;> rfl), by repeat (first | (with_reducible first | exact HB.out | apply zA2 | apply zA0 | apply zA3 | refine zA7 ?_ GE138.out) | exact HB.out)⟩
end
end Go.Proofs.YtbghfbhlbfcloaaDoor.PL
namespace Go.Proofs.YtbghfbhlbfcloaaDoor.PL
section
open Go.RowKit Go.Proofs.YtbghfbhlbfcloaaDoorW.PrintWords Go.Proofs.YtbghfbhlbfcloaaDoorW.PrintLast Go.Proofs.YtbghfbhlbfcloaaDoorW.PrintMore
attribute [local go_sem] zBw zBu zC7 zC6 zBo zBn zBv zBt   -- for this text's walks alone
set_option linter.unusedVariables false
set_option linter.unusedSimpArgs false
def zC4.f (a0 : Int) : Option (Bool) := some (a0 != a0)
set_option maxHeartbeats 8000000 in
set_option maxRecDepth 100000 in
theorem zC4.calls (a0 : Int) (r : Bool) (w : World) (h : zC4.f a0 = some r) :
  Calls Tryd.prog 105 #[.int .i64 a0] w fun e w' => e = .returned (.bool r) ∧ zAr w w' := by
 have H : (some (a0 != a0)) = some r := h
 clear h
 obtain rfl := Option.some.inj H
 go_enter Tryd.func105, Tryd.ntmps105
 go_wp2
 go_ret
 exact ⟨by first | rfl | (simp; done) | (simp [*]; done), by repeat (first | exact zAr.refl _ | apply zAr.step)⟩
end
end Go.Proofs.YtbghfbhlbfcloaaDoor.PL
namespace Go.Proofs.YtbghfbhlbfcloaaDoor.PL
section
open Go.RowKit Go.Proofs.YtbghfbhlbfcloaaDoorW.PrintWords Go.Proofs.YtbghfbhlbfcloaaDoorW.PrintLast Go.Proofs.YtbghfbhlbfcloaaDoorW.PrintMore
attribute [local go_sem] zBw zBu zC7 zC6 zBo zBn zBv zBt   -- for this text's walks alone
set_option linter.unusedVariables false
set_option linter.unusedSimpArgs false
def zCb.f (a0 : Int) (a1 : Int) : Option (Int) := (zC4.f a0).bind fun t105 => ((zC4.f a1).bind fun t106 => (if t105 = true then (if t106 = true then (some 0) else (some (-1))) else (if t106 = true then (some 1) else (if a0 < a1 then (some (-1)) else (if a0 > a1 then (some 1) else (some 0))))))
set_option maxHeartbeats 8000000 in
set_option maxRecDepth 100000 in
theorem zCb.calls (a0 : Int) (a1 : Int) (r : Int) (w : World) (h : zCb.f a0 a1 = some r) :
  Calls Tryd.prog 80 #[.int .i64 a0, .int .i64 a1] w fun e w' => e = .returned (.int .i64 r) ∧ zAr w w' := by
 have H : ((zC4.f a0).bind fun t105 => ((zC4.f a1).bind fun t106 => (if t105 = true then (if t106 = true then (some 0) else (some (-1))) else (if t106 = true then (some 1) else (if a0 < a1 then (some (-1)) else (if a0 > a1 then (some 1) else (some 0))))))) = some r := h
 clear h
 replace H := Option.bind_eq_some_iff.mp H
 obtain ⟨t105, A30, H⟩ := H
 replace H : ((zC4.f a1).bind fun t106 => (if t105 = true then (if t106 = true then (some 0) else (some (-1))) else (if t106 = true then (some 1) else (if a0 < a1 then (some (-1)) else (if a0 > a1 then (some 1) else (some 0)))))) = some r := H
 have A3 := zA1.mk A30
 clear A30
 replace H := Option.bind_eq_some_iff.mp H
 obtain ⟨t106, A40, H⟩ := H
 replace H : (if t105 = true then (if t106 = true then (some 0) else (some (-1))) else (if t106 = true then (some 1) else (if a0 < a1 then (some (-1)) else (if a0 > a1 then (some 1) else (some 0))))) = some r := H
 have A4 := zA1.mk A40
 clear A40
 by_cases c5 : t105 = true
 ·subst c5
  have H1 : (if t106 = true then (some 0) else (some (-1))) = some r := by rw [if_pos rfl] at H; exact H
  clear H
  have H := H1
  clear H1
  by_cases c6 : t106 = true
  ·subst c6
   have H1 : (some 0) = some r := by rw [if_pos rfl] at H; exact H
   clear H
   have H := H1
   clear H1
   obtain rfl := Option.some.inj H
   go_enter Tryd.func80, Tryd.ntmps80
   go_wp2_with (first | ((with_reducible refine zB1 (f := 105) rfl ?_); refine zC2 (some 8) rfl rfl Tryd.func105 (by kernel_rfl) rfl #[.int .i64 a0] rfl (by (try simp only [List.map_toArray, List.map_cons, List.map_nil]); first | done | rfl | (simp only [List.length_drop, List.length_take]; rfl)) ?_; (with_reducible refine (zC4.calls a0 true _ A3.out).mono ?_); rintro e w' ⟨rfl, ⟨nd, rfl⟩⟩; refine ⟨_, rfl, ?_⟩) | ((with_reducible refine zB1 (f := 105) rfl ?_); refine zC2 (some 10) rfl rfl Tryd.func105 (by kernel_rfl) rfl #[.int .i64 a1] rfl (by (try simp only [List.map_toArray, List.map_cons, List.map_nil]); first | done | rfl | (simp only [List.length_drop, List.length_take]; rfl)) ?_; (with_reducible refine (zC4.calls a1 true _ A4.out).mono ?_); rintro e w' ⟨rfl, ⟨nd, rfl⟩⟩; refine ⟨_, rfl, ?_⟩))
   go_ret
   exact ⟨by first | rfl | (simp; done) | (simp [*]; done), by repeat (first | exact zAr.refl _ | apply zAr.step)⟩
  ·replace c6 := Bool.eq_false_iff.mpr c6
   subst c6
   have H1 : (some (-1)) = some r := by rw [if_neg (show ¬ (false = true) by decide)] at H; exact H
   clear H
   have H := H1
   clear H1
   obtain rfl := Option.some.inj H
   go_enter Tryd.func80, Tryd.ntmps80
   go_wp2_with (first | ((with_reducible refine zB1 (f := 105) rfl ?_); refine zC2 (some 8) rfl rfl Tryd.func105 (by kernel_rfl) rfl #[.int .i64 a0] rfl (by (try simp only [List.map_toArray, List.map_cons, List.map_nil]); first | done | rfl | (simp only [List.length_drop, List.length_take]; rfl)) ?_; (with_reducible refine (zC4.calls a0 true _ A3.out).mono ?_); rintro e w' ⟨rfl, ⟨nd, rfl⟩⟩; refine ⟨_, rfl, ?_⟩) | ((with_reducible refine zB1 (f := 105) rfl ?_); refine zC2 (some 10) rfl rfl Tryd.func105 (by kernel_rfl) rfl #[.int .i64 a1] rfl (by (try simp only [List.map_toArray, List.map_cons, List.map_nil]); first | done | rfl | (simp only [List.length_drop, List.length_take]; rfl)) ?_; (with_reducible refine (zC4.calls a1 false _ A4.out).mono ?_); rintro e w' ⟨rfl, ⟨nd, rfl⟩⟩; refine ⟨_, rfl, ?_⟩))
   go_ret
   exact ⟨by first | rfl | (simp; done) | (simp [*]; done), by repeat (first | exact zAr.refl _ | apply zAr.step)⟩
 ·replace c5 := Bool.eq_false_iff.mpr c5
  subst c5
  have H1 : (if t106 = true then (some 1) else (if a0 < a1 then (some (-1)) else (if a0 > a1 then (some 1) else (some 0)))) = some r := by rw [if_neg (show ¬ (false = true) by decide)] at H; exact H
  clear H
  have H := H1
  clear H1
  by_cases c7 : t106 = true
  ·subst c7
   have H1 : (some 1) = some r := by rw [if_pos rfl] at H; exact H
   clear H
   have H := H1
   clear H1
   obtain rfl := Option.some.inj H
   go_enter Tryd.func80, Tryd.ntmps80
   go_wp2_with (first | ((with_reducible refine zB1 (f := 105) rfl ?_); refine zC2 (some 8) rfl rfl Tryd.func105 (by kernel_rfl) rfl #[.int .i64 a0] rfl (by (try simp only [List.map_toArray, List.map_cons, List.map_nil]); first | done | rfl | (simp only [List.length_drop, List.length_take]; rfl)) ?_; (with_reducible refine (zC4.calls a0 false _ A3.out).mono ?_); rintro e w' ⟨rfl, ⟨nd, rfl⟩⟩; refine ⟨_, rfl, ?_⟩) | ((with_reducible refine zB1 (f := 105) rfl ?_); refine zC2 (some 10) rfl rfl Tryd.func105 (by kernel_rfl) rfl #[.int .i64 a1] rfl (by (try simp only [List.map_toArray, List.map_cons, List.map_nil]); first | done | rfl | (simp only [List.length_drop, List.length_take]; rfl)) ?_; (with_reducible refine (zC4.calls a1 true _ A4.out).mono ?_); rintro e w' ⟨rfl, ⟨nd, rfl⟩⟩; refine ⟨_, rfl, ?_⟩))
   go_ret
   exact ⟨by first | rfl | (simp; done) | (simp [*]; done), by repeat (first | exact zAr.refl _ | apply zAr.step)⟩
  ·replace c7 := Bool.eq_false_iff.mpr c7
   subst c7
   have H1 : (if a0 < a1 then (some (-1)) else (if a0 > a1 then (some 1) else (some 0))) = some r := by rw [if_neg (show ¬ (false = true) by decide)] at H; exact H
   clear H
   have H := H1
   clear H1
   by_cases c8 : a0 < a1
   ·rw [if_pos c8] at H
    have c8b0 : decide (a0 < a1) = true := decide_eq_true c8
    clear c8
    obtain rfl := Option.some.inj H
    go_enter Tryd.func80, Tryd.ntmps80
    go_wp2_with (first | ((with_reducible refine zB1 (f := 105) rfl ?_); refine zC2 (some 8) rfl rfl Tryd.func105 (by kernel_rfl) rfl #[.int .i64 a0] rfl (by (try simp only [List.map_toArray, List.map_cons, List.map_nil]); first | done | rfl | (simp only [List.length_drop, List.length_take]; rfl)) ?_; (with_reducible refine (zC4.calls a0 false _ A3.out).mono ?_); rintro e w' ⟨rfl, ⟨nd, rfl⟩⟩; refine ⟨_, rfl, ?_⟩) | ((with_reducible refine zB1 (f := 105) rfl ?_); refine zC2 (some 10) rfl rfl Tryd.func105 (by kernel_rfl) rfl #[.int .i64 a1] rfl (by (try simp only [List.map_toArray, List.map_cons, List.map_nil]); first | done | rfl | (simp only [List.length_drop, List.length_take]; rfl)) ?_; (with_reducible refine (zC4.calls a1 false _ A4.out).mono ?_); rintro e w' ⟨rfl, ⟨nd, rfl⟩⟩; refine ⟨_, rfl, ?_⟩))
    go_ret
    exact ⟨by first | rfl | (simp; done) | (simp [*]; done), by repeat (first | exact zAr.refl _ | apply zAr.step)⟩
   ·rw [if_neg c8] at H
    have c8b0 : decide (a0 < a1) = false := decide_eq_false c8
    clear c8
    by_cases c9 : a0 > a1
    ·rw [if_pos c9] at H
     have c9b0 : decide (a1 < a0) = true := decide_eq_true c9
     clear c9
     obtain rfl := Option.some.inj H
     go_enter Tryd.func80, Tryd.ntmps80
     go_wp2_with (first | ((with_reducible refine zB1 (f := 105) rfl ?_); refine zC2 (some 8) rfl rfl Tryd.func105 (by kernel_rfl) rfl #[.int .i64 a0] rfl (by (try simp only [List.map_toArray, List.map_cons, List.map_nil]); first | done | rfl | (simp only [List.length_drop, List.length_take]; rfl)) ?_; (with_reducible refine (zC4.calls a0 false _ A3.out).mono ?_); rintro e w' ⟨rfl, ⟨nd, rfl⟩⟩; refine ⟨_, rfl, ?_⟩) | ((with_reducible refine zB1 (f := 105) rfl ?_); refine zC2 (some 10) rfl rfl Tryd.func105 (by kernel_rfl) rfl #[.int .i64 a1] rfl (by (try simp only [List.map_toArray, List.map_cons, List.map_nil]); first | done | rfl | (simp only [List.length_drop, List.length_take]; rfl)) ?_; (with_reducible refine (zC4.calls a1 false _ A4.out).mono ?_); rintro e w' ⟨rfl, ⟨nd, rfl⟩⟩; refine ⟨_, rfl, ?_⟩))
     go_ret
     exact ⟨by first | rfl | (simp; done) | (simp [*]; done), by repeat (first | exact zAr.refl _ | apply zAr.step)⟩
    ·rw [if_neg c9] at H
     have c9b0 : decide (a1 < a0) = false := decide_eq_false c9
     clear c9
     obtain rfl := Option.some.inj H
     go_enter Tryd.func80, Tryd.ntmps80
     go_wp2_with (first | ((with_reducible refine zB1 (f := 105) rfl ?_); refine zC2 (some 8) rfl rfl Tryd.func105 (by kernel_rfl) rfl #[.int .i64 a0] rfl (by (try simp only [List.map_toArray, List.map_cons, List.map_nil]); first | done | rfl | (simp only [List.length_drop, List.length_take]; rfl)) ?_; (with_reducible refine (zC4.calls a0 false _ A3.out).mono ?_); rintro e w' ⟨rfl, ⟨nd, rfl⟩⟩; refine ⟨_, rfl, ?_⟩) | ((with_reducible refine zB1 (f := 105) rfl ?_); refine zC2 (some 10) rfl rfl Tryd.func105 (by kernel_rfl) rfl #[.int .i64 a1] rfl (by (try simp only [List.map_toArray, List.map_cons, List.map_nil]); first | done | rfl | (simp only [List.length_drop, List.length_take]; rfl)) ?_; (with_reducible refine (zC4.calls a1 false _ A4.out).mono ?_); rintro e w' ⟨rfl, ⟨nd, rfl⟩⟩; refine ⟨_, rfl, ?_⟩))
     go_ret
     exact ⟨by first | rfl | (simp; done) | (simp [*]; done), by repeat (first | exact zAr.refl _ | apply zAr.step)⟩
end
end Go.Proofs.YtbghfbhlbfcloaaDoor.PL
namespace Go.Proofs.YtbghfbhlbfcloaaDoor.PL
section
open Go.RowKit Go.Proofs.YtbghfbhlbfcloaaDoorW.PrintWords Go.Proofs.YtbghfbhlbfcloaaDoorW.PrintLast Go.Proofs.YtbghfbhlbfcloaaDoorW.PrintMore
attribute [local go_sem] zBw zBu zC7 zC6 zBo zBn zBv zBt   -- for this text's walks alone
set_option linter.unusedVariables false
set_option linter.unusedSimpArgs false
def zC0.l0 : Nat → Int → List Int → Int → Int → Option (Int)
 | 0, _, _, _, _ => none
 | k + 1, x3, x6, x7, x8 => if x8 < x7 then (if 0 ≤ x8 then (if x8 < (x6.length : Int) then (if (rd x6 x8) = x3 then (zC0.l0 k x3 x6 x7 (wrap64 (x8 + 1))) else (some (rd x6 x8))) else (none)) else (none)) else (some x3)
def zC0.f (k : Nat) (l0 : List Int) : Option (Int) := zC0.l0 k 0 l0 (l0.length : Int) 0
theorem zC0.zBq : ∀ k, (∀ y0 y1 y2 y3, LeO (zC0.l0 k y0 y1 y2 y3) (zC0.l0 (k + 1) y0 y1 y2 y3))
 | 0 => fun _ _ _ _ r h => by simp [zC0.l0] at h
 | k + 1 => by
  have ih0 := zC0.zBq k
  ·intro y0 y1 y2 y3
   unfold zC0.l0
   repeat' first
   | (with_reducible exact ih0 _ _ _ _)
   | (with_reducible exact LeO.refl _)
   | (with_reducible exact LeO.none _)
   | (with_reducible refine LeO.ite ?_ ?_)
   | (with_reducible refine LeO.bind ?_ (fun _ => ?_))
theorem zC0.mono : ∀ a0 k, LeO (zC0.f k a0) (zC0.f (k + 1) a0) := by
 intro a0 k
 have ih0 := zC0.zBq k
 unfold zC0.f
 repeat' first
   | (with_reducible exact ih0 _ _ _ _)
   | (with_reducible exact LeO.refl _)
   | (with_reducible exact LeO.none _)
   | (with_reducible refine LeO.ite ?_ ?_)
   | (with_reducible refine LeO.bind ?_ (fun _ => ?_))
set_option maxHeartbeats 8000000 in
set_option maxRecDepth 100000 in
theorem zC0.calls (k : Nat) (A0 : Option Addr) (c0 : Nat) (l0 : List Int) (r : Int) (w : World) (hr0 : Kd.C (Kd.int .i64) w A0 l0.length l0) (hc0 : l0.length ≤ c0) (h : zC0.f k l0 = some r) :
  Calls Tryd.prog 79 #[.slice A0 l0.length c0] w fun e w' => e = .returned (.int .i64 r) ∧ zAr w w' := by
 have HR0 := zA1.mk hr0
 have HC0 := zA1.mk hc0
 clear hr0 hc0
 have H : (zC0.l0 k 0 l0 (l0.length : Int) 0) = some r := h
 clear h
 have H' := zA1.mk H
 clear H
 go_enter Tryd.func79, Tryd.ntmps79
 go_wp2
 go_loopg [8] k (fun kq v8 w' => ∃ (x8_1 : Int), v8 = .int .i64 x8_1 ∧ zA1 (zC0.l0 kq 0 l0 (l0.length : Int) x8_1 = some r) ∧ zA1 (kq ≤ k) ∧ zAr w w')
 case atStart => exact ⟨(0), (by first | rfl | (simp; done) | (simp [*]; done)), H', ⟨Nat.le_refl _⟩, by repeat (first | exact zAr.refl _ | apply zAr.step)⟩
 case round =>
  clear H'
  obtain ⟨x8_1, rfl, HA, HK1, ⟨m1, rfl⟩⟩ := hrel
  cases gk with
  | zero => exact absurd HA.out (by simp [zC0.l0])
  | succ k1 =>
   have H := HA.out
   clear HA
   simp only [zC0.l0] at H
   by_cases c2 : x8_1 < (l0.length : Int)
   ·rw [if_pos c2] at H
    have c2b0 : decide (x8_1 < (l0.length : Int)) = true := decide_eq_true c2
    clear c2
    by_cases c3 : 0 ≤ x8_1
    rotate_left
    ·rw [if_neg c3] at H
     exact absurd H (by simp)
    rw [if_pos c3] at H
    have c3b0 : decide (0 ≤ x8_1) = true := decide_eq_true c3
    clear c3
    by_cases c4 : x8_1 < (l0.length : Int)
    rotate_left
    ·rw [if_neg c4] at H
     exact absurd H (by simp)
    rw [if_pos c4] at H
    have c4b0 : decide (x8_1 < (l0.length : Int)) = true := decide_eq_true c4
    clear c4
    by_cases c5 : (rd l0 x8_1) = 0
    ·rw [if_pos c5] at H
     have c5b0 : ((rd l0 x8_1) == 0) = true := beq_iff_eq.mpr c5
     have c5b1 : ((rd l0 x8_1) != 0) = false := bne_eq_false_iff_eq.mpr c5
     clear c5
     have H' := zA1.mk H
     clear H
     have p104 : 0 ≤ (x8_1 : Int) := of_decide_eq_true (by first | (with_reducible assumption) | assumption)
     have q104 : x8_1 < (l0.length : Int) := of_decide_eq_true (by first | (with_reducible assumption) | assumption)
     obtain ⟨ad104, e104, hx104_0⟩ := Kd.at_int HR0.out x8_1 p104 q104
     cases e104
     replace p104 := eq_true p104
     replace q104 := eq_true q104
     go_wp2
     go_roundg k1
     case measure => have := HK1.out; omega
     case rel => exact ⟨(wrap64 (x8_1 + 1)), (by first | rfl | (simp; done) | (simp [*]; done)), H', ⟨by have := HK1.out; omega⟩, by repeat (first | exact zAr.refl _ | apply zAr.step)⟩
    ·rw [if_neg c5] at H
     have c5b0 : ((rd l0 x8_1) == 0) = false := beq_eq_false_iff_ne.mpr c5
     have c5b1 : ((rd l0 x8_1) != 0) = true := bne_iff_ne.mpr c5
     obtain rfl := Option.some.inj H
     have p104 : 0 ≤ (x8_1 : Int) := of_decide_eq_true (by first | (with_reducible assumption) | assumption)
     have q104 : x8_1 < (l0.length : Int) := of_decide_eq_true (by first | (with_reducible assumption) | assumption)
     obtain ⟨ad104, e104, hx104_0⟩ := Kd.at_int HR0.out x8_1 p104 q104
     cases e104
     replace p104 := eq_true p104
     replace q104 := eq_true q104
     go_wp2
     go_ret
     exact ⟨by first | rfl | (simp; done) | (simp [*]; done), by repeat (first | exact zAr.refl _ | apply zAr.step)⟩
   ·rw [if_neg c2] at H
    have c2b0 : decide (x8_1 < (l0.length : Int)) = false := decide_eq_false c2
    clear c2
    obtain rfl := Option.some.inj H
    go_wp2
    go_ret
    exact ⟨by first | rfl | (simp; done) | (simp [*]; done), by repeat (first | exact zAr.refl _ | apply zAr.step)⟩
end
end Go.Proofs.YtbghfbhlbfcloaaDoor.PL
