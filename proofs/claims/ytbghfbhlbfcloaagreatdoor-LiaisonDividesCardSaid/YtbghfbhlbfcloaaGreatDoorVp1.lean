/- Put together by this session's program pack.py. -/
import Derived.Below
import Derived.Deep.Draws
import Derived.Deep.AppendLies
import Derived.Maps.AppendAt
import Derived.OwnWalk
import Derived.Laws.BytesArg
import Derived.Laws.MakeOwn
import Derived.Laws.OwnMore
import Derived.Deep.OwnRows
import Derived.Tactics
import Derived.Lib.ConvBytes
import Derived.Laws.Slices
import Derived.WalkKit
import Derived.KernelRfl
import Derived.RowKit3
import Derived.Deep.LoopGhost
import Derived.Deep.QuietTactic
import Derived.BigQuiet
import Derived.WideLaws
import Derived.Deep.DeepCutAuto
import Derived.Deep.CutBlock
import Derived.Deep.RegionHeld3
import Derived.Laws.Rows
import Derived.Lib.AppendStr
import Derived.ArgAppend
import Derived.Laws.IdiomCopy
import Derived.OrdersHeld
import Derived.Laws.BitsLemmas
import Derived.RowKit
import Derived.Sort.Grow
import Derived.Shelf.SlSortCmp.InsertionK
import Derived.WalkSpells
import Derived.Shelf.SlGeneric
import Derived.Shelf.SlSortCmp.NoneTotal
import Derived.Ground.SlsfProg
import Derived.RangeFuncNested
import Derived.RangeFuncBound
import Derived.RangeFuncCalls
import Derived.RangeFuncLeaves
import Derived.Shelf.Abstract
import Derived.Shelf.RegionOpen
import Derived.OwnWalkIn
import Derived.TacticsInMore
import Derived.LoopNIn
import Derived.LoopIn
import Derived.OrdersIn
import Derived.RangeFuncKeeps
import Derived.RangeFuncWrites
import Derived.Shelf.SlicesQ.IndexFunc
import Derived.Shelf.GgClosure.StringsIndexFuncTop
import Derived.Ground.SlgfProg
import Derived.Ground.GgwProg
import Derived.Test.YtbghfbhlbfcloaaGreatDoorVw0
import Derived.Test.YtbghfbhlbfcloaaGreatDoorVp0
namespace Go.Proofs.YtbghfbhlbfcloaaGreatDoor.PL
section
open Go.RowKit Go.Proofs.YtbghfbhlbfcloaaGreatDoorW.PrintWords Go.Proofs.YtbghfbhlbfcloaaGreatDoorW.PrintLast Go.Proofs.YtbghfbhlbfcloaaGreatDoorW.PrintMore
attribute [local go_sem] zBv zBt zC5 zC4 zBo zBn zBu zBs   -- for this text's walks alone
set_option linter.unusedVariables false
set_option linter.unusedSimpArgs false
def zBx.f (k : Nat) (a0_0 : Int) (a0_1 : Int) (a1_0 : Int) (a1_1 : Int) : Option (Int) := (zC9.f a0_0 a1_0).bind fun t114 => ((zC9.f a0_1 a1_1).bind fun t115 => ((zBy.f k (([t114, t115] : List Int))).bind fun t119 => (some t119)))
theorem zBx.mono : ∀ a0 a1 a2 a3 k, LeO (zBx.f k a0 a1 a2 a3) (zBx.f (k + 1) a0 a1 a2 a3) := by
 intro a0 a1 a2 a3 k
 unfold zBx.f
 repeat' first
   | (with_reducible exact zBy.mono _ _)
   | (with_reducible exact LeO.refl _)
   | (with_reducible exact LeO.none _)
   | (with_reducible refine LeO.ite ?_ ?_)
   | (with_reducible refine LeO.bind ?_ (fun _ => ?_))
def zBx.T1 : Bool × List (List Nat × List Nat) := (true, [([], []), ([0], [0]), ([], []), ([2], [2]), ([1, 3], [1, 3]), ([], []), ([5], [5]), ([], []), ([7], [7]), ([6, 8, 4], [6, 8]), ([4, 9], [4, 9]), ([10, 9], [10]), ([11, 11, 0, 1, 2, 3, 4, 5, 6, 7, 8, 9, 10, 11], [11])])
def zBx.B1 : List Nat := [0, 1, 0, 4, 15, 0, 32, 0, 128, 511, 1023, 2047, 4095]
theorem zBx.tab1 : rtab .any (opsOf Tryz.f45 1) = zBx.T1 := by kernel_rfl
theorem zBx.bits1 : waitsOk zBx.T1.2 zBx.B1 = true := by kernel_rfl
set_option maxHeartbeats 8000000 in
set_option maxRecDepth 100000 in
theorem zBx.exact (k : Nat) (a0_0 : Int) (a0_1 : Int) (a1_0 : Int) (a1_1 : Int) (r : Int) (w : World) (h : zBx.f k a0_0 a0_1 a1_0 a1_1 = some r) :
  Calls Tryz.prog 45 #[.agg #[.int .i64 a0_0, .int .i64 a0_1], .agg #[.int .i64 a1_0, .int .i64 a1_1]] w fun e w' => e = .returned (.int .i64 r) ∧ Below w.heap.size w w' ∧ Gr w w' := by
 have hu58 := Tryz.underlying58
 have HB := zA1.mk (Below.refl w.heap.size w)
 have HX := zA1.mk (Gr.refl w)
 have H : ((zC9.f a0_0 a1_0).bind fun t114 => ((zC9.f a0_1 a1_1).bind fun t115 => ((zBy.f k (([t114, t115] : List Int))).bind fun t119 => (some t119)))) = some r := h
 clear h
 replace H := Option.bind_eq_some_iff.mp H
 obtain ⟨t114, A30, H⟩ := H
 replace H : ((zC9.f a0_1 a1_1).bind fun t115 => ((zBy.f k (([t114, t115] : List Int))).bind fun t119 => (some t119))) = some r := H
 have A3 := zA1.mk A30
 clear A30
 replace H := Option.bind_eq_some_iff.mp H
 obtain ⟨t115, A40, H⟩ := H
 replace H : ((zBy.f k (([t114, t115] : List Int))).bind fun t119 => (some t119)) = some r := H
 have A4 := zA1.mk A40
 clear A40
 obtain ⟨y116, hy116⟩ : ∃ y_ : List Int, y_ = (([t114, t115] : List Int)) := ⟨_, rfl⟩
 replace H : ((zBy.f k y116).bind fun t119 => (some t119)) = some r := by first | (rw [hy116]; with_reducible exact H) | (have H2_ := (Option.bind_some _ _).symm.trans H; rw [hy116]; with_reducible exact H2_) | (have H2_ := (Option.bind_some _ _).symm.trans H; with_reducible exact H2_) | with_reducible exact H | (rw [hy116]; exact H) | exact H
 have Ny116 := zA1.mk hy116
 clear hy116
 replace H := Option.bind_eq_some_iff.mp H
 obtain ⟨t119, A50, H⟩ := H
 replace H : (some t119) = some r := H
 have A5 := zA1.mk A50
 clear A50
 obtain rfl := Option.some.inj H
 go_enter Tryz.func45, Tryz.ntmps45
 try go_wp2_with (first | ((with_reducible refine zBk (N := 2) rfl ?_); refine box_eventG ?hg (N := 2) ?hd (cs := #[.int .i64 a0_0, .int .i64 a0_1]) (t := 58) ?hr ?_; (case hd => rfl); (case hg => rfl); (case hr => first | (go_simp; done) | (go_simp; rfl)); intro gb112 hg w6 hbox hb hgr; have HX0 := zA1.mk (Gr.trans (by repeat (first | (with_reducible first | exact HX.out | apply Gr.alloc | apply Gr.drewN | apply Gr.drew) | exact HX.out)) hgr); clear hgr; clear HX; have HX := HX0; clear HX0; have n0_ := zA1.mk (zAg (by repeat (first | (with_reducible first | exact HB.out | apply zA2 | apply zA0 | apply zA3) | exact HB.out)) hb); have n1_ := zA1.mk (hbox); have n2_ := zA1.mk ((by rw [hg]; exact (zAb (by repeat (first | (with_reducible first | exact HB.out | apply zA2 | apply zA0 | apply zA3) | exact HB.out))) : w.heap.size ≤ gb112)); have n3_ := zA1.mk ((by rw [hg]; exact (zAb (by repeat (first | (with_reducible first | exact HB.out | apply zA2 | apply zA0 | apply zA3) | exact HB.out))) : w.heap.size ≤ gb112)); clear HB; have HB := n0_; have BK112 := n1_; have GW112 := n2_; have GE112 := n3_; clear n0_ n1_ n2_ n3_; clear hb hbox hg) | ((with_reducible refine zBk (N := 3) rfl ?_); refine box_eventG ?hg (N := 3) ?hd (cs := #[.int .i64 a1_0, .int .i64 a1_1]) (t := 58) ?hr ?_; (case hd => rfl); (case hg => rfl); (case hr => first | (go_simp; done) | (go_simp; rfl)); intro gb113 hg w7 hbox hb hgr; have HX0 := zA1.mk (Gr.trans (by repeat (first | (with_reducible first | exact HX.out | apply Gr.alloc | apply Gr.drewN | apply Gr.drew) | exact HX.out)) hgr); clear hgr; clear HX; have HX := HX0; clear HX0; have n0_ := zA1.mk (zAq (g := gb112) (o := .cells #[.int .i64 a0_0, .int .i64 a0_1] 58 (0, 0)) (by (with_reducible repeat (first | refine zA7 ?_ _ | refine zA8 ?_ | refine zA6 ?_ _)); exact BK112.out) hb); have n1_ := zA1.mk (zAg (by repeat (first | (with_reducible first | exact HB.out | apply zA2 | apply zA0 | apply zA3 | refine zA5 ?_ GE112.out) | exact HB.out)) hb); have n2_ := zA1.mk (hbox); have n3_ := zA1.mk ((by rw [hg]; exact (zAb (by repeat (first | (with_reducible first | exact HB.out | apply zA2 | apply zA0 | apply zA3 | refine zA5 ?_ GE112.out) | exact HB.out))) : w.heap.size ≤ gb113)); have n4_ := zA1.mk ((by rw [hg]; exact (zAb (by repeat (first | (with_reducible first | exact HB.out | apply zA2 | apply zA0 | apply zA3 | refine zA5 ?_ GE112.out) | exact HB.out))) : w.heap.size ≤ gb113)); have n5_ := zA1.mk ((by rw [hg]; exact Nat.ne_of_lt (zC7 (g := gb112) (o := .cells #[.int .i64 a0_0, .int .i64 a0_1] 58 (0, 0)) (by (with_reducible repeat (first | refine zA7 ?_ _ | refine zA8 ?_ | refine zA6 ?_ _)); exact BK112.out)) : gb112 ≠ gb113)); have n6_ := zA1.mk ((by rw [hg]; exact Nat.ne_of_gt (zC7 (g := gb112) (o := .cells #[.int .i64 a0_0, .int .i64 a0_1] 58 (0, 0)) (by (with_reducible repeat (first | refine zA7 ?_ _ | refine zA8 ?_ | refine zA6 ?_ _)); exact BK112.out)) : gb113 ≠ gb112)); clear BK112; clear HB; have BK112 := n0_; have HB := n1_; have BK113 := n2_; have GW113 := n3_; have GE113 := n4_; have NB112_113 := n5_; have NB113_112 := n6_; clear n0_ n1_ n2_ n3_ n4_ n5_ n6_; clear hb hbox hg))
 have n0_ := zA1.mk (zA8 BK112.out)
 have n1_ := zA1.mk (zA8 BK113.out)
 have n2_ := zA1.mk (zA3 HB.out)
 have HX0 := zA1.mk (Gr.drew HX.out)
 clear HX
 have HX := HX0
 clear HX0
 clear BK112
 clear BK113
 clear HB
 have BK112 := n0_
 have BK113 := n1_
 have HB := n2_
 clear n0_ n1_ n2_
 refine start_ (n := 13) (S := fun w' => w'.cell? ⟨gb112, 0, none⟩ = some (.int .i64 a0_0) ∧ w'.cell? ⟨gb112, 1, none⟩ = some (.int .i64 a0_1) ∧ w'.cell? ⟨gb113, 0, none⟩ = some (.int .i64 a1_0) ∧ w'.cell? ⟨gb113, 1, none⟩ = some (.int .i64 a1_1)) (ds := []) #[false, false, false, false, false, false, false, false, false, false, false, false, false] (by kernel_rfl) rfl rfl ⟨(zA9 BK112.out 0).trans rfl, (zA9 BK112.out 1).trans rfl, (zA9 BK113.out 0).trans rfl, (zA9 BK113.out 1).trans rfl⟩ (fun hHeld => ?_); refine with_tabW zBx.tab1 zBx.bits1 (fun HT_ HW_ => ?_)
 generalize w7.drew = w8 at BK112 BK113 HB HX hHeld ⊢
 refine pure_ (i := 0) (N := some 5) (v := ?_) (a' := ?_) #[true, false, false, false, false, false, false, false, false, false, false, false, false] rfl rfl (zBf HT_.out (by kernel_rfl)) (fun _ _ _ h => h) (Or.inl ⟨by rfl, ?_⟩) ?_ ?_
 rotate_left
 ·intro w'
  go_simp
  with_reducible rfl
 rotate_left
 ·simp only [Act.put, List.setIfInBounds_toArray, List.set_cons_zero, List.set_cons_succ, i64_w, i32_w]
  rfl
 refine pure_ (i := 2) (N := some 7) (v := ?_) (a' := ?_) #[true, false, true, false, false, false, false, false, false, false, false, false, false] rfl rfl (zBf HT_.out (by kernel_rfl)) (fun _ _ _ h => h) (Or.inl ⟨by rfl, ?_⟩) ?_ ?_
 rotate_left
 ·intro w'
  go_simp
  with_reducible rfl
 rotate_left
 ·simp only [Act.put, List.setIfInBounds_toArray, List.set_cons_zero, List.set_cons_succ, i64_w, i32_w]
  rfl
 refine pure_ (i := 5) (N := some 10) (v := ?_) (a' := ?_) #[true, false, true, false, false, true, false, false, false, false, false, false, false] rfl rfl (zBf HT_.out (by kernel_rfl)) (fun _ _ _ h => h) (Or.inl ⟨by rfl, ?_⟩) ?_ ?_
 rotate_left
 ·intro w'
  go_simp
  with_reducible rfl
 rotate_left
 ·simp only [Act.put, List.setIfInBounds_toArray, List.set_cons_zero, List.set_cons_succ, i64_w, i32_w]
  rfl
 refine pure_ (i := 7) (N := some 12) (v := ?_) (a' := ?_) #[true, false, true, false, false, true, false, true, false, false, false, false, false] rfl rfl (zBf HT_.out (by kernel_rfl)) (fun _ _ _ h => h) (Or.inl ⟨by rfl, ?_⟩) ?_ ?_
 rotate_left
 ·intro w'
  go_simp
  with_reducible rfl
 rotate_left
 ·simp only [Act.put, List.setIfInBounds_toArray, List.set_cons_zero, List.set_cons_succ, i64_w, i32_w]
  rfl
 refine take_ (i := 1) (N := some 6) (v := ?_) (a' := ?_) #[true, true, true, false, false, true, false, true, false, false, false, false, false] rfl rfl (zC1 HT_.out HW_.out (by kernel_rfl)) (fun _ _ _ h => h) (Or.inl ⟨by rfl, ?_⟩) hHeld ?_ ?_
 rotate_left
 ·rintro w' ⟨s0, s1, s2, s3⟩
  go_simp
  with_reducible rfl
 rotate_left
 ·simp only [Act.put, List.setIfInBounds_toArray, List.set_cons_zero, List.set_cons_succ, i64_w, i32_w]
  rfl
 refine take_ (i := 3) (N := some 8) (v := ?_) (a' := ?_) #[true, true, true, true, false, true, false, true, false, false, false, false, false] rfl rfl (zC1 HT_.out HW_.out (by kernel_rfl)) (fun _ _ _ h => h) (Or.inl ⟨by rfl, ?_⟩) hHeld ?_ ?_
 rotate_left
 ·rintro w' ⟨s0, s1, s2, s3⟩
  go_simp
  with_reducible rfl
 rotate_left
 ·simp only [Act.put, List.setIfInBounds_toArray, List.set_cons_zero, List.set_cons_succ, i64_w, i32_w]
  rfl
 refine take_ (i := 6) (N := some 11) (v := ?_) (a' := ?_) #[true, true, true, true, false, true, true, true, false, false, false, false, false] rfl rfl (zC1 HT_.out HW_.out (by kernel_rfl)) (fun _ _ _ h => h) (Or.inl ⟨by rfl, ?_⟩) hHeld ?_ ?_
 rotate_left
 ·rintro w' ⟨s0, s1, s2, s3⟩
  go_simp
  with_reducible rfl
 rotate_left
 ·simp only [Act.put, List.setIfInBounds_toArray, List.set_cons_zero, List.set_cons_succ, i64_w, i32_w]
  rfl
 refine take_ (i := 8) (N := some 13) (v := ?_) (a' := ?_) #[true, true, true, true, false, true, true, true, true, false, false, false, false] rfl rfl (zC1 HT_.out HW_.out (by kernel_rfl)) (fun _ _ _ h => h) (Or.inl ⟨by rfl, ?_⟩) hHeld ?_ ?_
 rotate_left
 ·rintro w' ⟨s0, s1, s2, s3⟩
  go_simp
  with_reducible rfl
 rotate_left
 ·simp only [Act.put, List.setIfInBounds_toArray, List.set_cons_zero, List.set_cons_succ, i64_w, i32_w]
  rfl
 refine one_ (i := 4) (N := some 9) #[true, true, true, true, true, true, true, true, true, false, false, false, false] rfl rfl (one_of HT_.out (by kernel_rfl)) (by decide) (fun K hK => ?_)
 refine goes_ Tryz.func64 (by kernel_rfl) rfl #[.int .i64 a0_0, .int .i64 a1_0] (by rfl) rfl rfl (by (try simp only [List.map_toArray, List.map_cons, List.map_nil]); first | done | rfl | (simp only [List.length_drop, List.length_take]; rfl)) ?_
 with_reducible refine (zC9.calls a0_0 a1_0 t114 _ A3.out).mono ?_
 rintro e w' ⟨rfl, ⟨nd, rfl⟩⟩
 refine ⟨_, rfl, ?_⟩
 refine hK.out _ _ ⟨(zA9 BK112.out 0).trans rfl, (zA9 BK112.out 1).trans rfl, (zA9 BK113.out 0).trans rfl, (zA9 BK113.out 1).trans rfl⟩ (fun hHeld => ?_)
 clear hK K
 refine norm_ (a' := ?_) ?_ ?_
 rotate_left
 ·show Act.put _ (some 9) _ = _
  simp only [Act.put, List.setIfInBounds_toArray, List.set_cons_zero, List.set_cons_succ, i64_w, i32_w]
  rfl
 refine one_ (i := 9) (N := some 14) #[true, true, true, true, true, true, true, true, true, true, false, false, false] rfl rfl (one_of HT_.out (by kernel_rfl)) (by decide) (fun K hK => ?_)
 refine goes_ Tryz.func64 (by kernel_rfl) rfl #[.int .i64 a0_1, .int .i64 a1_1] (by rfl) rfl rfl (by (try simp only [List.map_toArray, List.map_cons, List.map_nil]); first | done | rfl | (simp only [List.length_drop, List.length_take]; rfl)) ?_
 with_reducible refine (zC9.calls a0_1 a1_1 t115 _ A4.out).mono ?_
 rintro e w' ⟨rfl, ⟨nd, rfl⟩⟩
 refine ⟨_, rfl, ?_⟩
 refine hK.out _ _ ⟨(zA9 BK112.out 0).trans rfl, (zA9 BK112.out 1).trans rfl, (zA9 BK113.out 0).trans rfl, (zA9 BK113.out 1).trans rfl⟩ (fun hHeld => ?_)
 clear hK K
 refine norm_ (a' := ?_) ?_ ?_
 rotate_left
 ·show Act.put _ (some 14) _ = _
  simp only [Act.put, List.setIfInBounds_toArray, List.set_cons_zero, List.set_cons_succ, i64_w, i32_w]
  rfl
 refine one_ (i := 10) (N := some 15) #[true, true, true, true, true, true, true, true, true, true, true, false, false] rfl rfl (one_of HT_.out (by kernel_rfl)) (by decide) (fun K hK => ?_)
 refine R_lit_stepG (Kd.int .i64) _ 3 ?hg (N := 15) ?hd (xs := ([t114, t115] : List Int)) (inner := [.int .i64 t114, .int .i64 t115]) (ok := fun _ => True) (okp := fun _ => True) ?hr ?hp (fun _ hk => hk) trivial (Below.refl _ _) (Nat.le_refl _) (by simp) ?_; (case hd => rfl); (case hg => rfl); (case hr => first | (go_simp; done) | (go_simp; rfl)); (case hp => exact (Reps.one (show Kd.M (Kd.int .i64) _ _ _ t114 [.int .i64 t114] from rfl) (Reps.one (show Kd.M (Kd.int .i64) _ _ _ t115 [.int .i64 t115] from rfl) (Reps.none _ _))))
 intro v117 w9 ho10 hb hg_ hnew_ hgr
 have HX0 := zA1.mk (Gr.trans (by repeat (first | (with_reducible first | exact HX.out | apply Gr.alloc | apply Gr.drewN | apply Gr.drew) | exact HX.out)) hgr)
 clear hgr
 clear HX
 have HX := HX0
 clear HX0
 clear hg_ hnew_
 (first | rw [← Ny116.out] at ho10 | (simp only [Int.reduceToNat] at ho10; rw [← Ny116.out] at ho10))
 have n0_ := zA1.mk (Kd.R_lower ho10 (zAb (by repeat (first | (with_reducible first | exact HB.out | apply zA2 | apply zA0 | apply zA3 | refine zA5 ?_ GE112.out | refine zA5 ?_ GE113.out) | exact HB.out))))
 have n1_ := zA1.mk (zAq (g := gb112) (o := .cells #[.int .i64 a0_0, .int .i64 a0_1] 58 (0, 0)) (by (with_reducible repeat (first | refine zA7 ?_ _ | refine zA8 ?_ | refine zA6 ?_ _)); exact BK112.out) hb)
 have n2_ := zA1.mk (zAq (g := gb113) (o := .cells #[.int .i64 a1_0, .int .i64 a1_1] 58 (0, 0)) (by (with_reducible repeat (first | refine zA7 ?_ _ | refine zA8 ?_ | refine zA6 ?_ _)); exact BK113.out) hb)
 have n3_ := zA1.mk (zAg (by repeat (first | (with_reducible first | exact HB.out | apply zA2 | apply zA0 | apply zA3 | refine zA5 ?_ GE112.out | refine zA5 ?_ GE113.out) | exact HB.out)) hb)
 clear BK112
 clear BK113
 clear HB
 have HO118 := n0_
 have BK112 := n1_
 have BK113 := n2_
 have HB := n3_
 clear n0_ n1_ n2_ n3_
 clear hb ho10
 obtain ⟨Ao11, co11, eo11⟩ := Kd.zC3 HO118.out
 (first | subst eo11 | (injection eo11 with f1_ f2_ f3_; have f4_ := f1_.symm; have f5_ := f3_.symm; clear f1_ f2_ f3_; subst f4_; subst f5_))
 refine hK.out _ _ ⟨(zA9 BK112.out 0).trans rfl, (zA9 BK112.out 1).trans rfl, (zA9 BK113.out 0).trans rfl, (zA9 BK113.out 1).trans rfl⟩ (fun hHeld => ?_)
 clear hK K
 refine norm_ (a' := ?_) ?_ ?_
 rotate_left
 ·show Act.put _ (some 15) _ = _
  simp only [Act.put, List.setIfInBounds_toArray, List.set_cons_zero, List.set_cons_succ, i64_w, i32_w]
  rfl
 refine one_ (i := 11) (N := some 16) #[true, true, true, true, true, true, true, true, true, true, true, true, false] rfl rfl (one_of HT_.out (by kernel_rfl)) (by decide) (fun K hK => ?_)
 refine goes_ Tryz.func63 (by kernel_rfl) rfl #[.slice Ao11 y116.length co11] (by rfl) rfl rfl (by (try simp only [List.map_toArray, List.map_cons, List.map_nil]); first | done | rfl | (simp only [List.length_drop, List.length_take]; rfl)) ?_
 with_reducible refine (zBy.calls k _ _ y116 t119 _ ?side1 ?side2 A5.out).mono ?_
 (case side1 => repeat (first | exact (Kd.zAz HO118.out).2.2 | (with_reducible refine Kd.zAj ?_ _) | (with_reducible refine Kd.zAr ?_ _) | (with_reducible refine Kd.zB9 ?_)))
 (case side2 => exact (Kd.zAz HO118.out).2.1)
 rintro e w' ⟨rfl, ⟨nd, rfl⟩⟩
 refine ⟨_, rfl, ?_⟩
 refine hK.out _ _ ⟨(zA9 BK112.out 0).trans rfl, (zA9 BK112.out 1).trans rfl, (zA9 BK113.out 0).trans rfl, (zA9 BK113.out 1).trans rfl⟩ (fun hHeld => ?_)
 clear hK K
 refine norm_ (a' := ?_) ?_ ?_
 rotate_left
 ·show Act.put _ (some 16) _ = _
  simp only [Act.put, List.setIfInBounds_toArray, List.set_cons_zero, List.set_cons_succ, i64_w, i32_w]
  rfl
 refine pure_ (i := 12) (N := some 4) (v := ?_) (a' := ?_) #[true, true, true, true, true, true, true, true, true, true, true, true, true] rfl rfl (zBf HT_.out (by kernel_rfl)) (fun _ _ _ h => h) (Or.inl ⟨by rfl, ?_⟩) ?_ ?_
 rotate_left
 ·intro w'
  go_simp
  with_reducible rfl
 rotate_left
 ·simp only [Act.put, List.setIfInBounds_toArray, List.set_cons_zero, List.set_cons_succ, i64_w, i32_w]
  rfl
 refine done_ (done_of HT_.out (by kernel_rfl)) ?_
 try go_wp2
 go_ret
 exact ⟨by first | rfl | (simp [zAp, zAo] <;> rfl) | (simp [*, zAp, zAo] <;> rfl), by repeat (first | (with_reducible first | exact HB.out | apply zA2 | apply zA0 | apply zA3 | refine zA5 ?_ GE112.out | refine zA5 ?_ GE113.out) | exact HB.out), (by repeat (first | (with_reducible first | exact HX.out | apply Gr.alloc | apply Gr.drewN | apply Gr.drew) | exact HX.out))⟩
theorem zBx.calls (k : Nat) (a0_0 : Int) (a0_1 : Int) (a1_0 : Int) (a1_1 : Int) (r : Int) (w : World) (h : zBx.f k a0_0 a0_1 a1_0 a1_1 = some r) :
  Calls Tryz.prog 45 #[.agg #[.int .i64 a0_0, .int .i64 a0_1], .agg #[.int .i64 a1_0, .int .i64 a1_1]] w fun e w' => e = .returned (.int .i64 r) ∧ Below w.heap.size w w' :=
 (zBx.exact k a0_0 a0_1 a1_0 a1_1 r w h).mono fun _ _ h_ => ⟨h_.1, h_.2.1⟩
end
end Go.Proofs.YtbghfbhlbfcloaaGreatDoor.PL
namespace Go.Proofs
section
set_option linter.unusedVariables false
set_option linter.unusedSimpArgs false
open Go.Shelf
def Tryz.sortEdge_ren : Go.Shelf.Ren := ⟨fun | 6 => 44 | 15 => 57 | 14 => 62 | 28 => 80 | 29 => 81 | 20 => 90 | 21 => 91 | 22 => 92 | 23 => 93 | 24 => 94 | 25 => 95 | 26 => 96 | 27 => 97 | 46 => 110 | 47 => 103 | 48 => 104 | 49 => 111 | 50 => 112 | 57 => 116 | n => n, fun | 22 => 26 | 24 => 58 | 25 => 84 | 3 => 3 | 39 => 65 | 0 => 0 | 53 => 90 | 55 => 92 | 4 => 4 | 46 => 105 | 45 => 104 | 50 => 109 | 5 => 5 | 9 => 9 | 66 => 127 | 70 => 131 | 76 => 138 | 77 => 139 | n => n, fun | n => n⟩
theorem Tryz.sortEdge : Go.Proofs.SlLaysF0.n6 Tryz.prog Tryz.sortEdge_ren := {
 mixed := by kernel_rfl
 f6 := ⟨Tryz.f44.name, by decide, Tryz.func44.trans (congrArg some (by kernel_rfl))⟩
 f14 := ⟨Tryz.f62.name, by decide, Tryz.func62.trans (congrArg some (by kernel_rfl))⟩
 f15 := Tryz.func57.trans (congrArg some (by kernel_rfl))
 f20 := ⟨Tryz.f90.name, by decide, Tryz.func90.trans (congrArg some (by kernel_rfl))⟩
 f21 := ⟨Tryz.f91.name, by decide, Tryz.func91.trans (congrArg some (by kernel_rfl))⟩
 f22 := ⟨Tryz.f92.name, by decide, Tryz.func92.trans (congrArg some (by kernel_rfl))⟩
 f23 := ⟨Tryz.f93.name, by decide, Tryz.func93.trans (congrArg some (by kernel_rfl))⟩
 f24 := ⟨Tryz.f94.name, by decide, Tryz.func94.trans (congrArg some (by kernel_rfl))⟩
 f25 := ⟨Tryz.f95.name, by decide, Tryz.func95.trans (congrArg some (by kernel_rfl))⟩
 f26 := ⟨Tryz.f96.name, by decide, Tryz.func96.trans (congrArg some (by kernel_rfl))⟩
 f27 := ⟨Tryz.f97.name, by decide, Tryz.func97.trans (congrArg some (by kernel_rfl))⟩
 f28 := Tryz.func80.trans (congrArg some (by kernel_rfl))
 f29 := Tryz.func81.trans (congrArg some (by kernel_rfl))
 f46 := ⟨Tryz.f110.name, by decide, Tryz.func110.trans (congrArg some (by kernel_rfl))⟩
 f47 := Tryz.func103.trans (congrArg some (by kernel_rfl))
 f48 := Tryz.func104.trans (congrArg some (by kernel_rfl))
 f49 := ⟨Tryz.f111.name, by decide, Tryz.func111.trans (congrArg some (by kernel_rfl))⟩
 f50 := ⟨Tryz.f112.name, by decide, Tryz.func112.trans (congrArg some (by kernel_rfl))⟩
 f57 := ⟨Tryz.f116.name, by decide, Tryz.func116.trans (congrArg some (by kernel_rfl))⟩
 t0 := Tryz.underlying0
 a0 := Tryz.isAgg0
 z0 := Tryz.sizeOf0
 v0 := Tryz.zeroValue0
 t3 := Tryz.underlying3
 a3 := Tryz.isAgg3
 z3 := Tryz.sizeOf3
 v3 := Tryz.zeroValue3
 t4 := Tryz.underlying4
 a4 := Tryz.isAgg4
 z4 := Tryz.sizeOf4
 v4 := Tryz.zeroValue4
 t5 := Tryz.underlying5
 a5 := Tryz.isAgg5
 z5 := Tryz.sizeOf5
 v5 := Tryz.zeroValue5
 t9 := Tryz.underlying9
 a9 := Tryz.isAgg9
 z9 := Tryz.sizeOf9
 v9 := Tryz.zeroValue9
 t22 := Tryz.underlying26
 a22 := Tryz.isAgg26
 z22 := Tryz.sizeOf26
 v22 := Tryz.zeroValue26
 t25 := Tryz.underlying84
 a25 := Tryz.isAgg84
 z25 := Tryz.sizeOf84
 v25 := Tryz.zeroValue84
 t39 := Tryz.underlying65
 a39 := Tryz.isAgg65
 z39 := Tryz.sizeOf65
 v39 := Tryz.zeroValue65
 t45 := Tryz.underlying104
 a45 := Tryz.isAgg104
 z45 := Tryz.sizeOf104
 v45 := Tryz.zeroValue104
 t46 := Tryz.underlying105
 a46 := Tryz.isAgg105
 z46 := Tryz.sizeOf105
 v46 := Tryz.zeroValue105
 t50 := Tryz.underlying109
 a50 := Tryz.isAgg109
 z50 := Tryz.sizeOf109
 v50 := Tryz.zeroValue109
 t53 := Tryz.underlying90
 a53 := Tryz.isAgg90
 z53 := Tryz.sizeOf90
 v53 := Tryz.zeroValue90
 t55 := Tryz.underlying92
 a55 := Tryz.isAgg92
 z55 := Tryz.sizeOf92
 v55 := Tryz.zeroValue92
 t66 := Tryz.underlying127
 a66 := Tryz.isAgg127
 z66 := Tryz.sizeOf127
 v66 := Tryz.zeroValue127
 t70 := Tryz.underlying131
 a70 := Tryz.isAgg131
 z70 := Tryz.sizeOf131
 v70 := Tryz.zeroValue131
 t76 := Tryz.underlying138
 a76 := Tryz.isAgg138
 z76 := Tryz.sizeOf138
 v76 := Tryz.zeroValue138
 t77 := Tryz.underlying139
 a77 := Tryz.isAgg139
 z77 := Tryz.sizeOf139
 v77 := Tryz.zeroValue139 }
def Tryz.sortCut_ren : Go.Shelf.Ren := ⟨fun | 6 => 37 | 15 => 57 | 14 => 60 | 28 => 80 | 29 => 81 | 20 => 82 | 21 => 83 | 22 => 84 | 23 => 85 | 24 => 86 | 25 => 87 | 26 => 88 | 27 => 89 | 46 => 107 | 47 => 103 | 48 => 104 | 49 => 108 | 50 => 109 | 57 => 115 | n => n, fun | 22 => 40 | 24 => 46 | 25 => 78 | 3 => 3 | 39 => 65 | 0 => 0 | 53 => 90 | 55 => 92 | 4 => 4 | 46 => 105 | 45 => 104 | 50 => 109 | 5 => 5 | 9 => 9 | 66 => 127 | 70 => 131 | 76 => 138 | 77 => 139 | n => n, fun | n => n⟩
theorem Tryz.sortCut : Go.Proofs.SlLaysF0.n6 Tryz.prog Tryz.sortCut_ren := {
 mixed := by kernel_rfl
 f6 := ⟨Tryz.f37.name, by decide, Tryz.func37.trans (congrArg some (by kernel_rfl))⟩
 f14 := ⟨Tryz.f60.name, by decide, Tryz.func60.trans (congrArg some (by kernel_rfl))⟩
 f15 := Tryz.func57.trans (congrArg some (by kernel_rfl))
 f20 := ⟨Tryz.f82.name, by decide, Tryz.func82.trans (congrArg some (by kernel_rfl))⟩
 f21 := ⟨Tryz.f83.name, by decide, Tryz.func83.trans (congrArg some (by kernel_rfl))⟩
 f22 := ⟨Tryz.f84.name, by decide, Tryz.func84.trans (congrArg some (by kernel_rfl))⟩
 f23 := ⟨Tryz.f85.name, by decide, Tryz.func85.trans (congrArg some (by kernel_rfl))⟩
 f24 := ⟨Tryz.f86.name, by decide, Tryz.func86.trans (congrArg some (by kernel_rfl))⟩
 f25 := ⟨Tryz.f87.name, by decide, Tryz.func87.trans (congrArg some (by kernel_rfl))⟩
 f26 := ⟨Tryz.f88.name, by decide, Tryz.func88.trans (congrArg some (by kernel_rfl))⟩
 f27 := ⟨Tryz.f89.name, by decide, Tryz.func89.trans (congrArg some (by kernel_rfl))⟩
 f28 := Tryz.func80.trans (congrArg some (by kernel_rfl))
 f29 := Tryz.func81.trans (congrArg some (by kernel_rfl))
 f46 := ⟨Tryz.f107.name, by decide, Tryz.func107.trans (congrArg some (by kernel_rfl))⟩
 f47 := Tryz.func103.trans (congrArg some (by kernel_rfl))
 f48 := Tryz.func104.trans (congrArg some (by kernel_rfl))
 f49 := ⟨Tryz.f108.name, by decide, Tryz.func108.trans (congrArg some (by kernel_rfl))⟩
 f50 := ⟨Tryz.f109.name, by decide, Tryz.func109.trans (congrArg some (by kernel_rfl))⟩
 f57 := ⟨Tryz.f115.name, by decide, Tryz.func115.trans (congrArg some (by kernel_rfl))⟩
 t0 := Tryz.underlying0
 a0 := Tryz.isAgg0
 z0 := Tryz.sizeOf0
 v0 := Tryz.zeroValue0
 t3 := Tryz.underlying3
 a3 := Tryz.isAgg3
 z3 := Tryz.sizeOf3
 v3 := Tryz.zeroValue3
 t4 := Tryz.underlying4
 a4 := Tryz.isAgg4
 z4 := Tryz.sizeOf4
 v4 := Tryz.zeroValue4
 t5 := Tryz.underlying5
 a5 := Tryz.isAgg5
 z5 := Tryz.sizeOf5
 v5 := Tryz.zeroValue5
 t9 := Tryz.underlying9
 a9 := Tryz.isAgg9
 z9 := Tryz.sizeOf9
 v9 := Tryz.zeroValue9
 t22 := Tryz.underlying40
 a22 := Tryz.isAgg40
 z22 := Tryz.sizeOf40
 v22 := Tryz.zeroValue40
 t25 := Tryz.underlying78
 a25 := Tryz.isAgg78
 z25 := Tryz.sizeOf78
 v25 := Tryz.zeroValue78
 t39 := Tryz.underlying65
 a39 := Tryz.isAgg65
 z39 := Tryz.sizeOf65
 v39 := Tryz.zeroValue65
 t45 := Tryz.underlying104
 a45 := Tryz.isAgg104
 z45 := Tryz.sizeOf104
 v45 := Tryz.zeroValue104
 t46 := Tryz.underlying105
 a46 := Tryz.isAgg105
 z46 := Tryz.sizeOf105
 v46 := Tryz.zeroValue105
 t50 := Tryz.underlying109
 a50 := Tryz.isAgg109
 z50 := Tryz.sizeOf109
 v50 := Tryz.zeroValue109
 t53 := Tryz.underlying90
 a53 := Tryz.isAgg90
 z53 := Tryz.sizeOf90
 v53 := Tryz.zeroValue90
 t55 := Tryz.underlying92
 a55 := Tryz.isAgg92
 z55 := Tryz.sizeOf92
 v55 := Tryz.zeroValue92
 t66 := Tryz.underlying127
 a66 := Tryz.isAgg127
 z66 := Tryz.sizeOf127
 v66 := Tryz.zeroValue127
 t70 := Tryz.underlying131
 a70 := Tryz.isAgg131
 z70 := Tryz.sizeOf131
 v70 := Tryz.zeroValue131
 t76 := Tryz.underlying138
 a76 := Tryz.isAgg138
 z76 := Tryz.sizeOf138
 v76 := Tryz.zeroValue138
 t77 := Tryz.underlying139
 a77 := Tryz.isAgg139
 z77 := Tryz.sizeOf139
 v77 := Tryz.zeroValue139 }
def Tryz.sortSet_ren : Go.Shelf.Ren := ⟨fun | 6 => 31 | 15 => 57 | 14 => 56 | 28 => 80 | 29 => 81 | 20 => 72 | 21 => 73 | 22 => 74 | 23 => 75 | 24 => 76 | 25 => 77 | 26 => 78 | 27 => 79 | 46 => 102 | 47 => 103 | 48 => 104 | 49 => 105 | 50 => 106 | 57 => 114 | n => n, fun | 22 => 30 | 24 => 23 | 25 => 74 | 3 => 3 | 39 => 65 | 0 => 0 | 53 => 90 | 55 => 92 | 4 => 4 | 46 => 105 | 45 => 104 | 50 => 109 | 5 => 5 | 9 => 9 | 66 => 127 | 70 => 131 | 76 => 138 | 77 => 139 | n => n, fun | n => n⟩
theorem Tryz.sortSet : Go.Proofs.SlLaysF.n6 Tryz.prog Tryz.sortSet_ren := {
 mixed := by kernel_rfl
 f6 := ⟨Tryz.f31.name, by decide, Tryz.func31.trans (congrArg some (by kernel_rfl))⟩
 f14 := ⟨Tryz.f56.name, by decide, Tryz.func56.trans (congrArg some (by kernel_rfl))⟩
 f15 := Tryz.func57.trans (congrArg some (by kernel_rfl))
 f20 := ⟨Tryz.f72.name, by decide, Tryz.func72.trans (congrArg some (by kernel_rfl))⟩
 f21 := ⟨Tryz.f73.name, by decide, Tryz.func73.trans (congrArg some (by kernel_rfl))⟩
 f22 := ⟨Tryz.f74.name, by decide, Tryz.func74.trans (congrArg some (by kernel_rfl))⟩
 f23 := ⟨Tryz.f75.name, by decide, Tryz.func75.trans (congrArg some (by kernel_rfl))⟩
 f24 := ⟨Tryz.f76.name, by decide, Tryz.func76.trans (congrArg some (by kernel_rfl))⟩
 f25 := ⟨Tryz.f77.name, by decide, Tryz.func77.trans (congrArg some (by kernel_rfl))⟩
 f26 := ⟨Tryz.f78.name, by decide, Tryz.func78.trans (congrArg some (by kernel_rfl))⟩
 f27 := ⟨Tryz.f79.name, by decide, Tryz.func79.trans (congrArg some (by kernel_rfl))⟩
 f28 := Tryz.func80.trans (congrArg some (by kernel_rfl))
 f29 := Tryz.func81.trans (congrArg some (by kernel_rfl))
 f46 := ⟨Tryz.f102.name, by decide, Tryz.func102.trans (congrArg some (by kernel_rfl))⟩
 f47 := Tryz.func103.trans (congrArg some (by kernel_rfl))
 f48 := Tryz.func104.trans (congrArg some (by kernel_rfl))
 f49 := ⟨Tryz.f105.name, by decide, Tryz.func105.trans (congrArg some (by kernel_rfl))⟩
 f50 := ⟨Tryz.f106.name, by decide, Tryz.func106.trans (congrArg some (by kernel_rfl))⟩
 f57 := ⟨Tryz.f114.name, by decide, Tryz.func114.trans (congrArg some (by kernel_rfl))⟩
 t0 := Tryz.underlying0
 a0 := Tryz.isAgg0
 z0 := Tryz.sizeOf0
 v0 := Tryz.zeroValue0
 t3 := Tryz.underlying3
 a3 := Tryz.isAgg3
 z3 := Tryz.sizeOf3
 v3 := Tryz.zeroValue3
 t4 := Tryz.underlying4
 a4 := Tryz.isAgg4
 z4 := Tryz.sizeOf4
 v4 := Tryz.zeroValue4
 t5 := Tryz.underlying5
 a5 := Tryz.isAgg5
 z5 := Tryz.sizeOf5
 v5 := Tryz.zeroValue5
 t9 := Tryz.underlying9
 a9 := Tryz.isAgg9
 z9 := Tryz.sizeOf9
 v9 := Tryz.zeroValue9
 t22 := Tryz.underlying30
 a22 := Tryz.isAgg30
 z22 := Tryz.sizeOf30
 v22 := Tryz.zeroValue30
 a24 := Tryz.isAgg23
 z24 := Tryz.sizeOf23
 t25 := Tryz.underlying74
 a25 := Tryz.isAgg74
 z25 := Tryz.sizeOf74
 v25 := Tryz.zeroValue74
 t39 := Tryz.underlying65
 a39 := Tryz.isAgg65
 z39 := Tryz.sizeOf65
 v39 := Tryz.zeroValue65
 t45 := Tryz.underlying104
 a45 := Tryz.isAgg104
 z45 := Tryz.sizeOf104
 v45 := Tryz.zeroValue104
 t46 := Tryz.underlying105
 a46 := Tryz.isAgg105
 z46 := Tryz.sizeOf105
 v46 := Tryz.zeroValue105
 t50 := Tryz.underlying109
 a50 := Tryz.isAgg109
 z50 := Tryz.sizeOf109
 v50 := Tryz.zeroValue109
 t53 := Tryz.underlying90
 a53 := Tryz.isAgg90
 z53 := Tryz.sizeOf90
 v53 := Tryz.zeroValue90
 t55 := Tryz.underlying92
 a55 := Tryz.isAgg92
 z55 := Tryz.sizeOf92
 v55 := Tryz.zeroValue92
 t66 := Tryz.underlying127
 a66 := Tryz.isAgg127
 z66 := Tryz.sizeOf127
 v66 := Tryz.zeroValue127
 t70 := Tryz.underlying131
 a70 := Tryz.isAgg131
 z70 := Tryz.sizeOf131
 v70 := Tryz.zeroValue131
 t76 := Tryz.underlying138
 a76 := Tryz.isAgg138
 z76 := Tryz.sizeOf138
 v76 := Tryz.zeroValue138
 t77 := Tryz.underlying139
 a77 := Tryz.isAgg139
 z77 := Tryz.sizeOf139
 v77 := Tryz.zeroValue139 }
def Tryz.sortSet0_ren : Go.Shelf.Ren := ⟨fun | 6 => 31 | 15 => 57 | 14 => 56 | 28 => 80 | 29 => 81 | 20 => 72 | 21 => 73 | 22 => 74 | 23 => 75 | 24 => 76 | 25 => 77 | 26 => 78 | 27 => 79 | 46 => 102 | 47 => 103 | 48 => 104 | 49 => 105 | 50 => 106 | 57 => 114 | n => n, fun | 22 => 30 | 24 => 23 | 25 => 74 | 3 => 3 | 39 => 65 | 0 => 0 | 53 => 90 | 55 => 92 | 4 => 4 | 46 => 105 | 45 => 104 | 50 => 109 | 5 => 5 | 9 => 9 | 66 => 127 | 70 => 131 | 76 => 138 | 77 => 139 | n => n, fun | n => n⟩
theorem Tryz.sortSet0 : Go.Proofs.SlLaysF0.n6 Tryz.prog Tryz.sortSet0_ren := {
 mixed := by kernel_rfl
 f6 := ⟨Tryz.f31.name, by decide, Tryz.func31.trans (congrArg some (by kernel_rfl))⟩
 f14 := ⟨Tryz.f56.name, by decide, Tryz.func56.trans (congrArg some (by kernel_rfl))⟩
 f15 := Tryz.func57.trans (congrArg some (by kernel_rfl))
 f20 := ⟨Tryz.f72.name, by decide, Tryz.func72.trans (congrArg some (by kernel_rfl))⟩
 f21 := ⟨Tryz.f73.name, by decide, Tryz.func73.trans (congrArg some (by kernel_rfl))⟩
 f22 := ⟨Tryz.f74.name, by decide, Tryz.func74.trans (congrArg some (by kernel_rfl))⟩
 f23 := ⟨Tryz.f75.name, by decide, Tryz.func75.trans (congrArg some (by kernel_rfl))⟩
 f24 := ⟨Tryz.f76.name, by decide, Tryz.func76.trans (congrArg some (by kernel_rfl))⟩
 f25 := ⟨Tryz.f77.name, by decide, Tryz.func77.trans (congrArg some (by kernel_rfl))⟩
 f26 := ⟨Tryz.f78.name, by decide, Tryz.func78.trans (congrArg some (by kernel_rfl))⟩
 f27 := ⟨Tryz.f79.name, by decide, Tryz.func79.trans (congrArg some (by kernel_rfl))⟩
 f28 := Tryz.func80.trans (congrArg some (by kernel_rfl))
 f29 := Tryz.func81.trans (congrArg some (by kernel_rfl))
 f46 := ⟨Tryz.f102.name, by decide, Tryz.func102.trans (congrArg some (by kernel_rfl))⟩
 f47 := Tryz.func103.trans (congrArg some (by kernel_rfl))
 f48 := Tryz.func104.trans (congrArg some (by kernel_rfl))
 f49 := ⟨Tryz.f105.name, by decide, Tryz.func105.trans (congrArg some (by kernel_rfl))⟩
 f50 := ⟨Tryz.f106.name, by decide, Tryz.func106.trans (congrArg some (by kernel_rfl))⟩
 f57 := ⟨Tryz.f114.name, by decide, Tryz.func114.trans (congrArg some (by kernel_rfl))⟩
 t0 := Tryz.underlying0
 a0 := Tryz.isAgg0
 z0 := Tryz.sizeOf0
 v0 := Tryz.zeroValue0
 t3 := Tryz.underlying3
 a3 := Tryz.isAgg3
 z3 := Tryz.sizeOf3
 v3 := Tryz.zeroValue3
 t4 := Tryz.underlying4
 a4 := Tryz.isAgg4
 z4 := Tryz.sizeOf4
 v4 := Tryz.zeroValue4
 t5 := Tryz.underlying5
 a5 := Tryz.isAgg5
 z5 := Tryz.sizeOf5
 v5 := Tryz.zeroValue5
 t9 := Tryz.underlying9
 a9 := Tryz.isAgg9
 z9 := Tryz.sizeOf9
 v9 := Tryz.zeroValue9
 t22 := Tryz.underlying30
 a22 := Tryz.isAgg30
 z22 := Tryz.sizeOf30
 v22 := Tryz.zeroValue30
 t25 := Tryz.underlying74
 a25 := Tryz.isAgg74
 z25 := Tryz.sizeOf74
 v25 := Tryz.zeroValue74
 t39 := Tryz.underlying65
 a39 := Tryz.isAgg65
 z39 := Tryz.sizeOf65
 v39 := Tryz.zeroValue65
 t45 := Tryz.underlying104
 a45 := Tryz.isAgg104
 z45 := Tryz.sizeOf104
 v45 := Tryz.zeroValue104
 t46 := Tryz.underlying105
 a46 := Tryz.isAgg105
 z46 := Tryz.sizeOf105
 v46 := Tryz.zeroValue105
 t50 := Tryz.underlying109
 a50 := Tryz.isAgg109
 z50 := Tryz.sizeOf109
 v50 := Tryz.zeroValue109
 t53 := Tryz.underlying90
 a53 := Tryz.isAgg90
 z53 := Tryz.sizeOf90
 v53 := Tryz.zeroValue90
 t55 := Tryz.underlying92
 a55 := Tryz.isAgg92
 z55 := Tryz.sizeOf92
 v55 := Tryz.zeroValue92
 t66 := Tryz.underlying127
 a66 := Tryz.isAgg127
 z66 := Tryz.sizeOf127
 v66 := Tryz.zeroValue127
 t70 := Tryz.underlying131
 a70 := Tryz.isAgg131
 z70 := Tryz.sizeOf131
 v70 := Tryz.zeroValue131
 t76 := Tryz.underlying138
 a76 := Tryz.isAgg138
 z76 := Tryz.sizeOf138
 v76 := Tryz.zeroValue138
 t77 := Tryz.underlying139
 a77 := Tryz.isAgg139
 z77 := Tryz.sizeOf139
 v77 := Tryz.zeroValue139 }
end
end Go.Proofs
namespace Go.Proofs.YtbghfbhlbfcloaaGreatDoor.PL
section
open Go.RowKit Go.Sort Go.Proofs
set_option linter.unusedVariables false
set_option linter.unusedSimpArgs false
theorem sortsEdge : SortsK Tryz.prog 44 2 := fun m enc hk h1 cf hO g cb blk off cap d w eg hcmp hH hblk hsz hT =>
 AnyQ.slices_SortFunc_total Tryz.sortEdge 2 Tryz.isAgg58 Tryz.sizeOf58 enc hk h1 cf hO g cb blk off cap d w eg hcmp hH hblk hsz hT
theorem sortsCut : SortsK Tryz.prog 37 2 := fun m enc hk h1 cf hO g cb blk off cap d w eg hcmp hH hblk hsz hT =>
 AnyQ.slices_SortFunc_total Tryz.sortCut 2 Tryz.isAgg46 Tryz.sizeOf46 enc hk h1 cf hO g cb blk off cap d w eg hcmp hH hblk hsz hT
theorem sortNoneEdge (p : Option Addr) (cap : Nat) (fv : Value) (w : World) : Calls Tryz.prog 44 #[.slice p 0 cap, fv] w fun e w' => e = .returned (.tuple #[]) ∧ w' = w := AnyF.slices_SortFunc_none Tryz.sortEdge p cap fv w
theorem sortNoneCut (p : Option Addr) (cap : Nat) (fv : Value) (w : World) : Calls Tryz.prog 37 #[.slice p 0 cap, fv] w fun e w' => e = .returned (.tuple #[]) ∧ w' = w := AnyF.slices_SortFunc_none Tryz.sortCut p cap fv w
end
end Go.Proofs.YtbghfbhlbfcloaaGreatDoor.PL
namespace Go.Proofs.YtbghfbhlbfcloaaGreatDoor.PL
section
open Go.RowKit Go.Sort Go.Proofs Go.Proofs.YtbghfbhlbfcloaaGreatDoorW.PrintWords Go.Proofs.YtbghfbhlbfcloaaGreatDoorW.PrintLast Go.Proofs.YtbghfbhlbfcloaaGreatDoorW.PrintMore
set_option linter.unusedVariables false
set_option linter.unusedSimpArgs false
def ordE (x y : S58) : Int := if x.f0 < y.f0 then -1 else if y.f0 < x.f0 then 1 else if x.f1 < y.f1 then -1 else if y.f1 < x.f1 then 1 else 0
def okE (n : Int) (e : S58) : Bool := decide (0 ≤ e.f0) && decide (e.f0 < n) && (decide (0 ≤ e.f1) && decide (e.f1 < n))
def sortE (l : List S58) : List S58 := isort (leC ordE) l
def nodupE : List S58 → Bool
 | [] => true
 | a :: r => r.all (fun b => !(a.f0 == b.f0 && a.f1 == b.f1)) && nodupE r
def MK.f (a0 : Int) (l1 : List S58) : Option (Int × List S58 × Int) :=
 if 0 ≤ a0 ∧ a0 ≤ 64 ∧ l1.all (okE a0) = true ∧ l1.length ≤ 1000 ∧ nodupE l1 = true then some (a0, sortE l1, 0) else none
theorem cmp_f (a b : Int) : zC9.f a b = some (if a < b then -1 else if b < a then 1 else 0) := by
 unfold zC9.f zC2.f
 simp only [Option.bind_some, bne_self_eq_false, Bool.false_eq_true, if_false]
 by_cases h1 : a < b
 ·rw [if_pos h1, if_pos h1]
 ·rw [if_neg h1, if_neg h1]
  by_cases h2 : b < a
  ·rw [if_pos h2, if_pos h2]
  ·rw [if_neg h2, if_neg h2]
theorem or_f (k : Nat) (p q : Int) : zBy.f (k + 4) [p, q] = some (if p = 0 then q else p) := by
 unfold zBy.f
 by_cases hp : p = 0
 ·by_cases hq : q = 0
  ·subst hp hq
   simp [zBy.l0, Go.Proofs.YtbghfbhlbfcloaaGreatDoorW.PrintWords.rd, wrap64]
  ·subst hp
   simp [zBy.l0, Go.Proofs.YtbghfbhlbfcloaaGreatDoorW.PrintWords.rd, wrap64, hq]
 ·simp [zBy.l0, Go.Proofs.YtbghfbhlbfcloaaGreatDoorW.PrintWords.rd, hp]
theorem order_f (k : Nat) (x y : S58) : zBx.f (k + 4) x.f0 x.f1 y.f0 y.f1 = some (ordE x y) := by
 unfold zBx.f ordE
 rw [cmp_f, cmp_f]
 simp only [Option.bind_some]
 rw [or_f]
 by_cases h1 : x.f0 < y.f0
 ·simp [h1]
 ·by_cases h2 : y.f0 < x.f0
  ·simp [h1, h2]
  ·simp [h1, h2]
theorem ordE_lt (x y : S58) : ltOf ordE x y = decide (x.f0 < y.f0 ∨ (x.f0 = y.f0 ∧ x.f1 < y.f1)) := by
 unfold ltOf ordE
 by_cases h1 : x.f0 < y.f0
 ·simp [h1]
 ·by_cases h2 : y.f0 < x.f0
  ·simp [h1, h2]; omega
  ·have : x.f0 = y.f0 := by omega
   by_cases h3 : x.f1 < y.f1
   ·simp [h3, this]
   ·by_cases h4 : y.f1 < x.f1 <;> simp [h1, h2, h3, h4]
theorem ordE_swo : SWO (ltOf ordE) where
 irrefl x := by rw [ordE_lt]; simp
 trans x y z h1 h2 := by rw [ordE_lt] at *; simp at *; omega
 ntrans x y z h1 h2 := by rw [ordE_lt] at *; simp at *; omega
theorem nodupE_at : ∀ (l : List S58), nodupE l = true → ∀ i j, i < j → j < l.length → ∀ z, ¬ ((l.getD i z).f0 = (l.getD j z).f0 ∧ (l.getD i z).f1 = (l.getD j z).f1)
 | [], _, i, j, _, h, _ => by simp at h
 | a :: r, hn, i, j, hij, hj, z => by
  simp only [nodupE, Bool.and_eq_true] at hn
  obtain ⟨j, rfl⟩ : ∃ q, j = q + 1 := ⟨j - 1, by omega⟩
  have hj' : j < r.length := by simpa using hj
  cases i with
  | zero =>
   have h1 := List.all_eq_true.1 hn.1 r[j] (List.getElem_mem hj')
   simp only [Bool.not_eq_true', Bool.and_eq_false_iff, beq_eq_false_iff_ne] at h1
   rw [List.getD_cons_zero, List.getD_cons_succ, List.getD_eq_getElem?_getD, List.getElem?_eq_getElem hj']
   rintro ⟨e1, e2⟩
   rcases h1 with h1 | h1
   ·exact h1 e1
   ·exact h1 e2
  | succ i =>
   rw [List.getD_cons_succ, List.getD_cons_succ]
   exact nodupE_at r hn.2 i j (by omega) hj' z
theorem nodupE_pair : ∀ (l : List S58), nodupE l = true → l.Pairwise fun a b => ¬ (a.f0 = b.f0 ∧ a.f1 = b.f1)
 | [], _ => List.Pairwise.nil
 | a :: r, hn => by
  simp only [nodupE, Bool.and_eq_true] at hn
  refine List.Pairwise.cons (fun b hb => ?_) (nodupE_pair r hn.2)
  have h1 := List.all_eq_true.1 hn.1 b hb
  simp only [Bool.not_eq_true', Bool.and_eq_false_iff, beq_eq_false_iff_ne] at h1
  rintro ⟨e1, e2⟩
  rcases h1 with h1 | h1
  ·exact h1 e1
  ·exact h1 e2
theorem adj_of_pair : ∀ (l : List S58), (l.Pairwise fun a b => ¬ (a.f0 = b.f0 ∧ a.f1 = b.f1)) → adjB l = true
 | [], _ => rfl
 | [a], _ => rfl
 | a :: b :: r, h => by
  have h1 := List.rel_of_pairwise_cons h (List.mem_cons_self (a := b) (l := r))
  have h2 := adj_of_pair (b :: r) (List.Pairwise.of_cons h)
  simp only [adjB, h2, Bool.and_true, Bool.not_eq_true', Bool.and_eq_false_iff, beq_eq_false_iff_ne]
  by_cases e : a.f0 = b.f0
  ·exact .inr (fun e2 => h1 ⟨e, e2⟩)
  ·exact .inl e
theorem sortE_adj (l : List S58) (h : nodupE l = true) : adjB (sortE l) = true :=
 adj_of_pair _ (((isort_perm _ l).pairwise_iff (fun h e => h ⟨e.1.symm, e.2.symm⟩)).2 (nodupE_pair l h))
theorem cmpE (x y : S58) (cx cy : List Value) (W : World) (hx : k58.K W x cx) (hy : k58.K W y cy) :
  Calls Tryz.prog 45 (#[.agg cx.toArray, .agg cy.toArray] ++ #[]) W fun e w' => e = .returned (.int .i64 (ordE x y)) ∧ Gr W w' := by
 obtain rfl := k58_open hx
 obtain rfl := k58_open hy
 exact (zBx.exact 4 x.f0 x.f1 y.f0 y.f1 (ordE x y) W (order_f 0 x y)).mono fun e w' h => ⟨h.1, h.2.2⟩
theorem sortE_eq (l : List S58) : (l.mergeSort fun x y => !(decide (ordE y x < 0))) = sortE l := merge_cf ordE ordE_swo l (fun a b _ _ h1 h2 => by
 have l1 := ordE_lt a b
 have l2 := ordE_lt b a
 unfold ltOf at l1 l2
 rw [decide_eq_false h1] at l1
 rw [decide_eq_false h2] at l2
 have l1' := of_decide_eq_false l1.symm
 have l2' := of_decide_eq_false l2.symm
 obtain ⟨a0, a1⟩ := a
 obtain ⟨b0, b1⟩ := b
 dsimp only at l1' l2'
 rw [show a0 = b0 by omega, show a1 = b1 by omega])
theorem sortCallE (W : World) (base : Nat) (v : Value) (l : List S58) (hl : l.length ≤ 1000) (hn : nodupE l = true) (HO : Kd.R k58 58 W base (fun _ => True) v l) (hb : base ≤ W.heap.size) :
  Calls Tryz.prog 44 #[v, .func (.func 45) #[] #[]] W fun e w' => e = .returned (.tuple #[]) ∧ Kd.R k58 58 w' base (fun _ => True) v (sortE l) ∧ Below base W w' := by
 rcases Nat.eq_zero_or_pos l.length with h0 | h0
 ·obtain rfl := List.eq_nil_of_length_eq_zero h0
  obtain ⟨A, c, rfl⟩ := Kd.zC3 HO
  refine (sortNoneEdge A c _ W).mono fun e w' h => ?_
  obtain ⟨he, rfl⟩ := h
  exact ⟨he, by simpa [sortE, isort] using HO, Below.refl _ _⟩
 ·have HO' := HO
  obtain ⟨_, inner, ⟨_, ho⟩, _⟩ := HO'
  rcases ho with ⟨_, hx⟩ | ⟨g, cap, cur, rfl, hg, _⟩
  ·omega
  ·refine (sortR sortsEdge HO (by omega) h0 z58 ordE ordE_swo ?_ (enters_of Tryz.func45 (by kernel_rfl) rfl) (fun x y cx cy W' _ _ hx hy => cmpE x y cx cy W' hx hy)).mono fun e w' h => ⟨h.1, sortE_eq l ▸ h.2.1, (Below.refl base W).grown h.2.2 hb (fun k hk => by cases hk; exact hg)⟩
   intro i j hi hj h1 h2
   have l1 := ordE_lt (l.getD i z58) (l.getD j z58)
   have l2 := ordE_lt (l.getD j z58) (l.getD i z58)
   unfold ltOf at l1 l2
   rw [decide_eq_false h1] at l1
   rw [decide_eq_false h2] at l2
   have l1' := of_decide_eq_false l1.symm
   have l2' := of_decide_eq_false l2.symm
   rcases Nat.lt_trichotomy i j with h | h | h
   ·exact absurd (by omega) (nodupE_at l hn i j h hj z58)
   ·exact h
   ·exact absurd (by omega) (nodupE_at l hn j i h hi z58)
theorem okE_at {n : Int} {l : List S58} (h : l.all (okE n) = true) (x : Int) (h0 : 0 ≤ x) (h1 : x < l.length) : zCa.f n (zB2 l x).f0 = some false ∧ zCa.f n (zB2 l x).f1 = some false := by
 have hl : x.toNat < l.length := by omega
 have h2 := List.all_eq_true.1 h l[x.toNat] (List.getElem_mem hl)
 have e : zB2 l x = l[x.toNat] := by unfold zB2; rw [List.getD_eq_getElem?_getD, List.getElem?_eq_getElem hl]; rfl
 rw [← e] at h2
 simp only [okE, Bool.and_eq_true, decide_eq_true_eq] at h2
 obtain ⟨⟨a, b⟩, c, d⟩ := h2
 unfold zCa.f
 rw [if_neg (by omega), if_neg (by omega), decide_eq_false (by omega), decide_eq_false (by omega)]
 exact ⟨rfl, rfl⟩
theorem compactS (A : Option Addr) (c : Nat) (l : List S58) (W : World) {base : Nat} (hl : l.length ≤ 1000) (hn : nodupE l = true) (HO : Kd.R k58 58 W base (fun _ => True) (.slice A l.length c) (sortE l)) :
  Calls Tryz.prog 46 #[.slice A l.length c] W fun e w' => e = .returned (.slice A l.length c) ∧ zB6 W w' := by
 have e : (sortE l).length = l.length := (isort_perm _ l).length_eq
 have h := compactE A c (sortE l) W (Kd.zAz HO).2.2 (by rw [e]; exact (Kd.zAz HO).2.1) (by omega) (sortE_adj l hn)
 rwa [e] at h
set_option maxHeartbeats 2000000 in
theorem MK.calls (a0 : Int) (A1 : Option Addr) (c1 : Nat) (l1 : List S58) (r1 : Int) (r2 : List S58) (r3 : Int) (w : World) (hr1 : Kd.C k58 w A1 l1.length l1) (hc1 : l1.length ≤ c1) (h : MK.f a0 l1 = some (r1, r2, r3)) :
  Calls Tryz.prog 24 #[.int .i64 a0, .slice A1 l1.length c1] w fun e w' => ∃ v1_ : Value, e = .returned (.tuple #[.agg #[.int .i64 r1, v1_], .int .i64 r3]) ∧ Kd.R k58 58 w' w.heap.size (fun _ => True) v1_ r2 ∧ Below w.heap.size w w' := by
 unfold MK.f at h
 split at h
 case isFalse => cases h
 case isTrue hh =>
  obtain ⟨h0, h64, hall, hlen, hnd⟩ := hh
  injection h with h
  injection h with e1 h
  injection h with e2 e3
  subst e1 e2 e3
  have HA := zA1.mk hall
  have HN := zA1.mk hnd
  have HR := zA1.mk hr1
  have HC := zA1.mk hc1
  have HL := zA1.mk hlen
  clear hall hnd hr1 hc1 hlen
  have hu28 := Tryz.underlying28
  have hu68 := Tryz.underlying58
  have g1 : ¬ a0 < 0 := by omega
  have g2 : ¬ 64 < a0 := by omega
  go_enter Tryz.func24, Tryz.ntmps24
  go_wp2
  go_loopw [18] (fun v18 wr => ∃ x : Int, v18 = .int .i64 x ∧ 0 ≤ x ∧ x ≤ l1.length ∧ zA1 (wr.heap[w.heap.size]? = some (.cells #[.int .i64 0, .slice none 0 0] 28 (0, 0))) ∧ zA1 (Below w.heap.size w wr)) (fun v18 _ => l1.length - (intOf v18).toNat)
  case atStart => exact ⟨0, rfl, by omega, by omega, ⟨blk_new w _⟩, ⟨zA2 (Below.refl _ _) _⟩⟩
  case round =>
   obtain ⟨x, rfl, hx0, hx1, HK, HB⟩ := hrel
   have hle : (l1.length : Int) ≤ 1000 := by have := HL.out; omega
   by_cases hlt : x < l1.length
   ·obtain ⟨ad, e1, ha0, ha1⟩ := at_T58 HR.out x hx0 hlt
    subst e1
    have hb0 := (HB.out.cell (World.block_lt_of_cell? w _ ha0)).trans ha0
    have hb1 := (HB.out.cell (World.block_lt_of_cell? w _ ha1)).trans ha1
    clear ha0 ha1
    have C := fun W => zCa.calls a0 (zB2 l1 x).f0 false W (okE_at HA.out x hx0 hlt).1
    have C' := fun W => zCa.calls a0 (zB2 l1 x).f1 false W (okE_at HA.out x hx0 hlt).2
    generalize (zB2 l1 x).f0 = p at hb0 C
    generalize (zB2 l1 x).f1 = q at hb1 C'
    have HC0 := zA1.mk C
    have HC1 := zA1.mk C'
    clear C C'
    go_wp2_with (go_at_call 42; (first | with_reducible refine (HC0.out _).mono ?_ | with_reducible refine (HC1.out _).mono ?_); rintro e w' ⟨rfl, ⟨nd, rfl⟩⟩)
    go_roundw
    case rel => exact ⟨x + 1, by go_num, by omega, by omega, ⟨by (with_reducible repeat (first | refine zA7 ?_ _ | refine zA8 ?_ | refine zA6 ?_ _)); exact HK.out⟩, ⟨by repeat (first | (with_reducible first | exact HB.out | apply zA2 | apply zA0 | apply zA3) | exact HB.out)⟩⟩
    case measure => simp [intOf]; omega
   ·have CL := cloneE A1 c1 l1 wr (Kd.zAx HR.out HB.out) HC.out HL.out
    have HCL := zA1.mk CL
    clear CL
    go_wp2_with (first | (go_at_call 43; refine HCL.out.mono ?_; rintro e w2 ⟨v, rfl, ho, hb⟩; obtain ⟨Ao, co, rfl⟩ := Kd.zC3 ho; have HO := zA1.mk ho; have HB2 := zA1.mk hb; clear ho hb) | (go_at_call 44; refine (sortCallE _ wr.heap.size _ l1 HL.out HN.out HO.out HB2.out.size).mono ?_; rintro e w3 ⟨rfl, ho3, hb3⟩; have HO3 := zA1.mk ho3; have HB3 := zA1.mk hb3; clear ho3 hb3) | (go_at_call 46; refine (compactS Ao co l1 _ HL.out HN.out HO3.out).mono ?_; rintro e w4 ⟨rfl, ⟨nd, rfl⟩⟩; have HK3 := zA1.mk ((HB3.out.block _ (zC7 HK.out)).trans (zAq HK.out HB2.out)); have hcz0 : w3.cell? ⟨w.heap.size, 0, none⟩ = some (.int .i64 0) := (zA9 HK3.out 0).trans rfl; have hcz1 : w3.cell? ⟨w.heap.size, 1, none⟩ = some (.slice none 0 0) := (zA9 HK3.out 1).trans rfl; have hfz0 := zAd HK3.out 0; have hfz1 := zAd HK3.out 1))
    refine bodyPost_ret (results_list (rs := [.cell 4 28, .tmp 5]) rfl (by simp) (.cell w.heap.size 28 #[.int .i64 a0, .slice Ao l1.length co] (0, 0) _ rfl (by (with_reducible repeat (first | refine zA7 ?_ _ | refine zA8 ?_ | refine zA6 ?_ _)); refine blk_put (cs := #[.int .i64 a0, .slice none 0 0]) ?_ 1 _ rfl; (with_reducible repeat (first | refine zA7 ?_ _ | refine zA8 ?_ | refine zA6 ?_ _)); refine blk_put (cs := #[.int .i64 0, .slice none 0 0]) ?_ 0 _ rfl; (with_reducible repeat (first | refine zA7 ?_ _ | refine zA8 ?_ | refine zA6 ?_ _)); exact HK3.out) Tryz.underlying28 rfl (by kernel_rfl) (.tmp .nil))) rfl ?_
    have hlt' : w.heap.size ≤ wr.heap.size := HB.out.size
    refine ⟨.slice Ao l1.length co, rfl, ?_, ?_⟩
    ·refine Kd.R_lower (Kd.zC0 (Kd.R_far (p := ⟨w.heap.size, 1, none⟩) (Kd.R_far (p := ⟨w.heap.size, 0, none⟩) (Kd.zAe (Kd.R_types HO3.out HK3.out (by decide)) _) (fun _ hk => hk.2) (.int .i64 a0)) (fun _ hk => hk.2) (.slice Ao l1.length co)) (fun _ h_ => trivial)) hlt'
    ·refine zA5 (zA5 (zA0 ?_ _) (Nat.le_refl _)) (Nat.le_refl _)
     exact (HB.out.trans (HB2.out.mono hlt')).trans (HB3.out.mono hlt')
end
end Go.Proofs.YtbghfbhlbfcloaaGreatDoor.PL
namespace Go.Proofs.YtbghfbhlbfcloaaGreatDoor.PL
section
open Go.RowKit Go.Proofs.YtbghfbhlbfcloaaGreatDoorW.PrintWords Go.Proofs.YtbghfbhlbfcloaaGreatDoorW.PrintLast Go.Proofs.YtbghfbhlbfcloaaGreatDoorW.PrintMore
attribute [local go_sem] zBv zBt zC5 zC4 zBo zBn zBu zBs   -- for this text's walks alone
set_option linter.unusedVariables false
set_option linter.unusedSimpArgs false
def graph_Make.f (a0 : Int) (l1 : List (S58)) : Option (Int × (List (S58)) × Int) := MK.f a0 l1
theorem graph_Make.calls (a0 : Int) (A1 : Option Addr) (c1 : Nat) (l1 : List (S58)) (r1 : Int) (r2 : List (S58)) (r3 : Int) (w : World) (hr1 : Kd.C k58 w A1 l1.length l1) (hc1 : l1.length ≤ c1) (h : graph_Make.f a0 l1 = some (r1, r2, r3)) :
  Calls Tryz.prog 24 #[.int .i64 a0, .slice A1 l1.length c1] w fun e w' => ∃ v1_ : Value, e = .returned (.tuple #[.agg #[.int .i64 r1, v1_], .int .i64 r3]) ∧ Kd.R k58 58 w' w.heap.size (fun _ => True) v1_ r2 ∧ Below w.heap.size w w' :=
  MK.calls a0 A1 c1 l1 r1 r2 r3 w hr1 hc1 h
end
end Go.Proofs.YtbghfbhlbfcloaaGreatDoor.PL
namespace Go.Proofs.YtbghfbhlbfcloaaGreatDoor.PL
section
open Go.RowKit Go.Proofs.YtbghfbhlbfcloaaGreatDoorW.PrintWords Go.Proofs.YtbghfbhlbfcloaaGreatDoorW.PrintLast Go.Proofs.YtbghfbhlbfcloaaGreatDoorW.PrintMore
attribute [local go_sem] zBv zBt zC5 zC4 zBo zBn zBu zBs   -- for this text's walks alone
set_option linter.unusedVariables false
set_option linter.unusedSimpArgs false
attribute [local go_sem high] eqA58
mutual
def zAl.l0 : Nat → Int → List (S58) → Int → Int → Option (Int × (List (S58)))
 | 0, _, _, _, _ => none
 | k + 1, x0, x3, x4, x5 => if x5 < 6 then (zAl.l1 k x0 x3 x4 x5 0) else ((graph_Make.f 6 x3).bind fun bt214 => (some (bt214.1, bt214.2.1)))
def zAl.l1 : Nat → Int → List (S58) → Int → Int → Int → Option (Int × (List (S58)))
 | 0, _, _, _, _, _ => none
 | k + 1, x0, x3, x4, x5, x6 => if x6 < x5 then (if 0 ≤ x4 then (if (Go.bits .and .u16 (shr .u16 x0 x4) 1) = 1 then ((some (([(⟨x6, x5⟩ : S58), (⟨x5, x6⟩ : S58)] : List (S58)) : List (S58))).bind fun y220 => (if x3.length + y220.length < 8796093022208 then (zAl.l1 k x0 (x3 ++ y220) (wrap64 (x4 + 1)) x5 (wrap64 (x6 + 1))) else (none))) else (zAl.l1 k x0 x3 (wrap64 (x4 + 1)) x5 (wrap64 (x6 + 1)))) else (none)) else (zAl.l0 k x0 x3 x4 (wrap64 (x5 + 1)))
end
def zAl.f (k : Nat) (a0 : Int) : Option (Int × (List (S58))) := zAl.l0 k a0 ([] : List (S58)) 0 1
theorem zAl.zBw : ∀ k, (∀ y0 y1 y2 y3, LeO (zAl.l0 k y0 y1 y2 y3) (zAl.l0 (k + 1) y0 y1 y2 y3)) ∧ (∀ y0 y1 y2 y3 y4, LeO (zAl.l1 k y0 y1 y2 y3 y4) (zAl.l1 (k + 1) y0 y1 y2 y3 y4))
 | 0 => ⟨fun _ _ _ _ r h => by simp [zAl.l0] at h, fun _ _ _ _ _ r h => by simp [zAl.l1] at h⟩
 | k + 1 => by
  obtain ⟨ih0, ih1⟩ := zAl.zBw k
  refine ⟨?_, ?_⟩
  ·intro y0 y1 y2 y3
   unfold zAl.l0
   repeat' first
   | (with_reducible exact ih0 _ _ _ _)
   | (with_reducible exact ih1 _ _ _ _ _)
   | (with_reducible exact LeO.refl _)
   | (with_reducible exact LeO.none _)
   | (with_reducible refine LeO.ite ?_ ?_)
   | (with_reducible refine LeO.bind ?_ (fun _ => ?_))
  ·intro y0 y1 y2 y3 y4
   unfold zAl.l1
   repeat' first
   | (with_reducible exact ih0 _ _ _ _)
   | (with_reducible exact ih1 _ _ _ _ _)
   | (with_reducible exact LeO.refl _)
   | (with_reducible exact LeO.none _)
   | (with_reducible refine LeO.ite ?_ ?_)
   | (with_reducible refine LeO.bind ?_ (fun _ => ?_))
theorem zAl.mono : ∀ a0 k, LeO (zAl.f k a0) (zAl.f (k + 1) a0) := by
 intro a0 k
 obtain ⟨ih0, ih1⟩ := zAl.zBw k
 unfold zAl.f
 repeat' first
   | (with_reducible exact ih0 _ _ _ _)
   | (with_reducible exact ih1 _ _ _ _ _)
   | (with_reducible exact LeO.refl _)
   | (with_reducible exact LeO.none _)
   | (with_reducible refine LeO.ite ?_ ?_)
   | (with_reducible refine LeO.bind ?_ (fun _ => ?_))
set_option maxHeartbeats 8000000 in
set_option maxRecDepth 100000 in
theorem zAl.calls (k : Nat) (a0 : Int) (r1 : Int) (r2 : List (S58)) (w : World) (h : zAl.f k a0 = some (r1, r2)) :
  Calls Tryz.prog 8 #[.int .u16 a0] w fun e w' => ∃ v1_ : Value, e = .returned (.agg #[.int .i64 r1, v1_]) ∧ Kd.R k58 58 w' w.heap.size (fun _ => True) v1_ r2 ∧ Below w.heap.size w w' := by
 have hu28 := Tryz.underlying28
 have hu58 := Tryz.underlying58
 have HB := zA1.mk (Below.refl w.heap.size w)
 have H : (zAl.l0 k a0 ([] : List (S58)) 0 1) = some (r1, r2) := h
 clear h
 have H' := zA1.mk H
 clear H
 go_enter Tryz.func8, Tryz.ntmps8
 go_wp2_with (first | ((with_reducible refine zBk (N := 2) rfl ?_); refine zBl ?hg (N := 2) ?hd (cs := #[.int .i64 0, .slice none 0 0]) (t := 28) ?hr ?_; (case hd => rfl); (case hg => rfl); (case hr => first | (go_simp; done) | (go_simp; rfl)); intro gb213 hg w2 hbox hb; have n0_ := zA1.mk (zAg (by repeat (first | (with_reducible first | exact HB.out | apply zA2 | apply zA0 | apply zA3) | exact HB.out)) hb); have n1_ := zA1.mk (hbox); have n2_ := zA1.mk ((by rw [hg]; exact (zAb (by repeat (first | (with_reducible first | exact HB.out | apply zA2 | apply zA0 | apply zA3) | exact HB.out))) : w.heap.size ≤ gb213)); have n3_ := zA1.mk ((by rw [hg]; exact (zAb (by repeat (first | (with_reducible first | exact HB.out | apply zA2 | apply zA0 | apply zA3) | exact HB.out))) : w.heap.size ≤ gb213)); clear HB; have HB := n0_; have BK213 := n1_; have GW213 := n2_; have GE213 := n3_; clear n0_ n1_ n2_ n3_; clear hb hbox hg))
 go_loopg [3, 4, 5] k (fun kq v3 v4 v5 w' => ∃ (x3_1 : List (S58)) (x4_1 : Int) (x5_1 : Int), v4 = .int .i64 x4_1 ∧ v5 = .int .i64 x5_1 ∧ zA1 (zAl.l0 kq a0 x3_1 x4_1 x5_1 = some (r1, r2)) ∧ zA1 (kq ≤ k) ∧ zA1 (Kd.R k58 58 w' w.heap.size (fun _ => True) v3 x3_1) ∧ zA1 (w'.heap[gb213]? = some (.cells #[.int .i64 0, (.slice none 0 0)] 28 (0, 0))) ∧ zA1 (Below w.heap.size w w'))
 case atStart => exact ⟨(([] : List (S58))), (0), (1), (by first | rfl | (simp; done) | (simp [*]; done)), (by first | rfl | (simp; done) | (simp [*]; done)), H', ⟨Nat.le_refl _⟩, ⟨by first | exact Kd.R_nil _ _ _ _ _ | exact Kd.N_nil _ _ _ _ _ | exact Kd.V_nil _ _ _ _ _ | exact Kd.Q_nil _ _ _ _ _ | exact Kd.S_nil _ _ _ _ _⟩, ⟨by (with_reducible repeat (first | refine zA7 ?_ _ | refine zA8 ?_ | refine zA6 ?_ _)); exact BK213.out⟩, ⟨by repeat (first | (with_reducible first | exact HB.out | apply zA2 | apply zA0 | apply zA3 | refine zA5 ?_ GE213.out) | exact HB.out)⟩⟩
 case round =>
  clear H'
  try clear p2
  obtain ⟨x3_1, x4_1, x5_1, rfl, rfl, HA, HK1, HO_3, BK213, HB⟩ := hrel
  cases gk with
  | zero => exact absurd HA.out (by simp [zAl.l0])
  | succ k1 =>
   have H := HA.out
   clear HA
   simp only [zAl.l0] at H
   by_cases c3 : x5_1 < 6
   ·rw [if_pos c3] at H
    have c3b0 : decide (x5_1 < 6) = true := decide_eq_true c3
    clear c3
    have H' := zA1.mk H
    clear H
    go_wp2
    go_loopg [3, 4, 6] k1 (fun kq v3 v4 v6 w' => ∃ (x3_2 : List (S58)) (x4_2 : Int) (x6_2 : Int), v4 = .int .i64 x4_2 ∧ v6 = .int .i64 x6_2 ∧ zA1 (zAl.l1 kq a0 x3_2 x4_2 x5_1 x6_2 = some (r1, r2)) ∧ zA1 (kq ≤ k1) ∧ zA1 (Kd.R k58 58 w' w.heap.size (fun _ => True) v3 x3_2) ∧ zA1 (w'.heap[gb213]? = some (.cells #[.int .i64 0, (.slice none 0 0)] 28 (0, 0))) ∧ zA1 (Below w.heap.size w w'))
    case atStart => exact ⟨(x3_1), (x4_1), (0), (by first | rfl | (simp; done) | (simp [*]; done)), (by first | rfl | (simp; done) | (simp [*]; done)), H', ⟨Nat.le_refl _⟩, ⟨by (with_reducible repeat (first | apply Kd.zAf | apply Kd.zAe | apply Kd.zAh)); exact HO_3.out⟩, ⟨by (with_reducible repeat (first | refine zA7 ?_ _ | refine zA8 ?_ | refine zA6 ?_ _)); exact BK213.out⟩, ⟨by repeat (first | (with_reducible first | exact HB.out | apply zA2 | apply zA0 | apply zA3 | refine zA5 ?_ GE213.out) | exact HB.out)⟩⟩
    case round =>
     clear H'
     try clear p2
     try clear c3
     try clear c3b0
     try clear p2
     obtain ⟨x3_2, x4_2, x6_2, rfl, rfl, HA, HK2, HO_3, BK213, HB⟩ := hrel
     cases gk with
     | zero => exact absurd HA.out (by simp [zAl.l1])
     | succ k2 =>
      have H := HA.out
      clear HA
      simp only [zAl.l1] at H
      by_cases c4 : x6_2 < x5_1
      ·rw [if_pos c4] at H
       have c4b0 : decide (x6_2 < x5_1) = true := decide_eq_true c4
       clear c4
       by_cases c5 : 0 ≤ x4_2
       rotate_left
       ·rw [if_neg c5] at H
        exact absurd H (by simp)
       rw [if_pos c5] at H
       have c5b0 := eq_true c5
       have c5b1 : decide (0 ≤ x4_2) = true := decide_eq_true c5
       clear c5
       obtain ⟨ji6, hji6⟩ : ∃ j_ : Int, (shr .u16 a0 x4_2) = j_ := ⟨_, rfl⟩
       replace H : (if (Go.bits .and .u16 (ji6) 1) = 1 then ((some (([(⟨x6_2, x5_1⟩ : S58), (⟨x5_1, x6_2⟩ : S58)] : List (S58)) : List (S58))).bind fun y220 => (if x3_2.length + y220.length < 8796093022208 then (zAl.l1 k2 a0 (x3_2 ++ y220) (wrap64 (x4_2 + 1)) x5_1 (wrap64 (x6_2 + 1))) else (none))) else (zAl.l1 k2 a0 x3_2 (wrap64 (x4_2 + 1)) x5_1 (wrap64 (x6_2 + 1)))) = some (r1, r2) := by first | (rw [hji6] at H; exact H) | (simp only [hji6] at H ⊢; exact H)
       have hji6_ : (a0 / 2 ^ min x4_2.toNat 16) = ji6 := hji6
       have hji6z : x4_2 ≤ 16 → (a0 / 2 ^ x4_2.toNat) = ji6 := shr_small hji6
       by_cases c7 : (Go.bits .and .u16 (ji6) 1) = 1
       ·rw [if_pos c7] at H
        have c7b0 : ((Go.bits .and .u16 (ji6) 1) == 1) = true := beq_iff_eq.mpr c7
        have c7b1 : ((Go.bits .and .u16 (ji6) 1) != 1) = false := bne_eq_false_iff_eq.mpr c7
        clear c7
        obtain ⟨y220, hy220⟩ : ∃ y_ : List (S58), y_ = (([(⟨x6_2, x5_1⟩ : S58), (⟨x5_1, x6_2⟩ : S58)] : List (S58))) := ⟨_, rfl⟩
        replace H : (if x3_2.length + y220.length < 8796093022208 then (zAl.l1 k2 a0 (x3_2 ++ y220) (wrap64 (x4_2 + 1)) x5_1 (wrap64 (x6_2 + 1))) else (none)) = some (r1, r2) := by first | (rw [hy220]; with_reducible exact H) | (have H2_ := (Option.bind_some _ _).symm.trans H; rw [hy220]; with_reducible exact H2_) | (have H2_ := (Option.bind_some _ _).symm.trans H; with_reducible exact H2_) | with_reducible exact H | (rw [hy220]; exact H) | exact H
        have Ny220 := zA1.mk hy220
        clear hy220
        by_cases c8 : x3_2.length + y220.length < 8796093022208
        rotate_left
        ·rw [if_neg c8] at H
         exact absurd H (by simp)
        rw [if_pos c8] at H
        have LMc8 := zA1.mk c8
        clear c8
        obtain ⟨y223, hy223⟩ : ∃ y_ : List (S58), y_ = (x3_2 ++ y220) := ⟨_, rfl⟩
        replace H : (zAl.l1 k2 a0 y223 (wrap64 (x4_2 + 1)) x5_1 (wrap64 (x6_2 + 1))) = some (r1, r2) := by first | (rw [hy223]; with_reducible exact H) | (have H2_ := (Option.bind_some _ _).symm.trans H; rw [hy223]; with_reducible exact H2_) | (have H2_ := (Option.bind_some _ _).symm.trans H; with_reducible exact H2_) | with_reducible exact H | (rw [hy223]; exact H) | exact H
        have Ny223 := zA1.mk hy223
        clear hy223
        have H' := zA1.mk H
        clear H
        go_wp2_with (first | ((with_reducible refine zBk (N := 30) rfl ?_); refine Kd.R_lit k58 _ 58 ?hg (N := 30) ?hd (xs := ([(⟨x6_2, x5_1⟩ : S58), (⟨x5_1, x6_2⟩ : S58)] : List (S58))) (inner := [.int .i64 x6_2, .int .i64 x5_1, .int .i64 x5_1, .int .i64 x6_2]) (ok := fun _ => True) (okp := fun _ => True) ?hr ?hp (fun _ hk => hk) trivial (Below.refl _ _) (Nat.le_refl _) (by simp) ?_; (case hd => rfl); (case hg => rfl); (case hr => first | (go_simp; done) | (go_simp; rfl)); (case hp => exact (Reps.c2 (show Kd.M k58 _ _ _ (⟨x6_2, x5_1⟩ : S58) [.int .i64 x6_2, .int .i64 x5_1] from (k58_mkM _ _ _ (⟨x6_2, x5_1⟩ : S58) )) (Reps.c2 (show Kd.M k58 _ _ _ (⟨x5_1, x6_2⟩ : S58) [.int .i64 x5_1, .int .i64 x6_2] from (k58_mkM _ _ _ (⟨x5_1, x6_2⟩ : S58) )) (Reps.none _ _)))); intro v221 w9 ho10 hb hg_ hnew_; clear hg_ hnew_; (first | rw [← Ny220.out] at ho10 | (simp only [Int.reduceToNat] at ho10; rw [← Ny220.out] at ho10)); have n0_ := zA1.mk (Kd.R_elder' (by (with_reducible repeat (first | apply Kd.zAf | apply Kd.zAe | apply Kd.zAh)); exact HO_3.out) (Kd.R_base ho10) hb); have n1_ := zA1.mk (Kd.R_lower (Kd.R_new' ho10 (Kd.R_lt (by (with_reducible repeat (first | apply Kd.zAf | apply Kd.zAe | apply Kd.zAh)); exact HO_3.out))) (zAb (by repeat (first | (with_reducible first | exact HB.out | apply zA2 | apply zA0 | apply zA3 | refine zA5 ?_ GE213.out) | exact HB.out)))); have n2_ := zA1.mk (zAq (g := gb213) (o := .cells #[.int .i64 0, .slice none 0 0] 28 (0, 0)) (by (with_reducible repeat (first | refine zA7 ?_ _ | refine zA8 ?_ | refine zA6 ?_ _)); exact BK213.out) hb); have n3_ := zA1.mk (zAg (by repeat (first | (with_reducible first | exact HB.out | apply zA2 | apply zA0 | apply zA3 | refine zA5 ?_ GE213.out) | exact HB.out)) hb); clear HO_3; clear BK213; clear HB; have HO_3 := n0_; have HO222 := n1_; have BK213 := n2_; have HB := n3_; clear n0_ n1_ n2_ n3_; clear hb ho10; obtain ⟨Ao12, co12, eo12⟩ := Kd.zC3 HO222.out; subst eo12) | ((with_reducible refine zCf (b := .append) (xs := #[.tmp 23, .tmp 30]) rfl ?_); at_builtin; refine Kd.R_append_rows k58 (w0 := w) w.heap.size rfl (.tmp 23) (.tmp 30) 26 58 (.agg #[(.int .i64 0), (.int .i64 0)]) 16 rfl Tryz.underlying26 info58 rfl (by decide) (by omega) u3 x3_2 y220 _ _ _ (fun k_ => some k_ ≠ (.slice Ao12 y220.length co12 : Value).ownBlock) (fun _ => False) rfl rfl ?aO ?aR (fun _ _ h => h) (fun _ h => h.elim) ?aF ?aB ?aS ?aL ?_; (case aR => repeat (first | exact (Kd.zAz HO222.out).2.2 | (with_reducible refine Kd.zAj ?_ _) | (with_reducible refine Kd.zAr ?_ _) | (with_reducible refine Kd.zB9 ?_))); (case aB => exact (by repeat (first | (with_reducible first | exact HB.out | apply zA2 | apply zA0 | apply zA3 | refine zA5 ?_ GE213.out) | exact HB.out))); (case aF => exact (fun k_ hk => Kd.fresh' (Kd.R_lt (by (with_reducible repeat (first | apply Kd.zAf | apply Kd.zAe | apply Kd.zAh)); exact HO222.out)) k_ hk)); (case aO => exact (by (with_reducible repeat (first | apply Kd.zAf | apply Kd.zAe | apply Kd.zAh)); exact Kd.zC0 HO_3.out (fun _ hk => hk.2))); (case aS => exact (zAb (by repeat (first | (with_reducible first | exact HB.out | apply zA2 | apply zA0 | apply zA3 | refine zA5 ?_ GE213.out) | exact HB.out)))); (case aL => have := LMc8.out; omega); intro v224 w11 ho hb hg hat; rw [← Ny223.out] at ho; have n0_ := zA1.mk (blk_grown (g := gb213) (o := .cells #[.int .i64 0, .slice none 0 0] 28 (0, 0)) (by (with_reducible repeat (first | refine zA7 ?_ _ | refine zA8 ?_ | refine zA6 ?_ _)); exact BK213.out) hg (Kd.R_ne HO_3.out BK213.out (by decide))); have n1_ := zA1.mk (Kd.R_after (ok := (fun _ => True)) (by (with_reducible repeat (first | apply Kd.zAf | apply Kd.zAe | apply Kd.zAh)); exact HO222.out) hg hat); have n2_ := zA1.mk (hb); have n3_ := zA1.mk (ho); clear BK213; clear HO222; clear HB; clear HO_3; have BK213 := n0_; have HO222 := n1_; have HB := n2_; have HO225 := n3_; clear n0_ n1_ n2_ n3_; clear ho hb hg hat))
        go_roundg k2
        case measure => have := HK1.out; have := HK2.out; omega
        case rel => exact ⟨(y223), (wrap64 (x4_2 + 1)), (wrap64 (x6_2 + 1)), (by first | rfl | (simp; done) | (simp [*]; done)), (by first | rfl | (simp; done) | (simp [*]; done)), H', ⟨by have := HK1.out; have := HK2.out; omega⟩, ⟨by (with_reducible repeat (first | apply Kd.zAf | apply Kd.zAe | apply Kd.zAh)); exact Kd.zC0 HO225.out (fun _ hk => trivial)⟩, ⟨by (with_reducible repeat (first | refine zA7 ?_ _ | refine zA8 ?_ | refine zA6 ?_ _)); exact BK213.out⟩, ⟨by repeat (first | (with_reducible first | exact HB.out | apply zA2 | apply zA0 | apply zA3 | refine zA5 ?_ GE213.out) | exact HB.out)⟩⟩
       ·rw [if_neg c7] at H
        have c7b0 : ((Go.bits .and .u16 (ji6) 1) == 1) = false := beq_eq_false_iff_ne.mpr c7
        have c7b1 : ((Go.bits .and .u16 (ji6) 1) != 1) = true := bne_iff_ne.mpr c7
        have H' := zA1.mk H
        clear H
        go_wp2
        go_roundg k2
        case measure => have := HK1.out; have := HK2.out; omega
        case rel => exact ⟨(x3_2), (wrap64 (x4_2 + 1)), (wrap64 (x6_2 + 1)), (by first | rfl | (simp; done) | (simp [*]; done)), (by first | rfl | (simp; done) | (simp [*]; done)), H', ⟨by have := HK1.out; have := HK2.out; omega⟩, ⟨by (with_reducible repeat (first | apply Kd.zAf | apply Kd.zAe | apply Kd.zAh)); exact HO_3.out⟩, ⟨by (with_reducible repeat (first | refine zA7 ?_ _ | refine zA8 ?_ | refine zA6 ?_ _)); exact BK213.out⟩, ⟨by repeat (first | (with_reducible first | exact HB.out | apply zA2 | apply zA0 | apply zA3 | refine zA5 ?_ GE213.out) | exact HB.out)⟩⟩
      ·rw [if_neg c4] at H
       have c4b0 : decide (x6_2 < x5_1) = false := decide_eq_false c4
       clear c4
       have H' := zA1.mk H
       clear H
       go_wp2
       go_roundg k2
       case measure => have := HK1.out; have := HK2.out; omega
       case rel => exact ⟨(x3_2), (x4_2), (wrap64 (x5_1 + 1)), (by first | rfl | (simp; done) | (simp [*]; done)), (by first | rfl | (simp; done) | (simp [*]; done)), H', ⟨by have := HK1.out; have := HK2.out; omega⟩, ⟨by (with_reducible repeat (first | apply Kd.zAf | apply Kd.zAe | apply Kd.zAh)); exact HO_3.out⟩, ⟨by (with_reducible repeat (first | refine zA7 ?_ _ | refine zA8 ?_ | refine zA6 ?_ _)); exact BK213.out⟩, ⟨by repeat (first | (with_reducible first | exact HB.out | apply zA2 | apply zA0 | apply zA3 | refine zA5 ?_ GE213.out) | exact HB.out)⟩⟩
   ·rw [if_neg c3] at H
    have c3b0 : decide (x5_1 < 6) = false := decide_eq_false c3
    clear c3
    replace H := Option.bind_eq_some_iff.mp H
    obtain ⟨⟨t214, t215, t218⟩, A130, H⟩ := H
    replace H : (some (t214, t215)) = some (r1, r2) := H
    have A13 := zA1.mk A130
    clear A130
    simp only [Option.some.injEq, Prod.mk.injEq] at H
    obtain ⟨rfl, rfl⟩ := H
    obtain ⟨Ao14, co14, eo14⟩ := Kd.zC3 HO_3.out
    subst eo14
    go_wp2_with (first | ((with_reducible refine zAy (f := 24) rfl ?_); refine zBz (some 36) rfl rfl Tryz.func24 (by kernel_rfl) rfl #[.int .i64 6, .slice Ao14 x3_1.length co14] rfl (by (try simp only [List.map_toArray, List.map_cons, List.map_nil]); first | done | rfl | (simp only [List.length_drop, List.length_take]; rfl)) ?_; (with_reducible refine (graph_Make.calls 6 _ _ x3_1 t214 t215 t218 _ ?side1 ?side2 A13.out).mono ?_); (case side1 => repeat (first | exact (Kd.zAz HO_3.out).2.2 | (with_reducible refine Kd.zAj ?_ _) | (with_reducible refine Kd.zAr ?_ _) | (with_reducible refine Kd.zB9 ?_))); (case side2 => exact (Kd.zAz HO_3.out).2.1); rintro e w15 ⟨v216, rfl, ho0, hb⟩; refine ⟨_, rfl, ?_⟩; have n0_ := zA1.mk (Kd.R_elder' (by (with_reducible repeat (first | apply Kd.zAf | apply Kd.zAe | apply Kd.zAh)); exact HO_3.out) (Kd.R_base ho0) hb); have n1_ := zA1.mk (Kd.R_lower (Kd.R_new' ho0 (Kd.R_lt (by (with_reducible repeat (first | apply Kd.zAf | apply Kd.zAe | apply Kd.zAh)); exact HO_3.out))) (zAb (by repeat (first | (with_reducible first | exact HB.out | apply zA2 | apply zA0 | apply zA3 | refine zA5 ?_ GE213.out) | exact HB.out)))); have n2_ := zA1.mk (zAq (g := gb213) (o := .cells #[.int .i64 0, .slice none 0 0] 28 (0, 0)) (by (with_reducible repeat (first | refine zA7 ?_ _ | refine zA8 ?_ | refine zA6 ?_ _)); exact BK213.out) hb); have n3_ := zA1.mk (zAg (by repeat (first | (with_reducible first | exact HB.out | apply zA2 | apply zA0 | apply zA3 | refine zA5 ?_ GE213.out) | exact HB.out)) hb); clear HO_3; clear BK213; clear HB; have HO_3 := n0_; have HO217 := n1_; have BK213 := n2_; have HB := n3_; clear n0_ n1_ n2_ n3_; (try clear hb); (try clear hb2); (try clear hk); (try clear hi); (try clear ho0)) | ((with_reducible refine zBk (N := 7) rfl ?_); refine zBl ?hg (N := 7) ?hd (cs := #[.int .i64 0, .slice none 0 0]) (t := 28) ?hr ?_; (case hd => rfl); (case hg => rfl); (case hr => first | (go_simp; done) | (go_simp; rfl)); intro gb219 hg w16 hbox hb; have n0_ := zA1.mk (Kd.zBg (by (with_reducible repeat (first | apply Kd.zAf | apply Kd.zAe | apply Kd.zAh)); exact HO_3.out) hb); have n1_ := zA1.mk (Kd.zBg (by (with_reducible repeat (first | apply Kd.zAf | apply Kd.zAe | apply Kd.zAh)); exact HO217.out) hb); have n2_ := zA1.mk (zAq (g := gb213) (o := .cells #[.int .i64 0, .slice none 0 0] 28 (0, 0)) (by (with_reducible repeat (first | refine zA7 ?_ _ | refine zA8 ?_ | refine zA6 ?_ _)); exact BK213.out) hb); have n3_ := zA1.mk (zAg (by repeat (first | (with_reducible first | exact HB.out | apply zA2 | apply zA0 | apply zA3 | refine zA5 ?_ GE213.out) | exact HB.out)) hb); have n4_ := zA1.mk (hbox); have n5_ := zA1.mk ((by rw [hg]; exact (zAb (by repeat (first | (with_reducible first | exact HB.out | apply zA2 | apply zA0 | apply zA3 | refine zA5 ?_ GE213.out) | exact HB.out))) : w.heap.size ≤ gb219)); have n6_ := zA1.mk ((by rw [hg]; exact (zAb (by repeat (first | (with_reducible first | exact HB.out | apply zA2 | apply zA0 | apply zA3 | refine zA5 ?_ GE213.out) | exact HB.out))) : w.heap.size ≤ gb219)); have n7_ := zA1.mk ((by rw [hg]; exact Nat.ne_of_lt (zC7 (g := gb213) (o := .cells #[.int .i64 0, .slice none 0 0] 28 (0, 0)) (by (with_reducible repeat (first | refine zA7 ?_ _ | refine zA8 ?_ | refine zA6 ?_ _)); exact BK213.out)) : gb213 ≠ gb219)); have n8_ := zA1.mk ((by rw [hg]; exact Nat.ne_of_gt (zC7 (g := gb213) (o := .cells #[.int .i64 0, .slice none 0 0] 28 (0, 0)) (by (with_reducible repeat (first | refine zA7 ?_ _ | refine zA8 ?_ | refine zA6 ?_ _)); exact BK213.out)) : gb219 ≠ gb213)); clear HO_3; clear HO217; clear BK213; clear HB; have HO_3 := n0_; have HO217 := n1_; have BK213 := n2_; have HB := n3_; have BK219 := n4_; have GW219 := n5_; have GE219 := n6_; have NB213_219 := n7_; have NB219_213 := n8_; clear n0_ n1_ n2_ n3_ n4_ n5_ n6_ n7_ n8_; clear hb hbox hg; have hnb17 := NB219_213.out; have hnc17 := NB213_219.out; have hcz18_0 : w16.cell? ⟨gb219, 0, none⟩ = some (.int .i64 0) := (zA9 BK219.out 0).trans rfl; have hcz18_1 : w16.cell? ⟨gb219, 1, none⟩ = some (.slice none 0 0) := (zA9 BK219.out 1).trans rfl; have hfz18_0 := zAd BK219.out 0; have hfz18_1 := zAd BK219.out 1; obtain ⟨Ao19, co19, eo19⟩ := Kd.zC3 HO217.out; subst eo19; have hcz20_0 : w16.cell? ⟨gb213, 0, none⟩ = some (.int .i64 0) := (zA9 BK213.out 0).trans rfl; have hcz20_1 : w16.cell? ⟨gb213, 1, none⟩ = some (.slice none 0 0) := (zA9 BK213.out 1).trans rfl; have hfz20_0 := zAd BK213.out 0; have hfz20_1 := zAd BK213.out 1))
    refine bodyPost_ret (results_cell_row rfl _ _ gb213 28 #[.int .i64 t214, .slice Ao19 t215.length co19] (0, 0) _ rfl (by (with_reducible repeat (first | refine zA7 ?_ _ | refine zA8 ?_ | refine zA6 ?_ _)); refine blk_put (cs := #[.int .i64 t214, .slice none 0 0]) ?_ 1 _ rfl; (with_reducible repeat (first | refine zA7 ?_ _ | refine zA8 ?_ | refine zA6 ?_ _)); refine blk_put (cs := #[.int .i64 0, .slice none 0 0]) ?_ 0 _ rfl; (with_reducible repeat (first | refine zA7 ?_ _ | refine zA8 ?_ | refine zA6 ?_ _)); refine blk_far ?_ NB213_219.out _; (with_reducible repeat (first | refine zA7 ?_ _ | refine zA8 ?_ | refine zA6 ?_ _)); refine blk_far ?_ NB213_219.out _; (with_reducible repeat (first | refine zA7 ?_ _ | refine zA8 ?_ | refine zA6 ?_ _)); exact BK213.out) Tryz.underlying28 rfl (by kernel_rfl)) rfl ?_
    exact ⟨_, by first | rfl | (simp [zAp, zAo] <;> rfl) | (simp [*, zAp, zAo] <;> rfl), by (with_reducible repeat (first | apply Kd.zAf | apply Kd.zAe | apply Kd.zAh)); exact Kd.zC0 (Kd.R_far (p := ⟨gb213, 1, none⟩) (Kd.R_far (p := ⟨gb213, 0, none⟩) (Kd.R_far (p := ⟨gb219, 1, none⟩) (Kd.R_far (p := ⟨gb219, 0, none⟩) (Kd.R_types (Kd.R_types HO217.out BK219.out (by decide)) BK213.out (by decide)) (fun _ hk => hk.1.2) (.int .i64 t214)) (fun _ hk => hk.1.2) (.slice Ao19 t215.length co19)) (fun _ hk => hk.2) (.int .i64 t214)) (fun _ hk => hk.2) (.slice Ao19 t215.length co19)) (fun _ hk => trivial), by repeat (first | (with_reducible first | exact HB.out | apply zA2 | apply zA0 | apply zA3 | refine zA5 ?_ GE213.out | refine zA5 ?_ GE219.out) | exact HB.out)⟩
end
end Go.Proofs.YtbghfbhlbfcloaaGreatDoor.PL
namespace Go.Proofs.YtbghfbhlbfcloaaGreatDoor.PL
section
open Go.RowKit Go.Proofs.YtbghfbhlbfcloaaGreatDoorW.PrintWords Go.Proofs.YtbghfbhlbfcloaaGreatDoorW.PrintLast Go.Proofs.YtbghfbhlbfcloaaGreatDoorW.PrintMore
attribute [local go_sem] zBv zBt zC5 zC4 zBo zBn zBu zBs   -- for this text's walks alone
set_option linter.unusedVariables false
set_option linter.unusedSimpArgs false
def zAw.l0 : Nat → Int → List Int → Int → Int → Option (Int)
 | 0, _, _, _, _ => none
 | k + 1, x3, x6, x7, x8 => if x8 < x7 then (if 0 ≤ x8 then (if x8 < (x6.length : Int) then (if 0 ≤ (rd x6 x8) then (zAw.l0 k (Go.bits .or .u64 x3 (shl .u64 1 (rd x6 x8))) x6 x7 (wrap64 (x8 + 1))) else (none)) else (none)) else (none)) else (some x3)
def zAw.f (k : Nat) (l0 : List Int) : Option (Int) := zAw.l0 k 0 l0 (l0.length : Int) 0
theorem zAw.zBw : ∀ k, (∀ y0 y1 y2 y3, LeO (zAw.l0 k y0 y1 y2 y3) (zAw.l0 (k + 1) y0 y1 y2 y3))
 | 0 => fun _ _ _ _ r h => by simp [zAw.l0] at h
 | k + 1 => by
  have ih0 := zAw.zBw k
  ·intro y0 y1 y2 y3
   unfold zAw.l0
   repeat' first
   | (with_reducible exact ih0 _ _ _ _)
   | (with_reducible exact LeO.refl _)
   | (with_reducible exact LeO.none _)
   | (with_reducible refine LeO.ite ?_ ?_)
   | (with_reducible refine LeO.bind ?_ (fun _ => ?_))
theorem zAw.mono : ∀ a0 k, LeO (zAw.f k a0) (zAw.f (k + 1) a0) := by
 intro a0 k
 have ih0 := zAw.zBw k
 unfold zAw.f
 repeat' first
   | (with_reducible exact ih0 _ _ _ _)
   | (with_reducible exact LeO.refl _)
   | (with_reducible exact LeO.none _)
   | (with_reducible refine LeO.ite ?_ ?_)
   | (with_reducible refine LeO.bind ?_ (fun _ => ?_))
set_option maxHeartbeats 8000000 in
set_option maxRecDepth 100000 in
theorem zAw.calls (k : Nat) (A0 : Option Addr) (c0 : Nat) (l0 : List Int) (r : Int) (w : World) (hr0 : Kd.C (Kd.int .i64) w A0 l0.length l0) (hc0 : l0.length ≤ c0) (h : zAw.f k l0 = some r) :
  Calls Tryz.prog 51 #[.slice A0 l0.length c0] w fun e w' => e = .returned (.int .u64 r) ∧ zB6 w w' := by
 have HR0 := zA1.mk hr0
 have HC0 := zA1.mk hc0
 clear hr0 hc0
 have H : (zAw.l0 k 0 l0 (l0.length : Int) 0) = some r := h
 clear h
 have H' := zA1.mk H
 clear H
 go_enter Tryz.func51, Tryz.ntmps51
 go_wp2
 go_loopg [3, 8] k (fun kq v3 v8 w' => ∃ (x3_1 : Int) (x8_1 : Int), v3 = .int .u64 x3_1 ∧ v8 = .int .i64 x8_1 ∧ zA1 (zAw.l0 kq x3_1 l0 (l0.length : Int) x8_1 = some r) ∧ zA1 (kq ≤ k) ∧ zB6 w w')
 case atStart => exact ⟨(0), (0), (by first | rfl | (simp; done) | (simp [*]; done)), (by first | rfl | (simp; done) | (simp [*]; done)), H', ⟨Nat.le_refl _⟩, by repeat (first | exact zB6.refl _ | apply zB6.step)⟩
 case round =>
  clear H'
  obtain ⟨x3_1, x8_1, rfl, rfl, HA, HK1, ⟨m1, rfl⟩⟩ := hrel
  cases gk with
  | zero => exact absurd HA.out (by simp [zAw.l0])
  | succ k1 =>
   have H := HA.out
   clear HA
   simp only [zAw.l0] at H
   by_cases c2 : x8_1 < (l0.length : Int)
   ·rw [if_pos c2] at H
    have c2b0 : decide (x8_1 < (l0.length : Int)) = true := decide_eq_true c2
    clear c2
    by_cases c3 : 0 ≤ x8_1
    rotate_left
    ·rw [if_neg c3] at H
     exact absurd H (by simp)
    rw [if_pos c3] at H
    have c3b0 : decide (0 ≤ x8_1) = true := decide_eq_true c3
    clear c3
    by_cases c4 : x8_1 < (l0.length : Int)
    rotate_left
    ·rw [if_neg c4] at H
     exact absurd H (by simp)
    rw [if_pos c4] at H
    have c4b0 : decide (x8_1 < (l0.length : Int)) = true := decide_eq_true c4
    clear c4
    by_cases c5 : 0 ≤ (rd l0 x8_1)
    rotate_left
    ·rw [if_neg c5] at H
     exact absurd H (by simp)
    rw [if_pos c5] at H
    have c5b0 := eq_true c5
    have c5b1 : decide (0 ≤ (rd l0 x8_1)) = true := decide_eq_true c5
    clear c5
    obtain ⟨ji6, hji6⟩ : ∃ j_ : Int, (shl .u64 1 (rd l0 x8_1)) = j_ := ⟨_, rfl⟩
    replace H : (zAw.l0 k1 (Go.bits .or .u64 x3_1 (ji6)) l0 (l0.length : Int) (wrap64 (x8_1 + 1))) = some r := by first | (rw [hji6] at H; exact H) | (simp only [hji6] at H ⊢; exact H)
    have hji6_ : (IntKind.u64.wrap (1 * 2 ^ min (rd l0 x8_1).toNat 64)) = ji6 := hji6
    have hji6z : (rd l0 x8_1) ≤ 64 → (IntKind.u64.wrap (1 * 2 ^ (rd l0 x8_1).toNat)) = ji6 := shl_small hji6
    have hji6u : (IntKind.u64.wrap (2 ^ min (rd l0 x8_1).toNat 64)) = ji6 := by have h_ := hji6_; rw [Int.one_mul] at h_; exact h_
    have hji6v : (rd l0 x8_1) ≤ 64 → (IntKind.u64.wrap (2 ^ (rd l0 x8_1).toNat)) = ji6 := fun hle_ => by have h_ := hji6z hle_; rw [Int.one_mul] at h_; exact h_
    have H' := zA1.mk H
    clear H
    have p147 : 0 ≤ (x8_1 : Int) := of_decide_eq_true (by first | (with_reducible assumption) | assumption)
    have q147 : x8_1 < (l0.length : Int) := of_decide_eq_true (by first | (with_reducible assumption) | assumption)
    obtain ⟨ad147, e147, hx147_0⟩ := Kd.zCb HR0.out x8_1 p147 q147
    cases e147
    replace p147 := eq_true p147
    replace q147 := eq_true q147
    go_wp2
    go_roundg k1
    case measure => have := HK1.out; omega
    case rel => exact ⟨(Go.bits .or .u64 x3_1 (ji6)), (wrap64 (x8_1 + 1)), (by first | rfl | (simp; done) | (simp only [← hji6] <;> (first | rfl | simp)) | (simp [*]; done)), (by first | rfl | (simp; done) | (simp [*]; done)), H', ⟨by have := HK1.out; omega⟩, by repeat (first | exact zB6.refl _ | apply zB6.step)⟩
   ·rw [if_neg c2] at H
    have c2b0 : decide (x8_1 < (l0.length : Int)) = false := decide_eq_false c2
    clear c2
    obtain rfl := Option.some.inj H
    go_wp2
    go_ret
    exact ⟨by first | rfl | (simp; done) | (simp [*]; done), by repeat (first | exact zB6.refl _ | apply zB6.step)⟩
end
end Go.Proofs.YtbghfbhlbfcloaaGreatDoor.PL
namespace Go.Proofs.YtbghfbhlbfcloaaGreatDoor.PL
section
open Go.RowKit Go.Proofs.YtbghfbhlbfcloaaGreatDoorW.PrintWords Go.Proofs.YtbghfbhlbfcloaaGreatDoorW.PrintLast Go.Proofs.YtbghfbhlbfcloaaGreatDoorW.PrintMore
attribute [local go_sem] zBv zBt zC5 zC4 zBo zBn zBu zBs   -- for this text's walks alone
set_option linter.unusedVariables false
set_option linter.unusedSimpArgs false
attribute [local go_sem high] eqA58
mutual
def zB0.l0 : Nat → List Int → Int → List Int → Int → Int → Option (Int)
 | 0, _, _, _, _, _ => none
 | k + 1, x0, x1, x7, x8, x9 => if x9 < x8 then (if 0 ≤ x9 then (if x9 < (x7.length : Int) then (if (rd x7 x9) < 0 then (zB0.j1 k x0 x1 x9 (rd x7 x9) x7 x8 x9 true) else (zB0.j1 k x0 x1 x9 (rd x7 x9) x7 x8 x9 (decide ((rd x7 x9) ≥ x1)))) else (none)) else (none)) else (some 0)
def zB0.j1 : Nat → List Int → Int → Int → Int → List Int → Int → Int → Bool → Option (Int)
 | 0, _, _, _, _, _, _, _, _ => none
 | k + 1, x0, x1, x5, x6, x7, x8, x9, x20 => if x20 = true then (some 2) else (if x5 > 0 then (if 0 ≤ (wrap64 (x5 - 1)) then (if (wrap64 (x5 - 1)) < (x0.length : Int) then (if (rd x0 (wrap64 (x5 - 1))) ≥ x6 then (some 8) else (zB0.l0 k x0 x1 x7 x8 (wrap64 (x9 + 1)))) else (none)) else (none)) else (zB0.l0 k x0 x1 x7 x8 (wrap64 (x9 + 1))))
end
def zB0.f (k : Nat) (l0 : List Int) (a1 : Int) : Option (Int) := zB0.l0 k l0 a1 l0 (l0.length : Int) 0
theorem zB0.zBw : ∀ k, (∀ y0 y1 y2 y3 y4, LeO (zB0.l0 k y0 y1 y2 y3 y4) (zB0.l0 (k + 1) y0 y1 y2 y3 y4)) ∧ (∀ y0 y1 y2 y3 y4 y5 y6 y7, LeO (zB0.j1 k y0 y1 y2 y3 y4 y5 y6 y7) (zB0.j1 (k + 1) y0 y1 y2 y3 y4 y5 y6 y7))
 | 0 => ⟨fun _ _ _ _ _ r h => by simp [zB0.l0] at h, fun _ _ _ _ _ _ _ _ r h => by simp [zB0.j1] at h⟩
 | k + 1 => by
  obtain ⟨ih0, ih1⟩ := zB0.zBw k
  refine ⟨?_, ?_⟩
  ·intro y0 y1 y2 y3 y4
   unfold zB0.l0
   repeat' first
   | (with_reducible exact ih0 _ _ _ _ _)
   | (with_reducible exact ih1 _ _ _ _ _ _ _ _)
   | (with_reducible exact LeO.refl _)
   | (with_reducible exact LeO.none _)
   | (with_reducible refine LeO.ite ?_ ?_)
   | (with_reducible refine LeO.bind ?_ (fun _ => ?_))
  ·intro y0 y1 y2 y3 y4 y5 y6 y7
   unfold zB0.j1
   repeat' first
   | (with_reducible exact ih0 _ _ _ _ _)
   | (with_reducible exact ih1 _ _ _ _ _ _ _ _)
   | (with_reducible exact LeO.refl _)
   | (with_reducible exact LeO.none _)
   | (with_reducible refine LeO.ite ?_ ?_)
   | (with_reducible refine LeO.bind ?_ (fun _ => ?_))
theorem zB0.mono : ∀ a0 a1 k, LeO (zB0.f k a0 a1) (zB0.f (k + 1) a0 a1) := by
 intro a0 a1 k
 obtain ⟨ih0, ih1⟩ := zB0.zBw k
 unfold zB0.f
 repeat' first
   | (with_reducible exact ih0 _ _ _ _ _)
   | (with_reducible exact ih1 _ _ _ _ _ _ _ _)
   | (with_reducible exact LeO.refl _)
   | (with_reducible exact LeO.none _)
   | (with_reducible refine LeO.ite ?_ ?_)
   | (with_reducible refine LeO.bind ?_ (fun _ => ?_))
set_option maxHeartbeats 8000000 in
set_option maxRecDepth 100000 in
theorem zB0.calls (k : Nat) (A0 : Option Addr) (c0 : Nat) (l0 : List Int) (a1 : Int) (r : Int) (w : World) (hr0 : Kd.C (Kd.int .i64) w A0 l0.length l0) (hc0 : l0.length ≤ c0) (h : zB0.f k l0 a1 = some r) :
  Calls Tryz.prog 49 #[.slice A0 l0.length c0, .int .i64 a1] w fun e w' => e = .returned (.int .i64 r) ∧ zB6 w w' := by
 have HR0 := zA1.mk hr0
 have HC0 := zA1.mk hc0
 clear hr0 hc0
 have H : (zB0.l0 k l0 a1 l0 (l0.length : Int) 0) = some r := h
 clear h
 have H' := zA1.mk H
 clear H
 go_enter Tryz.func49, Tryz.ntmps49
 go_wp2
 go_loopg [9] k (fun kq v9 w' => ∃ (x9_1 : Int), v9 = .int .i64 x9_1 ∧ zA1 (zB0.l0 kq l0 a1 l0 (l0.length : Int) x9_1 = some r) ∧ zA1 (kq ≤ k) ∧ zB6 w w')
 case atStart => exact ⟨(0), (by first | rfl | (simp; done) | (simp [*]; done)), H', ⟨Nat.le_refl _⟩, by repeat (first | exact zB6.refl _ | apply zB6.step)⟩
 case round =>
  clear H'
  try clear p2
  obtain ⟨x9_1, rfl, HA, HK1, ⟨m1, rfl⟩⟩ := hrel
  cases gk with
  | zero => exact absurd HA.out (by simp [zB0.l0])
  | succ k1 =>
   have H := HA.out
   clear HA
   simp only [zB0.l0] at H
   by_cases c3 : x9_1 < (l0.length : Int)
   ·rw [if_pos c3] at H
    have c3b0 : decide (x9_1 < (l0.length : Int)) = true := decide_eq_true c3
    clear c3
    by_cases c4 : 0 ≤ x9_1
    rotate_left
    ·rw [if_neg c4] at H
     exact absurd H (by simp)
    rw [if_pos c4] at H
    have c4b0 : decide (0 ≤ x9_1) = true := decide_eq_true c4
    clear c4
    by_cases c5 : x9_1 < (l0.length : Int)
    rotate_left
    ·rw [if_neg c5] at H
     exact absurd H (by simp)
    rw [if_pos c5] at H
    have c5b0 : decide (x9_1 < (l0.length : Int)) = true := decide_eq_true c5
    clear c5
    have HC6 := zA1.mk H
    clear H
    have p137 : 0 ≤ (x9_1 : Int) := of_decide_eq_true (by first | (with_reducible assumption) | assumption)
    have q137 : x9_1 < (l0.length : Int) := of_decide_eq_true (by first | (with_reducible assumption) | assumption)
    obtain ⟨ad137, e137, hx137_0⟩ := Kd.zCb HR0.out x9_1 p137 q137
    cases e137
    replace p137 := eq_true p137
    replace q137 := eq_true q137
    go_upto_region 4 with (fail)
    go_cut [20] (fun v20 wc => ∃ (kq : Nat) (x20_5 : Bool), v20 = .bool x20_5 ∧ zA1 (zB0.j1 kq l0 a1 x9_1 (rd l0 x9_1) l0 (l0.length : Int) x9_1 x20_5 = some r) ∧ zA1 (kq ≤ k1) ∧ zB6 w wc)
    case first =>
     have H := HC6.out
     clear HC6
     by_cases c7 : (rd l0 x9_1) < 0
     ·rw [if_pos c7] at H
      have c7b0 : decide ((rd l0 x9_1) < 0) = true := decide_eq_true c7
      clear c7
      (first | rw [c7b0] | (simp only [i64_w, i32_w]; rw [c7b0]) | skip)
      have H' := zA1.mk H
      clear H
      go_wp2
      go_meet
      case rel => exact ⟨_, (true), (by first | rfl | (simp; done) | (simp [*]; done)), H', ⟨by have := HK1.out; first | omega | exact Nat.le_refl _⟩, by repeat (first | exact zB6.refl _ | apply zB6.step)⟩
     ·rw [if_neg c7] at H
      have c7b0 : decide ((rd l0 x9_1) < 0) = false := decide_eq_false c7
      clear c7
      (first | rw [c7b0] | (simp only [i64_w, i32_w]; rw [c7b0]) | skip)
      have H' := zA1.mk H
      clear H
      go_wp2
      go_meet
      case rel => exact ⟨_, (decide ((rd l0 x9_1) ≥ a1)), (by first | rfl | (simp; done) | (simp [*]; done)), H', ⟨by have := HK1.out; first | omega | exact Nat.le_refl _⟩, by repeat (first | exact zB6.refl _ | apply zB6.step)⟩
    case rest =>
     clear HC6
     try clear p1
     try clear q1
     try clear hx1
     try clear p2
     try clear c3
     try clear c3b0
     try clear c4
     try clear c4b0
     try clear c5
     try clear c5b0
     try clear c7
     try clear c7b0
     try clear hx137_0
     try clear p137
     try clear p2
     try clear q137
     obtain ⟨kq, x20_5, rfl, HA, HJ5, ⟨mc5, rfl⟩⟩ := hcut
     cases kq with
     | zero => exact absurd HA.out (by simp [zB0.j1])
     | succ kj5 =>
      have H := HA.out
      clear HA
      simp only [zB0.j1] at H
      by_cases c8 : x20_5 = true
      ·subst c8
       have H1 : (some 2) = some r := by rw [if_pos rfl] at H; exact H
       clear H
       have H := H1
       clear H1
       obtain rfl := Option.some.inj H
       go_wp2
       go_ret
       exact ⟨by first | rfl | (simp; done) | (simp [*]; done), by repeat (first | exact zB6.refl _ | apply zB6.step)⟩
      ·replace c8 := Bool.eq_false_iff.mpr c8
       subst c8
       have H1 : (if x9_1 > 0 then (if 0 ≤ (wrap64 (x9_1 - 1)) then (if (wrap64 (x9_1 - 1)) < (l0.length : Int) then (if (rd l0 (wrap64 (x9_1 - 1))) ≥ (rd l0 x9_1) then (some 8) else (zB0.l0 kj5 l0 a1 l0 (l0.length : Int) (wrap64 (x9_1 + 1)))) else (none)) else (none)) else (zB0.l0 kj5 l0 a1 l0 (l0.length : Int) (wrap64 (x9_1 + 1)))) = some r := by rw [if_neg (show ¬ (false = true) by decide)] at H; exact H
       clear H
       have H := H1
       clear H1
       by_cases c9 : x9_1 > 0
       ·rw [if_pos c9] at H
        have c9b0 : decide (0 < x9_1) = true := decide_eq_true c9
        clear c9
        obtain ⟨ji10, hji10⟩ : ∃ j_ : Int, (wrap64 (x9_1 - 1)) = j_ := ⟨_, rfl⟩
        replace H : (if 0 ≤ (ji10) then (if (ji10) < (l0.length : Int) then (if (rd l0 (ji10)) ≥ (rd l0 x9_1) then (some 8) else (zB0.l0 kj5 l0 a1 l0 (l0.length : Int) (wrap64 (x9_1 + 1)))) else (none)) else (none)) = some r := by first | (rw [hji10] at H; exact H) | (simp only [hji10] at H ⊢; exact H)
        have hji10w : (IntKind.i64.wrap (x9_1 - 1)) = ji10 := (i64_w _).trans hji10
        by_cases c11 : 0 ≤ (ji10)
        rotate_left
        ·rw [if_neg c11] at H
         exact absurd H (by simp)
        rw [if_pos c11] at H
        have c11b0 : decide (0 ≤ (ji10)) = true := decide_eq_true c11
        clear c11
        by_cases c12 : (ji10) < (l0.length : Int)
        rotate_left
        ·rw [if_neg c12] at H
         exact absurd H (by simp)
        rw [if_pos c12] at H
        have c12b0 : decide ((ji10) < (l0.length : Int)) = true := decide_eq_true c12
        clear c12
        by_cases c13 : (rd l0 (ji10)) ≥ (rd l0 x9_1)
        ·rw [if_pos c13] at H
         have c13b0 : decide ((rd l0 x9_1) ≤ (rd l0 (ji10))) = true := decide_eq_true c13
         clear c13
         obtain rfl := Option.some.inj H
         have p138 : 0 ≤ ((ji10) : Int) := of_decide_eq_true (by first | (with_reducible assumption) | assumption)
         have q138 : (ji10) < (l0.length : Int) := of_decide_eq_true (by first | (with_reducible assumption) | assumption)
         obtain ⟨ad138, e138, hx138_0⟩ := Kd.zCb HR0.out (ji10) p138 q138
         obtain rfl : ad137 = ad138 := (by injection e138)
         replace p138 := eq_true p138
         replace q138 := eq_true q138
         go_wp2
         go_ret
         exact ⟨by first | rfl | (simp; done) | (simp only [← hji10] <;> (first | rfl | simp)) | (simp [*]; done), by repeat (first | exact zB6.refl _ | apply zB6.step)⟩
        ·rw [if_neg c13] at H
         have c13b0 : decide ((rd l0 x9_1) ≤ (rd l0 (ji10))) = false := decide_eq_false c13
         clear c13
         have H' := zA1.mk H
         clear H
         have p138 : 0 ≤ ((ji10) : Int) := of_decide_eq_true (by first | (with_reducible assumption) | assumption)
         have q138 : (ji10) < (l0.length : Int) := of_decide_eq_true (by first | (with_reducible assumption) | assumption)
         obtain ⟨ad138, e138, hx138_0⟩ := Kd.zCb HR0.out (ji10) p138 q138
         obtain rfl : ad137 = ad138 := (by injection e138)
         replace p138 := eq_true p138
         replace q138 := eq_true q138
         go_wp2
         go_roundg kj5
         case measure => have := HK1.out; have := HJ5.out; omega
         case rel => exact ⟨(wrap64 (x9_1 + 1)), (by first | rfl | (simp; done) | (simp [*]; done)), H', ⟨by have := HK1.out; have := HJ5.out; omega⟩, by repeat (first | exact zB6.refl _ | apply zB6.step)⟩
       ·rw [if_neg c9] at H
        have c9b0 : decide (0 < x9_1) = false := decide_eq_false c9
        clear c9
        have H' := zA1.mk H
        clear H
        go_wp2
        go_roundg kj5
        case measure => have := HK1.out; have := HJ5.out; omega
        case rel => exact ⟨(wrap64 (x9_1 + 1)), (by first | rfl | (simp; done) | (simp [*]; done)), H', ⟨by have := HK1.out; have := HJ5.out; omega⟩, by repeat (first | exact zB6.refl _ | apply zB6.step)⟩
   ·rw [if_neg c3] at H
    have c3b0 : decide (x9_1 < (l0.length : Int)) = false := decide_eq_false c3
    clear c3
    obtain rfl := Option.some.inj H
    go_wp2
    go_ret
    exact ⟨by first | rfl | (simp; done) | (simp [*]; done), by repeat (first | exact zB6.refl _ | apply zB6.step)⟩
end
end Go.Proofs.YtbghfbhlbfcloaaGreatDoor.PL
namespace Go.Proofs.YtbghfbhlbfcloaaGreatDoor.PL
section
open Go.RowKit Go.Proofs.YtbghfbhlbfcloaaGreatDoorW.PrintWords Go.Proofs.YtbghfbhlbfcloaaGreatDoorW.PrintLast Go.Proofs.YtbghfbhlbfcloaaGreatDoorW.PrintMore
attribute [local go_sem] zBv zBt zC5 zC4 zBo zBn zBu zBs   -- for this text's walks alone
set_option linter.unusedVariables false
set_option linter.unusedSimpArgs false
def zB5.l0 : Nat → List Int → List (S58) → Int → Int → Option (List Int)
 | 0, _, _, _, _ => none
 | k + 1, x3, x10, x11, x12 => if x12 < x11 then (if 0 ≤ x12 then (if x12 < (x10.length : Int) then (if 0 ≤ ((zB2 x10 x12).f0) then (if ((zB2 x10 x12).f0) < (x3.length : Int) then (if 0 ≤ ((zB2 x10 x12).f1) then (zB5.l0 k (x3.set (((zB2 x10 x12).f0) : Int).toNat (Go.bits .or .u64 (rd x3 ((zB2 x10 x12).f0)) (shl .u64 1 ((zB2 x10 x12).f1)))) x10 x11 (wrap64 (x12 + 1))) else (none)) else (none)) else (none)) else (none)) else (none)) else (some x3)
def zB5.f (k : Nat) (a0_0 : Int) (l0_1 : List (S58)) : Option (List Int) := if 0 ≤ a0_0 then (if (a0_0 : Int).toNat ≤ 35184372088832 then (zB5.l0 k (List.replicate (a0_0 : Int).toNat 0) l0_1 (l0_1.length : Int) 0) else (none)) else (none)
theorem zB5.zBw : ∀ k, (∀ y0 y1 y2 y3, LeO (zB5.l0 k y0 y1 y2 y3) (zB5.l0 (k + 1) y0 y1 y2 y3))
 | 0 => fun _ _ _ _ r h => by simp [zB5.l0] at h
 | k + 1 => by
  have ih0 := zB5.zBw k
  ·intro y0 y1 y2 y3
   unfold zB5.l0
   repeat' first
   | (with_reducible exact ih0 _ _ _ _)
   | (with_reducible exact LeO.refl _)
   | (with_reducible exact LeO.none _)
   | (with_reducible refine LeO.ite ?_ ?_)
   | (with_reducible refine LeO.bind ?_ (fun _ => ?_))
theorem zB5.mono : ∀ a0 a1 k, LeO (zB5.f k a0 a1) (zB5.f (k + 1) a0 a1) := by
 intro a0 a1 k
 have ih0 := zB5.zBw k
 unfold zB5.f
 repeat' first
   | (with_reducible exact ih0 _ _ _ _)
   | (with_reducible exact LeO.refl _)
   | (with_reducible exact LeO.none _)
   | (with_reducible refine LeO.ite ?_ ?_)
   | (with_reducible refine LeO.bind ?_ (fun _ => ?_))
def zB5.T5 : Bool × List (List Nat × List Nat) := (true, [([], []), ([], []), ([1], [1]), ([0, 2], [0, 2]), ([3], [3]), ([], []), ([5], [5]), ([6], [6]), ([4, 7], [4, 7]), ([0, 2, 0, 1, 2, 3, 4, 5, 6, 7, 8], [0, 2]), ([9, 8, 0, 1, 2, 3, 4, 5, 6, 7, 8], [8, 9])])
def zB5.B5 : List Nat := [0, 0, 2, 7, 15, 0, 32, 96, 255, 511, 1023]
theorem zB5.tab5 : rtab .any (opsOf Tryz.f50 5) = zB5.T5 := by kernel_rfl
theorem zB5.bits5 : waitsOk zB5.T5.2 zB5.B5 = true := by kernel_rfl
set_option maxHeartbeats 8000000 in
set_option maxRecDepth 100000 in
theorem zB5.calls (k : Nat) (a0_0 : Int) (A0_1 : Option Addr) (c0_1 : Nat) (l0_1 : List (S58)) (r : List Int) (w : World) (hr0_1 : Kd.C k58 w A0_1 l0_1.length l0_1) (hc0_1 : l0_1.length ≤ c0_1) (h : zB5.f k a0_0 l0_1 = some r) :
  Calls Tryz.prog 50 #[.agg #[.int .i64 a0_0, .slice A0_1 l0_1.length c0_1]] w fun e w' => ∃ v0_ : Value, e = .returned (v0_) ∧ Kd.R (Kd.int .u64) 65 w' w.heap.size (fun _ => True) v0_ r ∧ Below w.heap.size w w' := by
 have hu28 := Tryz.underlying28
 have hu58 := Tryz.underlying58
 have HR0_1 := zA1.mk hr0_1
 have HC0_1 := zA1.mk hc0_1
 clear hr0_1 hc0_1
 have HB := zA1.mk (Below.refl w.heap.size w)
 have H : (if 0 ≤ a0_0 then (if (a0_0 : Int).toNat ≤ 35184372088832 then (zB5.l0 k (List.replicate (a0_0 : Int).toNat 0) l0_1 (l0_1.length : Int) 0) else (none)) else (none)) = some r := h
 clear h
 by_cases c2 : 0 ≤ a0_0
 rotate_left
 ·rw [if_neg c2] at H
  exact absurd H (by simp)
 rw [if_pos c2] at H
 have c2b0 := eq_true c2
 have c2b1 : decide (0 ≤ a0_0) = true := decide_eq_true c2
 clear c2
 by_cases c3 : (a0_0 : Int).toNat ≤ 35184372088832
 rotate_left
 ·rw [if_neg c3] at H
  exact absurd H (by simp)
 rw [if_pos c3] at H
 have c3b0 := eq_true c3
 have c3b1 : decide ((a0_0 : Int).toNat ≤ 35184372088832) = true := decide_eq_true c3
 clear c3
 obtain ⟨y140, hy140⟩ : ∃ y_ : List Int, y_ = (List.replicate (a0_0 : Int).toNat 0) := ⟨_, rfl⟩
 replace H : (zB5.l0 k y140 l0_1 (l0_1.length : Int) 0) = some r := by first | (rw [hy140]; with_reducible exact H) | (have H2_ := (Option.bind_some _ _).symm.trans H; rw [hy140]; with_reducible exact H2_) | (have H2_ := (Option.bind_some _ _).symm.trans H; with_reducible exact H2_) | with_reducible exact H | (rw [hy140]; exact H) | exact H
 have Ny140 := zA1.mk hy140
 clear hy140
 have H' := zA1.mk H
 clear H
 go_enter Tryz.func50, Tryz.ntmps50
 go_wp2_with (first | ((with_reducible refine zBk (N := 1) rfl ?_); refine zBl ?hg (N := 1) ?hd (cs := #[.int .i64 a0_0, .slice A0_1 l0_1.length c0_1]) (t := 28) ?hr ?_; (case hd => rfl); (case hg => rfl); (case hr => first | (go_simp; done) | (go_simp; rfl)); intro gb139 hg w4 hbox hb; have n0_ := zA1.mk (zAg (by repeat (first | (with_reducible first | exact HB.out | apply zA2 | apply zA0 | apply zA3) | exact HB.out)) hb); have n1_ := zA1.mk (hbox); have n2_ := zA1.mk ((by rw [hg]; exact (zAb (by repeat (first | (with_reducible first | exact HB.out | apply zA2 | apply zA0 | apply zA3) | exact HB.out))) : w.heap.size ≤ gb139)); have n3_ := zA1.mk ((by rw [hg]; exact (zAb (by repeat (first | (with_reducible first | exact HB.out | apply zA2 | apply zA0 | apply zA3) | exact HB.out))) : w.heap.size ≤ gb139)); clear HB; have HB := n0_; have BK139 := n1_; have GW139 := n2_; have GE139 := n3_; clear n0_ n1_ n2_ n3_; clear hb hbox hg; have hcz5_0 : w4.cell? ⟨gb139, 0, none⟩ = some (.int .i64 a0_0) := (zA9 BK139.out 0).trans rfl; have hcz5_1 : w4.cell? ⟨gb139, 1, none⟩ = some (.slice A0_1 l0_1.length c0_1) := (zA9 BK139.out 1).trans rfl; have hfz5_0 := zAd BK139.out 0; have hfz5_1 := zAd BK139.out 1) | ((with_reducible refine zBk (N := 8) rfl ?_); refine Kd.R_make (Kd.int .u64) _ 65 rfl (N := 8) rfl 64 _ _ rfl a0_0 rfl rfl Tryz.underlying64 (.int .u64 0) 8 info65 rfl (by decide) (by omega) 0 (ok := fun _ => True) (okp := fun _ => True) rfl (fun _ hk => hk) trivial (of_decide_eq_true (by first | (with_reducible assumption) | assumption)) (Nat.le_trans (Nat.mul_le_mul_right _ (of_decide_eq_true (by first | (with_reducible assumption) | assumption) : a0_0.toNat ≤ 35184372088832)) (by omega)) (Below.refl _ _) (Nat.le_refl _) ?_; intro v141 w6 ho7 hb hg_ hnew_; clear hg_ hnew_; (first | rw [← Ny140.out] at ho7 | (simp only [Int.reduceToNat] at ho7; rw [← Ny140.out] at ho7)); have n0_ := zA1.mk (Kd.R_lower ho7 (zAb (by repeat (first | (with_reducible first | exact HB.out | apply zA2 | apply zA0 | apply zA3 | refine zA5 ?_ GE139.out) | exact HB.out)))); have n1_ := zA1.mk (zAq (g := gb139) (o := .cells #[.int .i64 a0_0, .slice A0_1 l0_1.length c0_1] 28 (0, 0)) (by (with_reducible repeat (first | refine zA7 ?_ _ | refine zA8 ?_ | refine zA6 ?_ _)); exact BK139.out) hb); have n2_ := zA1.mk (zAg (by repeat (first | (with_reducible first | exact HB.out | apply zA2 | apply zA0 | apply zA3 | refine zA5 ?_ GE139.out) | exact HB.out)) hb); clear BK139; clear HB; have HO142 := n0_; have BK139 := n1_; have HB := n2_; clear n0_ n1_ n2_; clear hb ho7; have hcz8_0 : w6.cell? ⟨gb139, 0, none⟩ = some (.int .i64 a0_0) := (zA9 BK139.out 0).trans rfl; have hcz8_1 : w6.cell? ⟨gb139, 1, none⟩ = some (.slice A0_1 l0_1.length c0_1) := (zA9 BK139.out 1).trans rfl; have hfz8_0 := zAd BK139.out 0; have hfz8_1 := zAd BK139.out 1))
 go_loopg [12] k (fun kq v12 w' => ∃ (x3_1 : List Int) (x12_1 : Int), v12 = .int .i64 x12_1 ∧ zA1 (zB5.l0 kq x3_1 l0_1 (l0_1.length : Int) x12_1 = some r) ∧ zA1 (kq ≤ k) ∧ zA1 (Kd.R (Kd.int .u64) 65 w' w.heap.size (fun _ => True) v141 x3_1) ∧ zA1 (w'.heap[gb139]? = some (.cells #[.int .i64 a0_0, (.slice A0_1 l0_1.length c0_1)] 28 (0, 0))) ∧ zA1 (Below w.heap.size w w'))
 case atStart => exact ⟨(y140), (0), (by first | rfl | (simp; done) | (simp [*]; done)), H', ⟨Nat.le_refl _⟩, ⟨by (with_reducible repeat (first | apply Kd.zAf | apply Kd.zAe | apply Kd.zAh)); exact HO142.out⟩, ⟨by (with_reducible repeat (first | refine zA7 ?_ _ | refine zA8 ?_ | refine zA6 ?_ _)); exact BK139.out⟩, ⟨by repeat (first | (with_reducible first | exact HB.out | apply zA2 | apply zA0 | apply zA3 | refine zA5 ?_ GE139.out) | exact HB.out)⟩⟩
 case round =>
  clear H'
  try clear c2
  try clear c2b0
  try clear c2b1
  try clear p2
  try clear c3
  try clear c3b0
  try clear c3b1
  try clear c5
  try clear hcz5_0
  try clear hcz5_1
  try clear hcz8_0
  try clear hcz8_1
  try clear hfz5_0
  try clear hfz5_1
  try clear hfz8_0
  try clear hfz8_1
  obtain ⟨x3_1, x12_1, rfl, HA, HK1, HO_3, BK139, HB⟩ := hrel
  cases gk with
  | zero => exact absurd HA.out (by simp [zB5.l0])
  | succ k1 =>
   have H := HA.out
   clear HA
   simp only [zB5.l0] at H
   by_cases c9 : x12_1 < (l0_1.length : Int)
   ·rw [if_pos c9] at H
    have c9b0 : decide (x12_1 < (l0_1.length : Int)) = true := decide_eq_true c9
    clear c9
    by_cases c10 : 0 ≤ x12_1
    rotate_left
    ·rw [if_neg c10] at H
     exact absurd H (by simp)
    rw [if_pos c10] at H
    have c10b0 : decide (0 ≤ x12_1) = true := decide_eq_true c10
    clear c10
    by_cases c11 : x12_1 < (l0_1.length : Int)
    rotate_left
    ·rw [if_neg c11] at H
     exact absurd H (by simp)
    rw [if_pos c11] at H
    have c11b0 : decide (x12_1 < (l0_1.length : Int)) = true := decide_eq_true c11
    clear c11
    by_cases c12 : 0 ≤ ((zB2 l0_1 x12_1).f0)
    rotate_left
    ·rw [if_neg c12] at H
     exact absurd H (by simp)
    rw [if_pos c12] at H
    have c12b0 : decide (0 ≤ ((zB2 l0_1 x12_1).f0)) = true := decide_eq_true c12
    clear c12
    by_cases c13 : ((zB2 l0_1 x12_1).f0) < (x3_1.length : Int)
    rotate_left
    ·rw [if_neg c13] at H
     exact absurd H (by simp)
    rw [if_pos c13] at H
    have c13b0 : decide (((zB2 l0_1 x12_1).f0) < (x3_1.length : Int)) = true := decide_eq_true c13
    clear c13
    by_cases c14 : 0 ≤ ((zB2 l0_1 x12_1).f1)
    rotate_left
    ·rw [if_neg c14] at H
     exact absurd H (by simp)
    rw [if_pos c14] at H
    have c14b0 := eq_true c14
    have c14b1 : decide (0 ≤ ((zB2 l0_1 x12_1).f1)) = true := decide_eq_true c14
    clear c14
    obtain ⟨ji15, hji15⟩ : ∃ j_ : Int, (shl .u64 1 ((zB2 l0_1 x12_1).f1)) = j_ := ⟨_, rfl⟩
    replace H : (zB5.l0 k1 (x3_1.set (((zB2 l0_1 x12_1).f0) : Int).toNat (Go.bits .or .u64 (rd x3_1 ((zB2 l0_1 x12_1).f0)) (ji15))) l0_1 (l0_1.length : Int) (wrap64 (x12_1 + 1))) = some r := by first | (rw [hji15] at H; exact H) | (simp only [hji15] at H ⊢; exact H)
    have hji15_ : (IntKind.u64.wrap (1 * 2 ^ min ((zB2 l0_1 x12_1).f1).toNat 64)) = ji15 := hji15
    have hji15z : ((zB2 l0_1 x12_1).f1) ≤ 64 → (IntKind.u64.wrap (1 * 2 ^ ((zB2 l0_1 x12_1).f1).toNat)) = ji15 := shl_small hji15
    have hji15u : (IntKind.u64.wrap (2 ^ min ((zB2 l0_1 x12_1).f1).toNat 64)) = ji15 := by have h_ := hji15_; rw [Int.one_mul] at h_; exact h_
    have hji15v : ((zB2 l0_1 x12_1).f1) ≤ 64 → (IntKind.u64.wrap (2 ^ ((zB2 l0_1 x12_1).f1).toNat)) = ji15 := fun hle_ => by have h_ := hji15z hle_; rw [Int.one_mul] at h_; exact h_
    obtain ⟨y146, hy146⟩ : ∃ y_ : List Int, y_ = (x3_1.set (((zB2 l0_1 x12_1).f0) : Int).toNat (Go.bits .or .u64 (rd x3_1 ((zB2 l0_1 x12_1).f0)) (ji15))) := ⟨_, rfl⟩
    replace H : (zB5.l0 k1 y146 l0_1 (l0_1.length : Int) (wrap64 (x12_1 + 1))) = some r := by first | (rw [hy146]; with_reducible exact H) | (have H2_ := (Option.bind_some _ _).symm.trans H; rw [hy146]; with_reducible exact H2_) | (have H2_ := (Option.bind_some _ _).symm.trans H; with_reducible exact H2_) | with_reducible exact H | (rw [hy146]; exact H) | exact H
    have Ny146 := zA1.mk hy146
    clear hy146
    have H' := zA1.mk H
    clear H
    have p143 : 0 ≤ (x12_1 : Int) := of_decide_eq_true (by first | (with_reducible assumption) | assumption)
    have q143 : x12_1 < (l0_1.length : Int) := of_decide_eq_true (by first | (with_reducible assumption) | assumption)
    obtain ⟨ad143, e143, hx143_0, hx143_1⟩ := at_T58 HR0_1.out x12_1 p143 q143
    cases e143
    replace hx143_0 := (HB.out.cell (World.block_lt_of_cell? w _ hx143_0)).trans hx143_0
    replace hx143_1 := (HB.out.cell (World.block_lt_of_cell? w _ hx143_1)).trans hx143_1
    replace p143 := eq_true p143
    replace q143 := eq_true q143
    try go_wp2_with (first | ((with_reducible refine zBk (N := 5) rfl ?_); refine zBl ?hg (N := 5) ?hd (cs := #[.int .i64 0, .int .i64 0]) (t := 58) ?hr ?_; (case hd => rfl); (case hg => rfl); (case hr => first | (go_simp; done) | (go_simp; rfl)); intro gb144 hg w17 hbox hb; have n0_ := zA1.mk (Kd.zBg (by (with_reducible repeat (first | apply Kd.zAf | apply Kd.zAe | apply Kd.zAh)); exact HO_3.out) hb); have n1_ := zA1.mk (zAq (g := gb139) (o := .cells #[.int .i64 a0_0, .slice (some ad143) l0_1.length c0_1] 28 (0, 0)) (by (with_reducible repeat (first | refine zA7 ?_ _ | refine zA8 ?_ | refine zA6 ?_ _)); exact BK139.out) hb); have n2_ := zA1.mk (zAg (by repeat (first | (with_reducible first | exact HB.out | apply zA2 | apply zA0 | apply zA3 | refine zA5 ?_ GE139.out) | exact HB.out)) hb); have n3_ := zA1.mk (hbox); have n4_ := zA1.mk ((by rw [hg]; exact (zAb (by repeat (first | (with_reducible first | exact HB.out | apply zA2 | apply zA0 | apply zA3 | refine zA5 ?_ GE139.out) | exact HB.out))) : w.heap.size ≤ gb144)); have n5_ := zA1.mk ((by rw [hg]; exact (zAb (by repeat (first | (with_reducible first | exact HB.out | apply zA2 | apply zA0 | apply zA3 | refine zA5 ?_ GE139.out) | exact HB.out))) : w.heap.size ≤ gb144)); have n6_ := zA1.mk ((by rw [hg]; exact Nat.ne_of_lt (zC7 (g := gb139) (o := .cells #[.int .i64 a0_0, .slice (some ad143) l0_1.length c0_1] 28 (0, 0)) (by (with_reducible repeat (first | refine zA7 ?_ _ | refine zA8 ?_ | refine zA6 ?_ _)); exact BK139.out)) : gb139 ≠ gb144)); have n7_ := zA1.mk ((by rw [hg]; exact Nat.ne_of_gt (zC7 (g := gb139) (o := .cells #[.int .i64 a0_0, .slice (some ad143) l0_1.length c0_1] 28 (0, 0)) (by (with_reducible repeat (first | refine zA7 ?_ _ | refine zA8 ?_ | refine zA6 ?_ _)); exact BK139.out)) : gb144 ≠ gb139)); clear HO_3; clear BK139; clear HB; have HO_3 := n0_; have BK139 := n1_; have HB := n2_; have BK144 := n3_; have GW144 := n4_; have GE144 := n5_; have NB139_144 := n6_; have NB144_139 := n7_; clear n0_ n1_ n2_ n3_ n4_ n5_ n6_ n7_; clear hb hbox hg; have hnb18 := NB144_139.out; have hnc18 := NB139_144.out; have hcz19_0 : w17.cell? ⟨gb144, 0, none⟩ = some (.int .i64 0) := (zA9 BK144.out 0).trans rfl; have hcz19_1 : w17.cell? ⟨gb144, 1, none⟩ = some (.int .i64 0) := (zA9 BK144.out 1).trans rfl; have hfz19_0 := zAd BK144.out 0; have hfz19_1 := zAd BK144.out 1))
    have n0_ : zA1 (Kd.R (Kd.int .u64) 65 ((w17.setCell ⟨gb144, 0, none⟩ (.int .i64 ((zB2 l0_1 x12_1).f0))).setCell ⟨gb144, 1, none⟩ (.int .i64 ((zB2 l0_1 x12_1).f1))) w.heap.size (fun _ => True) v141 x3_1) := ⟨by (with_reducible repeat (first | apply Kd.zAf | apply Kd.zAe | apply Kd.zAh)); exact Kd.zC0 (Kd.R_far (p := ⟨gb144, 1, none⟩) (Kd.R_far (p := ⟨gb144, 0, none⟩) (Kd.R_types HO_3.out BK144.out (by decide)) (fun _ hk => hk.2) (.int .i64 ((zB2 l0_1 x12_1).f0))) (fun _ hk => hk.2) (.int .i64 ((zB2 l0_1 x12_1).f1))) (fun _ hk => trivial)⟩
    have n1_ : zA1 (((w17.setCell ⟨gb144, 0, none⟩ (.int .i64 ((zB2 l0_1 x12_1).f0))).setCell ⟨gb144, 1, none⟩ (.int .i64 ((zB2 l0_1 x12_1).f1))).heap[gb139]? = some (.cells #[.int .i64 a0_0, .slice (some ad143) l0_1.length c0_1] 28 (0, 0))) := ⟨by (with_reducible repeat (first | refine zA7 ?_ _ | refine zA8 ?_ | refine zA6 ?_ _)); refine blk_far ?_ NB139_144.out _; (with_reducible repeat (first | refine zA7 ?_ _ | refine zA8 ?_ | refine zA6 ?_ _)); refine blk_far ?_ NB139_144.out _; (with_reducible repeat (first | refine zA7 ?_ _ | refine zA8 ?_ | refine zA6 ?_ _)); exact BK139.out⟩
    have n2_ : zA1 (((w17.setCell ⟨gb144, 0, none⟩ (.int .i64 ((zB2 l0_1 x12_1).f0))).setCell ⟨gb144, 1, none⟩ (.int .i64 ((zB2 l0_1 x12_1).f1))).heap[gb144]? = some (.cells #[.int .i64 ((zB2 l0_1 x12_1).f0), .int .i64 ((zB2 l0_1 x12_1).f1)] 58 (0, 0))) := ⟨by (with_reducible repeat (first | refine zA7 ?_ _ | refine zA8 ?_ | refine zA6 ?_ _)); refine blk_put (cs := #[.int .i64 ((zB2 l0_1 x12_1).f0), .int .i64 0]) ?_ 1 _ rfl; (with_reducible repeat (first | refine zA7 ?_ _ | refine zA8 ?_ | refine zA6 ?_ _)); refine blk_put (cs := #[.int .i64 0, .int .i64 0]) ?_ 0 _ rfl; (with_reducible repeat (first | refine zA7 ?_ _ | refine zA8 ?_ | refine zA6 ?_ _)); exact BK144.out⟩
    have n3_ : zA1 (Below w.heap.size w ((w17.setCell ⟨gb144, 0, none⟩ (.int .i64 ((zB2 l0_1 x12_1).f0))).setCell ⟨gb144, 1, none⟩ (.int .i64 ((zB2 l0_1 x12_1).f1)))) := ⟨by repeat (first | (with_reducible first | exact HB.out | apply zA2 | apply zA0 | apply zA3 | refine zA5 ?_ GE139.out | refine zA5 ?_ GE144.out) | exact HB.out)⟩
    (try clear HO_3)
    (try clear BK139)
    (try clear BK144)
    (try clear HB)
    generalize ((w17.setCell ⟨gb144, 0, none⟩ (.int .i64 ((zB2 l0_1 x12_1).f0))).setCell ⟨gb144, 1, none⟩ (.int .i64 ((zB2 l0_1 x12_1).f1))) = w20 at n0_ n1_ n2_ n3_ ⊢
    have HO_3 := n0_
    have BK139 := n1_
    have BK144 := n2_
    have HB := n3_
    clear n0_ n1_ n2_ n3_
    have n0_ := zA1.mk (Kd.zAh HO_3.out)
    have n1_ := zA1.mk (zA8 BK139.out)
    have n2_ := zA1.mk (zA8 BK144.out)
    have n3_ := zA1.mk (zA3 HB.out)
    clear HO_3
    clear BK139
    clear BK144
    clear HB
    have HO_3 := n0_
    have BK139 := n1_
    have BK144 := n2_
    have HB := n3_
    clear n0_ n1_ n2_ n3_
    obtain ⟨Ao22, co22, eo22⟩ := Kd.zC3 HO_3.out
    (first | subst eo22 | (injection eo22 with f1_ f2_ f3_; have f4_ := f1_.symm; have f5_ := f3_.symm; clear f1_ f2_ f3_; subst f4_; subst f5_))
    have p145 : 0 ≤ (((zB2 l0_1 x12_1).f0) : Int) := of_decide_eq_true (by first | (with_reducible assumption) | assumption)
    have q145 : ((zB2 l0_1 x12_1).f0) < (x3_1.length : Int) := of_decide_eq_true (by first | (with_reducible assumption) | assumption)
    obtain ⟨ad145, e145, hx145_0⟩ := Kd.zCb (Kd.zAz HO_3.out).2.2 ((zB2 l0_1 x12_1).f0) p145 q145
    cases e145
    replace p145 := eq_true p145
    replace q145 := eq_true q145
    have p16 : 0 ≤ (((zB2 l0_1 x12_1).f0) : Int) := of_decide_eq_true (by first | (with_reducible assumption) | assumption)
    have q16 : (((zB2 l0_1 x12_1).f0) : Int) < ((x3_1.length : Int) : Int) := of_decide_eq_true (by first | (with_reducible assumption) | assumption)
    obtain ⟨go16, co16, eo16, gb16, gl16, cl16, HG16⟩ := Kd.R_form HO_3.out (by omega)
    (first | cases eo16 | (injection eo16 with ea_ en_ ec_; (first | subst ea_ | (injection ea_ with ea_; subst ea_)); subst ec_; clear en_))
    have GB16 := zA1.mk gb16
    have GG16 := zA1.mk HG16
    clear gb16 gl16 HG16
    (first | simp only [add_plain] at hx145_0 | skip)
    obtain ⟨hx16_0, hf16_0⟩ := Kd.R_celln 0 HO_3.out (((zB2 l0_1 x12_1).f0) : Int) p16 q16
    replace p16 := eq_true p16
    replace q16 := eq_true q16
    have HP23 := Kd.R_putn HO_3.out (((zB2 l0_1 x12_1).f0) : Int) (Go.bits .or .u64 (rd x3_1 ((zB2 l0_1 x12_1).f0)) (ji15))
    rw [← Ny146.out] at HP23
    have HQ23 := zA1.mk HP23
    clear HP23
    refine start_ (n := 11) (S := fun w' => w'.cell? ⟨gb144, 0, none⟩ = some (.int .i64 ((zB2 l0_1 x12_1).f0)) ∧ w'.cell? ⟨gb144, 1, none⟩ = some (.int .i64 ((zB2 l0_1 x12_1).f1)) ∧ w'.cell? ⟨go16, (((zB2 l0_1 x12_1).f0)).toNat, none⟩ = some (.int .u64 (rd x3_1 ((zB2 l0_1 x12_1).f0)))) (ds := [10]) #[false, false, false, false, false, false, false, false, false, false, false] (by kernel_rfl) rfl rfl ⟨(zA9 BK144.out 0).trans rfl, (zA9 BK144.out 1).trans rfl, hx145_0⟩ (fun hHeld => ?_); refine with_tabW zB5.tab5 zB5.bits5 (fun HT_ HW_ => ?_)
    generalize w20.drew = w21 at HO_3 BK139 BK144 HB GG16 HQ23 hf16_0 hx145_0 hx16_0 hHeld ⊢
    refine pure_ (i := 0) (N := some 16) (v := ?_) (a' := ?_) #[true, false, false, false, false, false, false, false, false, false, false] rfl rfl (zBf HT_.out (by kernel_rfl)) (fun _ _ _ h => h) (Or.inl ⟨by rfl, ?_⟩) ?_ ?_
    rotate_left
    ·intro w'
     go_simp
     with_reducible rfl
    rotate_left
    ·simp only [Act.put, List.setIfInBounds_toArray, List.set_cons_zero, List.set_cons_succ, i64_w, i32_w]
     rfl
    refine pure_ (i := 1) (N := some 17) (v := ?_) (a' := ?_) #[true, true, false, false, false, false, false, false, false, false, false] rfl rfl (zBf HT_.out (by kernel_rfl)) (fun _ _ _ h => h) (Or.inl ⟨by rfl, ?_⟩) ?_ ?_
    rotate_left
    ·intro w'
     go_simp
     with_reducible rfl
    rotate_left
    ·simp only [Act.put, List.setIfInBounds_toArray, List.set_cons_zero, List.set_cons_succ, i64_w, i32_w]
     rfl
    refine pure_ (i := 5) (N := some 21) (v := ?_) (a' := ?_) #[true, true, false, false, false, true, false, false, false, false, false] rfl rfl (zBf HT_.out (by kernel_rfl)) (fun _ _ _ h => h) (Or.inl ⟨by rfl, ?_⟩) ?_ ?_
    rotate_left
    ·intro w'
     go_simp
     with_reducible rfl
    rotate_left
    ·simp only [Act.put, List.setIfInBounds_toArray, List.set_cons_zero, List.set_cons_succ, i64_w, i32_w]
     rfl
    refine take_ (i := 2) (N := some 18) (v := ?_) (a' := ?_) #[true, true, true, false, false, true, false, false, false, false, false] rfl rfl (zC1 HT_.out HW_.out (by kernel_rfl)) (fun _ _ _ h => h) (Or.inl ⟨by rfl, ?_⟩) hHeld ?_ ?_
    rotate_left
    ·rintro w' ⟨s0, s1, s2⟩
     go_simp
     with_reducible rfl
    rotate_left
    ·simp only [Act.put, List.setIfInBounds_toArray, List.set_cons_zero, List.set_cons_succ, i64_w, i32_w]
     rfl
    refine pure_ (i := 3) (N := some 19) (v := ?_) (a' := ?_) #[true, true, true, true, false, true, false, false, false, false, false] rfl rfl (zBf HT_.out (by kernel_rfl)) (fun _ _ _ h => h) (Or.inl ⟨by rfl, ?_⟩) ?_ ?_
    rotate_left
    ·intro w'
     go_simp
     with_reducible rfl
    rotate_left
    ·simp only [Act.put, List.setIfInBounds_toArray, List.set_cons_zero, List.set_cons_succ, i64_w, i32_w]
     rfl
    refine take_ (i := 4) (N := some 20) (v := ?_) (a' := ?_) #[true, true, true, true, true, true, false, false, false, false, false] rfl rfl (zC1 HT_.out HW_.out (by kernel_rfl)) (fun _ _ _ h => h) (Or.inl ⟨by rfl, ?_⟩) hHeld ?_ ?_
    rotate_left
    ·rintro w' ⟨s0, s1, s2⟩
     go_simp
     with_reducible rfl
    rotate_left
    ·simp only [Act.put, List.setIfInBounds_toArray, List.set_cons_zero, List.set_cons_succ, i64_w, i32_w]
     rfl
    refine take_ (i := 6) (N := some 22) (v := ?_) (a' := ?_) #[true, true, true, true, true, true, true, false, false, false, false] rfl rfl (zC1 HT_.out HW_.out (by kernel_rfl)) (fun _ _ _ h => h) (Or.inl ⟨by rfl, ?_⟩) hHeld ?_ ?_
    rotate_left
    ·rintro w' ⟨s0, s1, s2⟩
     go_simp
     with_reducible rfl
    rotate_left
    ·simp only [Act.put, List.setIfInBounds_toArray, List.set_cons_zero, List.set_cons_succ, i64_w, i32_w]
     rfl
    refine pure_ (i := 7) (N := some 23) (v := ?_) (a' := ?_) #[true, true, true, true, true, true, true, true, false, false, false] rfl rfl (zBf HT_.out (by kernel_rfl)) (fun _ _ _ h => h) (Or.inl ⟨by rfl, ?_⟩) ?_ ?_
    rotate_left
    ·intro w'
     go_simp
     with_reducible rfl
    rotate_left
    ·simp only [Act.put, List.setIfInBounds_toArray, List.set_cons_zero, List.set_cons_succ, i64_w, i32_w]
     rfl
    refine pure_ (i := 8) (N := some 24) (v := ?_) (a' := ?_) #[true, true, true, true, true, true, true, true, true, false, false] rfl rfl (zBf HT_.out (by kernel_rfl)) (fun _ _ _ h => h) (Or.inl ⟨by rfl, ?_⟩) ?_ ?_
    rotate_left
    ·intro w'
     go_simp
     with_reducible rfl
    rotate_left
    ·simp only [Act.put, List.setIfInBounds_toArray, List.set_cons_zero, List.set_cons_succ, i64_w, i32_w]
     rfl
    refine pure_ (i := 9) (N := some 25) (v := ?_) (a' := ?_) #[true, true, true, true, true, true, true, true, true, true, false] rfl rfl (zBf HT_.out (by kernel_rfl)) (fun _ _ _ h => h) (Or.inl ⟨by rfl, ?_⟩) ?_ ?_
    rotate_left
    ·intro w'
     go_simp
     with_reducible rfl
    rotate_left
    ·simp only [Act.put, List.setIfInBounds_toArray, List.set_cons_zero, List.set_cons_succ, i64_w, i32_w]
     rfl
    refine last_ (i := 10) (N := none) #[true, true, true, true, true, true, true, true, true, true, true] rfl rfl (one_of HT_.out (by kernel_rfl)) (by decide) (fun K hK => ?_)
    refine skip_ (w1 := ?_) (by rfl) rfl ?_ ?_
    rotate_left
    ·go_simp
     rfl
    refine hK.out _ _ ?_
    clear hK K
    refine done_ (done_of HT_.out (by kernel_rfl)) ?_
    try go_wp2
    go_roundg k1
    case measure => have := HK1.out; omega
    case rel => exact ⟨(y146), (wrap64 (x12_1 + 1)), (by first | rfl | (simp; done) | (simp [*]; done)), H', ⟨by have := HK1.out; omega⟩, ⟨by (with_reducible repeat (first | apply Kd.zAf | apply Kd.zAe | apply Kd.zAh)); exact HQ23.out⟩, ⟨by (with_reducible repeat (first | refine zA7 ?_ _ | refine zA8 ?_ | refine zA6 ?_ _)); refine blk_far ?_ (by have h_ := Kd.R_ne HO_3.out BK139.out (by decide); intro e_; exact h_ (by rw [e_]; rfl)) _; (with_reducible repeat (first | refine zA7 ?_ _ | refine zA8 ?_ | refine zA6 ?_ _)); exact BK139.out⟩, ⟨by repeat (first | (with_reducible first | exact HB.out | apply zA2 | apply zA0 | apply zA3 | refine zA5 ?_ GB16.out | refine zA5 ?_ GE139.out | refine zA5 ?_ GE144.out) | exact HB.out)⟩⟩
   ·rw [if_neg c9] at H
    have c9b0 : decide (x12_1 < (l0_1.length : Int)) = false := decide_eq_false c9
    clear c9
    obtain rfl := Option.some.inj H
    go_wp2
    go_ret
    exact ⟨_, by first | rfl | (simp [zAp, zAo] <;> rfl) | (simp [*, zAp, zAo] <;> rfl), by (with_reducible repeat (first | apply Kd.zAf | apply Kd.zAe | apply Kd.zAh)); exact HO_3.out, by repeat (first | (with_reducible first | exact HB.out | apply zA2 | apply zA0 | apply zA3 | refine zA5 ?_ GE139.out) | exact HB.out)⟩
end
end Go.Proofs.YtbghfbhlbfcloaaGreatDoor.PL
namespace Go.Proofs.YtbghfbhlbfcloaaGreatDoor.PL
section
open Go.RowKit Go.Proofs.YtbghfbhlbfcloaaGreatDoorW.PrintWords Go.Proofs.YtbghfbhlbfcloaaGreatDoorW.PrintLast Go.Proofs.YtbghfbhlbfcloaaGreatDoorW.PrintMore
attribute [local go_sem] zBv zBt zC5 zC4 zBo zBn zBu zBs   -- for this text's walks alone
set_option linter.unusedVariables false
set_option linter.unusedSimpArgs false
mutual
def zAu.j0 : Nat → Bool → Int → List (S58) → Option (Int)
 | 0, _, _, _ => none
 | k + 1, x6, x121000, x121001 => if x6 = true then (some 2) else (if (x121001.length : Int) > (wrap64 (x121000 * x121000)) then (some 6) else (zAu.l0 k x121001 (x121001.length : Int) 0 x121000 x121001))
def zAu.l0 : Nat → List (S58) → Int → Int → Int → List (S58) → Option (Int)
 | 0, _, _, _, _, _ => none
 | k + 1, x26, x27, x28, x121000, x121001 => if x28 < x27 then (if 0 ≤ x28 then (if x28 < (x26.length : Int) then ((zCa.f x121000 ((zB2 x26 x28).f0)).bind fun t123 => (if t123 = true then (some 2) else ((zCa.f x121000 ((zB2 x26 x28).f1)).bind fun t124 => (if t124 = true then (some 2) else (zAu.l0 k x26 x27 (wrap64 (x28 + 1)) x121000 x121001))))) else (none)) else (none)) else (zAu.l1 k 1 x121000 x121001)
def zAu.l1 : Nat → Int → Int → List (S58) → Option (Int)
 | 0, _, _, _ => none
 | k + 1, x5, x121000, x121001 => if x5 < (x121001.length : Int) then (if 0 ≤ (wrap64 (x5 - 1)) then (if (wrap64 (x5 - 1)) < (x121001.length : Int) then (if 0 ≤ x5 then ((zBx.f k ((zB2 x121001 (wrap64 (x5 - 1))).f0) ((zB2 x121001 (wrap64 (x5 - 1))).f1) ((zB2 x121001 x5).f0) ((zB2 x121001 x5).f1)).bind fun t127 => (if t127 ≥ 0 then (some 8) else (zAu.l1 k (wrap64 (x5 + 1)) x121000 x121001))) else (none)) else (none)) else (none)) else (some 0)
end
def zAu.f (k : Nat) (a0_0 : Int) (l0_1 : List (S58)) : Option (Int) := if a0_0 < 0 then (zAu.j0 k true a0_0 l0_1) else (zAu.j0 k (decide (a0_0 > 64)) a0_0 l0_1)
theorem zAu.zBw : ∀ k, (∀ y0 y1 y2, LeO (zAu.j0 k y0 y1 y2) (zAu.j0 (k + 1) y0 y1 y2)) ∧ (∀ y0 y1 y2 y3 y4, LeO (zAu.l0 k y0 y1 y2 y3 y4) (zAu.l0 (k + 1) y0 y1 y2 y3 y4)) ∧ (∀ y0 y1 y2, LeO (zAu.l1 k y0 y1 y2) (zAu.l1 (k + 1) y0 y1 y2))
 | 0 => ⟨fun _ _ _ r h => by simp [zAu.j0] at h, fun _ _ _ _ _ r h => by simp [zAu.l0] at h, fun _ _ _ r h => by simp [zAu.l1] at h⟩
 | k + 1 => by
  obtain ⟨ih0, ih1, ih2⟩ := zAu.zBw k
  refine ⟨?_, ?_, ?_⟩
  ·intro y0 y1 y2
   unfold zAu.j0
   repeat' first
   | (with_reducible exact ih0 _ _ _)
   | (with_reducible exact ih1 _ _ _ _ _)
   | (with_reducible exact ih2 _ _ _)
   | (with_reducible exact zBx.mono _ _ _ _ _)
   | (with_reducible exact LeO.refl _)
   | (with_reducible exact LeO.none _)
   | (with_reducible refine LeO.ite ?_ ?_)
   | (with_reducible refine LeO.bind ?_ (fun _ => ?_))
  ·intro y0 y1 y2 y3 y4
   unfold zAu.l0
   repeat' first
   | (with_reducible exact ih0 _ _ _)
   | (with_reducible exact ih1 _ _ _ _ _)
   | (with_reducible exact ih2 _ _ _)
   | (with_reducible exact zBx.mono _ _ _ _ _)
   | (with_reducible exact LeO.refl _)
   | (with_reducible exact LeO.none _)
   | (with_reducible refine LeO.ite ?_ ?_)
   | (with_reducible refine LeO.bind ?_ (fun _ => ?_))
  ·intro y0 y1 y2
   unfold zAu.l1
   repeat' first
   | (with_reducible exact ih0 _ _ _)
   | (with_reducible exact ih1 _ _ _ _ _)
   | (with_reducible exact ih2 _ _ _)
   | (with_reducible exact zBx.mono _ _ _ _ _)
   | (with_reducible exact LeO.refl _)
   | (with_reducible exact LeO.none _)
   | (with_reducible refine LeO.ite ?_ ?_)
   | (with_reducible refine LeO.bind ?_ (fun _ => ?_))
theorem zAu.mono : ∀ a0 a1 k, LeO (zAu.f k a0 a1) (zAu.f (k + 1) a0 a1) := by
 intro a0 a1 k
 obtain ⟨ih0, ih1, ih2⟩ := zAu.zBw k
 unfold zAu.f
 repeat' first
   | (with_reducible exact ih0 _ _ _)
   | (with_reducible exact ih1 _ _ _ _ _)
   | (with_reducible exact ih2 _ _ _)
   | (with_reducible exact zBx.mono _ _ _ _ _)
   | (with_reducible exact LeO.refl _)
   | (with_reducible exact LeO.none _)
   | (with_reducible refine LeO.ite ?_ ?_)
   | (with_reducible refine LeO.bind ?_ (fun _ => ?_))
def zAu.T14 : Bool × List (List Nat × List Nat) := (true, [([], []), ([0], [0]), ([], []), ([2], [2]), ([1, 3], [1, 3]), ([4], [4]), ([], []), ([6], [6]), ([], []), ([7, 8], [7, 8]), ([9], [9]), ([5, 10], [5, 10]), ([11], [11])])
def zAu.B14 : List Nat := [0, 1, 0, 4, 15, 31, 0, 64, 0, 448, 960, 2047, 4095]
theorem zAu.tab14 : rtab .any (opsOf Tryz.f39 14) = zAu.T14 := by kernel_rfl
theorem zAu.bits14 : waitsOk zAu.T14.2 zAu.B14 = true := by kernel_rfl
set_option maxHeartbeats 8000000 in
set_option maxRecDepth 100000 in
theorem zAu.calls (k : Nat) (a0_0 : Int) (A0_1 : Option Addr) (c0_1 : Nat) (l0_1 : List (S58)) (r : Int) (w : World) (hr0_1 : Kd.C k58 w A0_1 l0_1.length l0_1) (hc0_1 : l0_1.length ≤ c0_1) (h : zAu.f k a0_0 l0_1 = some r) :
  Calls Tryz.prog 39 #[.agg #[.int .i64 a0_0, .slice A0_1 l0_1.length c0_1]] w fun e w' => e = .returned (.int .i64 r) ∧ Below w.heap.size w w' := by
 have hu28 := Tryz.underlying28
 have hu58 := Tryz.underlying58
 have HR0_1 := zA1.mk hr0_1
 have HC0_1 := zA1.mk hc0_1
 clear hr0_1 hc0_1
 have HB := zA1.mk (Below.refl w.heap.size w)
 have H : (if a0_0 < 0 then (zAu.j0 k true a0_0 l0_1) else (zAu.j0 k (decide (a0_0 > 64)) a0_0 l0_1)) = some r := h
 clear h
 have HC2 := zA1.mk H
 clear H
 go_enter Tryz.func39, Tryz.ntmps39
 go_upto_region 1 with (first | ((with_reducible refine zBk (N := 1) rfl ?_); refine zBl ?hg (N := 1) ?hd (cs := #[.int .i64 a0_0, .slice A0_1 l0_1.length c0_1]) (t := 28) ?hr ?_; (case hd => rfl); (case hg => rfl); (case hr => first | (go_simp; done) | (go_simp; rfl)); intro gb120 hg w3 hbox hb; have n0_ := zA1.mk (zAg (by repeat (first | (with_reducible first | exact HB.out | apply zA2 | apply zA0 | apply zA3) | exact HB.out)) hb); have n1_ := zA1.mk (hbox); have n2_ := zA1.mk ((by rw [hg]; exact (zAb (by repeat (first | (with_reducible first | exact HB.out | apply zA2 | apply zA0 | apply zA3) | exact HB.out))) : w.heap.size ≤ gb120)); have n3_ := zA1.mk ((by rw [hg]; exact (zAb (by repeat (first | (with_reducible first | exact HB.out | apply zA2 | apply zA0 | apply zA3) | exact HB.out))) : w.heap.size ≤ gb120)); clear HB; have HB := n0_; have BK120 := n1_; have GW120 := n2_; have GE120 := n3_; clear n0_ n1_ n2_ n3_; clear hb hbox hg))
 (try simp only [Act.put, List.setIfInBounds_toArray, List.set_cons_zero, List.set_cons_succ])
 go_cut [6] (fun v6 wc => ∃ (kq : Nat) (x6_1 : Bool), v6 = .bool x6_1 ∧ zA1 (zAu.j0 kq x6_1 a0_0 l0_1 = some r) ∧ zA1 (kq ≤ k) ∧ zA1 (wc.heap[gb120]? = some (.cells #[.int .i64 a0_0, (.slice A0_1 l0_1.length c0_1)] 28 (0, 0))) ∧ zA1 (Below w.heap.size w wc))
 case first =>
  have H := HC2.out
  clear HC2
  by_cases c4 : a0_0 < 0
  ·rw [if_pos c4] at H
   have c4b0 : decide (a0_0 < 0) = true := decide_eq_true c4
   clear c4
   (first | rw [c4b0] | (simp only [i64_w, i32_w]; rw [c4b0]) | skip)
   have H' := zA1.mk H
   clear H
   have hcz5_0 : w3.cell? ⟨gb120, 0, none⟩ = some (.int .i64 a0_0) := (zA9 BK120.out 0).trans rfl
   have hcz5_1 : w3.cell? ⟨gb120, 1, none⟩ = some (.slice A0_1 l0_1.length c0_1) := (zA9 BK120.out 1).trans rfl
   have hfz5_0 := zAd BK120.out 0
   have hfz5_1 := zAd BK120.out 1
   go_wp2
   go_meet
   case rel => exact ⟨_, (true), (by first | rfl | (simp; done) | (simp [*]; done)), H', ⟨by first | omega | exact Nat.le_refl _⟩, ⟨by (with_reducible repeat (first | refine zA7 ?_ _ | refine zA8 ?_ | refine zA6 ?_ _)); exact BK120.out⟩, ⟨by repeat (first | (with_reducible first | exact HB.out | apply zA2 | apply zA0 | apply zA3 | refine zA5 ?_ GE120.out) | exact HB.out)⟩⟩
  ·rw [if_neg c4] at H
   have c4b0 : decide (a0_0 < 0) = false := decide_eq_false c4
   clear c4
   (first | rw [c4b0] | (simp only [i64_w, i32_w]; rw [c4b0]) | skip)
   have H' := zA1.mk H
   clear H
   have hcz6_0 : w3.cell? ⟨gb120, 0, none⟩ = some (.int .i64 a0_0) := (zA9 BK120.out 0).trans rfl
   have hcz6_1 : w3.cell? ⟨gb120, 1, none⟩ = some (.slice A0_1 l0_1.length c0_1) := (zA9 BK120.out 1).trans rfl
   have hfz6_0 := zAd BK120.out 0
   have hfz6_1 := zAd BK120.out 1
   go_wp2
   go_meet
   case rel => exact ⟨_, (decide (a0_0 > 64)), (by first | rfl | (simp; done) | (simp [*]; done)), H', ⟨by first | omega | exact Nat.le_refl _⟩, ⟨by (with_reducible repeat (first | refine zA7 ?_ _ | refine zA8 ?_ | refine zA6 ?_ _)); exact BK120.out⟩, ⟨by repeat (first | (with_reducible first | exact HB.out | apply zA2 | apply zA0 | apply zA3 | refine zA5 ?_ GE120.out) | exact HB.out)⟩⟩
 case rest =>
  clear HC2
  try clear p2
  try clear c3
  try clear c4
  try clear c4b0
  try clear hcz5_0
  try clear hcz5_1
  try clear hcz6_0
  try clear hcz6_1
  try clear hfz5_0
  try clear hfz5_1
  try clear hfz6_0
  try clear hfz6_1
  obtain ⟨kq, x6_1, rfl, HA, HJ1, BK120, HB⟩ := hcut
  cases kq with
  | zero => exact absurd HA.out (by simp [zAu.j0])
  | succ kj1 =>
   have H := HA.out
   clear HA
   simp only [zAu.j0] at H
   by_cases c7 : x6_1 = true
   ·subst c7
    have H1 : (some 2) = some r := by rw [if_pos rfl] at H; exact H
    clear H
    have H := H1
    clear H1
    obtain rfl := Option.some.inj H
    go_wp2
    go_ret
    exact ⟨by first | rfl | (simp [zAp, zAo] <;> rfl) | (simp [*, zAp, zAo] <;> rfl), by repeat (first | (with_reducible first | exact HB.out | apply zA2 | apply zA0 | apply zA3 | refine zA5 ?_ GE120.out) | exact HB.out)⟩
   ·replace c7 := Bool.eq_false_iff.mpr c7
    subst c7
    have H1 : (if (l0_1.length : Int) > (wrap64 (a0_0 * a0_0)) then (some 6) else (zAu.l0 kj1 l0_1 (l0_1.length : Int) 0 a0_0 l0_1)) = some r := by rw [if_neg (show ¬ (false = true) by decide)] at H; exact H
    clear H
    have H := H1
    clear H1
    by_cases c8 : (l0_1.length : Int) > (wrap64 (a0_0 * a0_0))
    ·rw [if_pos c8] at H
     have c8b0 : decide ((wrap64 (a0_0 * a0_0)) < (l0_1.length : Int)) = true := decide_eq_true c8
     clear c8
     obtain rfl := Option.some.inj H
     have hcz9_0 : wc.cell? ⟨gb120, 0, none⟩ = some (.int .i64 a0_0) := (zA9 BK120.out 0).trans rfl
     have hcz9_1 : wc.cell? ⟨gb120, 1, none⟩ = some (.slice A0_1 l0_1.length c0_1) := (zA9 BK120.out 1).trans rfl
     have hfz9_0 := zAd BK120.out 0
     have hfz9_1 := zAd BK120.out 1
     go_wp2
     go_ret
     exact ⟨by first | rfl | (simp [zAp, zAo] <;> rfl) | (simp [*, zAp, zAo] <;> rfl), by repeat (first | (with_reducible first | exact HB.out | apply zA2 | apply zA0 | apply zA3 | refine zA5 ?_ GE120.out) | exact HB.out)⟩
    ·rw [if_neg c8] at H
     have c8b0 : decide ((wrap64 (a0_0 * a0_0)) < (l0_1.length : Int)) = false := decide_eq_false c8
     clear c8
     have H' := zA1.mk H
     clear H
     have hcz10_0 : wc.cell? ⟨gb120, 0, none⟩ = some (.int .i64 a0_0) := (zA9 BK120.out 0).trans rfl
     have hcz10_1 : wc.cell? ⟨gb120, 1, none⟩ = some (.slice A0_1 l0_1.length c0_1) := (zA9 BK120.out 1).trans rfl
     have hfz10_0 := zAd BK120.out 0
     have hfz10_1 := zAd BK120.out 1
     go_wp2
     go_loopg [28] kj1 (fun kq v28 w' => ∃ (x28_2 : Int), v28 = .int .i64 x28_2 ∧ zA1 (zAu.l0 kq l0_1 (l0_1.length : Int) x28_2 a0_0 l0_1 = some r) ∧ zA1 (kq ≤ kj1) ∧ zA1 (w'.heap[gb120]? = some (.cells #[.int .i64 a0_0, (.slice A0_1 l0_1.length c0_1)] 28 (0, 0))) ∧ zA1 (Below w.heap.size w w'))
     case atStart => exact ⟨(0), (by first | rfl | (simp; done) | (simp [*]; done)), H', ⟨Nat.le_refl _⟩, ⟨by (with_reducible repeat (first | refine zA7 ?_ _ | refine zA8 ?_ | refine zA6 ?_ _)); exact BK120.out⟩, ⟨by repeat (first | (with_reducible first | exact HB.out | apply zA2 | apply zA0 | apply zA3 | refine zA5 ?_ GE120.out) | exact HB.out)⟩⟩
     case round =>
      clear H'
      try clear p2
      try clear c3
      try clear c4
      try clear c4b0
      try clear p6
      try clear c7
      try clear c8
      try clear c8b0
      try clear hcz10_0
      try clear hcz10_1
      try clear hcz5_0
      try clear hcz5_1
      try clear hcz6_0
      try clear hcz6_1
      try clear hcz9_0
      try clear hcz9_1
      try clear hfz10_0
      try clear hfz10_1
      try clear hfz5_0
      try clear hfz5_1
      try clear hfz6_0
      try clear hfz6_1
      try clear hfz9_0
      try clear hfz9_1
      try clear p2
      obtain ⟨x28_2, rfl, HA, HK2, BK120, HB⟩ := hrel
      cases gk with
      | zero => exact absurd HA.out (by simp [zAu.l0])
      | succ k2 =>
       have H := HA.out
       clear HA
       simp only [zAu.l0] at H
       by_cases c11 : x28_2 < (l0_1.length : Int)
       ·rw [if_pos c11] at H
        have c11b0 : decide (x28_2 < (l0_1.length : Int)) = true := decide_eq_true c11
        clear c11
        by_cases c12 : 0 ≤ x28_2
        rotate_left
        ·rw [if_neg c12] at H
         exact absurd H (by simp)
        rw [if_pos c12] at H
        have c12b0 : decide (0 ≤ x28_2) = true := decide_eq_true c12
        clear c12
        by_cases c13 : x28_2 < (l0_1.length : Int)
        rotate_left
        ·rw [if_neg c13] at H
         exact absurd H (by simp)
        rw [if_pos c13] at H
        have c13b0 : decide (x28_2 < (l0_1.length : Int)) = true := decide_eq_true c13
        clear c13
        replace H := Option.bind_eq_some_iff.mp H
        obtain ⟨t123, A140, H⟩ := H
        replace H : (if t123 = true then (some 2) else ((zCa.f a0_0 ((zB2 l0_1 x28_2).f1)).bind fun t124 => (if t124 = true then (some 2) else (zAu.l0 k2 l0_1 (l0_1.length : Int) (wrap64 (x28_2 + 1)) a0_0 l0_1)))) = some r := H
        have A14 := zA1.mk A140
        clear A140
        by_cases c15 : t123 = true
        ·subst c15
         have H1 : (some 2) = some r := by rw [if_pos rfl] at H; exact H
         clear H
         have H := H1
         clear H1
         obtain rfl := Option.some.inj H
         have p121 : 0 ≤ (x28_2 : Int) := of_decide_eq_true (by first | (with_reducible assumption) | assumption)
         have q121 : x28_2 < (l0_1.length : Int) := of_decide_eq_true (by first | (with_reducible assumption) | assumption)
         obtain ⟨ad121, e121, hx121_0, hx121_1⟩ := at_T58 HR0_1.out x28_2 p121 q121
         cases e121
         replace hx121_0 := (HB.out.cell (World.block_lt_of_cell? w _ hx121_0)).trans hx121_0
         replace hx121_1 := (HB.out.cell (World.block_lt_of_cell? w _ hx121_1)).trans hx121_1
         replace p121 := eq_true p121
         replace q121 := eq_true q121
         go_wp2_with (first | ((with_reducible refine zBk (N := 4) rfl ?_); refine zBl ?hg (N := 4) ?hd (cs := #[.int .i64 0, .int .i64 0]) (t := 58) ?hr ?_; (case hd => rfl); (case hg => rfl); (case hr => first | (go_simp; done) | (go_simp; rfl)); intro gb122 hg w16 hbox hb; have n0_ := zA1.mk (zAq (g := gb120) (o := .cells #[.int .i64 a0_0, .slice (some ad121) l0_1.length c0_1] 28 (0, 0)) (by (with_reducible repeat (first | refine zA7 ?_ _ | refine zA8 ?_ | refine zA6 ?_ _)); exact BK120.out) hb); have n1_ := zA1.mk (zAg (by repeat (first | (with_reducible first | exact HB.out | apply zA2 | apply zA0 | apply zA3 | refine zA5 ?_ GE120.out) | exact HB.out)) hb); have n2_ := zA1.mk (hbox); have n3_ := zA1.mk ((by rw [hg]; exact (zAb (by repeat (first | (with_reducible first | exact HB.out | apply zA2 | apply zA0 | apply zA3 | refine zA5 ?_ GE120.out) | exact HB.out))) : w.heap.size ≤ gb122)); have n4_ := zA1.mk ((by rw [hg]; exact (zAb (by repeat (first | (with_reducible first | exact HB.out | apply zA2 | apply zA0 | apply zA3 | refine zA5 ?_ GE120.out) | exact HB.out))) : w.heap.size ≤ gb122)); have n5_ := zA1.mk ((by rw [hg]; exact Nat.ne_of_lt (zC7 (g := gb120) (o := .cells #[.int .i64 a0_0, .slice (some ad121) l0_1.length c0_1] 28 (0, 0)) (by (with_reducible repeat (first | refine zA7 ?_ _ | refine zA8 ?_ | refine zA6 ?_ _)); exact BK120.out)) : gb120 ≠ gb122)); have n6_ := zA1.mk ((by rw [hg]; exact Nat.ne_of_gt (zC7 (g := gb120) (o := .cells #[.int .i64 a0_0, .slice (some ad121) l0_1.length c0_1] 28 (0, 0)) (by (with_reducible repeat (first | refine zA7 ?_ _ | refine zA8 ?_ | refine zA6 ?_ _)); exact BK120.out)) : gb122 ≠ gb120)); clear BK120; clear HB; have BK120 := n0_; have HB := n1_; have BK122 := n2_; have GW122 := n3_; have GE122 := n4_; have NB120_122 := n5_; have NB122_120 := n6_; clear n0_ n1_ n2_ n3_ n4_ n5_ n6_; clear hb hbox hg; have hnb17 := NB122_120.out; have hnc17 := NB120_122.out; have hcz18_0 : w16.cell? ⟨gb122, 0, none⟩ = some (.int .i64 0) := (zA9 BK122.out 0).trans rfl; have hcz18_1 : w16.cell? ⟨gb122, 1, none⟩ = some (.int .i64 0) := (zA9 BK122.out 1).trans rfl; have hfz18_0 := zAd BK122.out 0; have hfz18_1 := zAd BK122.out 1; have hcz19_0 : w16.cell? ⟨gb120, 0, none⟩ = some (.int .i64 a0_0) := (zA9 BK120.out 0).trans rfl; have hcz19_1 : w16.cell? ⟨gb120, 1, none⟩ = some (.slice (some ad121) l0_1.length c0_1) := (zA9 BK120.out 1).trans rfl; have hfz19_0 := zAd BK120.out 0; have hfz19_1 := zAd BK120.out 1) | ((with_reducible refine zAy (f := 42) rfl ?_); refine zBz (some 36) rfl rfl Tryz.func42 (by kernel_rfl) rfl #[.int .i64 a0_0, .int .i64 ((zB2 l0_1 x28_2).f0)] rfl (by (try simp only [List.map_toArray, List.map_cons, List.map_nil]); first | done | rfl | (simp only [List.length_drop, List.length_take]; rfl)) ?_; (with_reducible refine (zCa.calls a0_0 ((zB2 l0_1 x28_2).f0) true _ A14.out).mono ?_); rintro e w' ⟨rfl, ⟨nd, rfl⟩⟩; refine ⟨_, rfl, ?_⟩))
         go_ret
         exact ⟨by first | rfl | (simp [zAp, zAo] <;> rfl) | (simp [*, zAp, zAo] <;> rfl), by repeat (first | (with_reducible first | exact HB.out | apply zA2 | apply zA0 | apply zA3 | refine zA5 ?_ GE120.out | refine zA5 ?_ GE122.out) | exact HB.out)⟩
        ·replace c15 := Bool.eq_false_iff.mpr c15
         subst c15
         have H1 : ((zCa.f a0_0 ((zB2 l0_1 x28_2).f1)).bind fun t124 => (if t124 = true then (some 2) else (zAu.l0 k2 l0_1 (l0_1.length : Int) (wrap64 (x28_2 + 1)) a0_0 l0_1))) = some r := by rw [if_neg (show ¬ (false = true) by decide)] at H; exact H
         clear H
         have H := H1
         clear H1
         replace H := Option.bind_eq_some_iff.mp H
         obtain ⟨t124, A200, H⟩ := H
         replace H : (if t124 = true then (some 2) else (zAu.l0 k2 l0_1 (l0_1.length : Int) (wrap64 (x28_2 + 1)) a0_0 l0_1)) = some r := H
         have A20 := zA1.mk A200
         clear A200
         by_cases c21 : t124 = true
         ·subst c21
          have H1 : (some 2) = some r := by rw [if_pos rfl] at H; exact H
          clear H
          have H := H1
          clear H1
          obtain rfl := Option.some.inj H
          have p121 : 0 ≤ (x28_2 : Int) := of_decide_eq_true (by first | (with_reducible assumption) | assumption)
          have q121 : x28_2 < (l0_1.length : Int) := of_decide_eq_true (by first | (with_reducible assumption) | assumption)
          obtain ⟨ad121, e121, hx121_0, hx121_1⟩ := at_T58 HR0_1.out x28_2 p121 q121
          cases e121
          replace hx121_0 := (HB.out.cell (World.block_lt_of_cell? w _ hx121_0)).trans hx121_0
          replace hx121_1 := (HB.out.cell (World.block_lt_of_cell? w _ hx121_1)).trans hx121_1
          replace p121 := eq_true p121
          replace q121 := eq_true q121
          go_wp2_with (first | ((with_reducible refine zBk (N := 4) rfl ?_); refine zBl ?hg (N := 4) ?hd (cs := #[.int .i64 0, .int .i64 0]) (t := 58) ?hr ?_; (case hd => rfl); (case hg => rfl); (case hr => first | (go_simp; done) | (go_simp; rfl)); intro gb122 hg w22 hbox hb; have n0_ := zA1.mk (zAq (g := gb120) (o := .cells #[.int .i64 a0_0, .slice (some ad121) l0_1.length c0_1] 28 (0, 0)) (by (with_reducible repeat (first | refine zA7 ?_ _ | refine zA8 ?_ | refine zA6 ?_ _)); exact BK120.out) hb); have n1_ := zA1.mk (zAg (by repeat (first | (with_reducible first | exact HB.out | apply zA2 | apply zA0 | apply zA3 | refine zA5 ?_ GE120.out) | exact HB.out)) hb); have n2_ := zA1.mk (hbox); have n3_ := zA1.mk ((by rw [hg]; exact (zAb (by repeat (first | (with_reducible first | exact HB.out | apply zA2 | apply zA0 | apply zA3 | refine zA5 ?_ GE120.out) | exact HB.out))) : w.heap.size ≤ gb122)); have n4_ := zA1.mk ((by rw [hg]; exact (zAb (by repeat (first | (with_reducible first | exact HB.out | apply zA2 | apply zA0 | apply zA3 | refine zA5 ?_ GE120.out) | exact HB.out))) : w.heap.size ≤ gb122)); have n5_ := zA1.mk ((by rw [hg]; exact Nat.ne_of_lt (zC7 (g := gb120) (o := .cells #[.int .i64 a0_0, .slice (some ad121) l0_1.length c0_1] 28 (0, 0)) (by (with_reducible repeat (first | refine zA7 ?_ _ | refine zA8 ?_ | refine zA6 ?_ _)); exact BK120.out)) : gb120 ≠ gb122)); have n6_ := zA1.mk ((by rw [hg]; exact Nat.ne_of_gt (zC7 (g := gb120) (o := .cells #[.int .i64 a0_0, .slice (some ad121) l0_1.length c0_1] 28 (0, 0)) (by (with_reducible repeat (first | refine zA7 ?_ _ | refine zA8 ?_ | refine zA6 ?_ _)); exact BK120.out)) : gb122 ≠ gb120)); clear BK120; clear HB; have BK120 := n0_; have HB := n1_; have BK122 := n2_; have GW122 := n3_; have GE122 := n4_; have NB120_122 := n5_; have NB122_120 := n6_; clear n0_ n1_ n2_ n3_ n4_ n5_ n6_; clear hb hbox hg; have hnb23 := NB122_120.out; have hnc23 := NB120_122.out; have hcz24_0 : w22.cell? ⟨gb122, 0, none⟩ = some (.int .i64 0) := (zA9 BK122.out 0).trans rfl; have hcz24_1 : w22.cell? ⟨gb122, 1, none⟩ = some (.int .i64 0) := (zA9 BK122.out 1).trans rfl; have hfz24_0 := zAd BK122.out 0; have hfz24_1 := zAd BK122.out 1; have hcz25_0 : w22.cell? ⟨gb120, 0, none⟩ = some (.int .i64 a0_0) := (zA9 BK120.out 0).trans rfl; have hcz25_1 : w22.cell? ⟨gb120, 1, none⟩ = some (.slice (some ad121) l0_1.length c0_1) := (zA9 BK120.out 1).trans rfl; have hfz25_0 := zAd BK120.out 0; have hfz25_1 := zAd BK120.out 1) | ((with_reducible refine zAy (f := 42) rfl ?_); refine zBz (some 36) rfl rfl Tryz.func42 (by kernel_rfl) rfl #[.int .i64 a0_0, .int .i64 ((zB2 l0_1 x28_2).f0)] rfl (by (try simp only [List.map_toArray, List.map_cons, List.map_nil]); first | done | rfl | (simp only [List.length_drop, List.length_take]; rfl)) ?_; (with_reducible refine (zCa.calls a0_0 ((zB2 l0_1 x28_2).f0) false _ A14.out).mono ?_); rintro e w' ⟨rfl, ⟨nd, rfl⟩⟩; refine ⟨_, rfl, ?_⟩) | (go_at_call 42; (with_reducible refine (zCa.calls a0_0 ((zB2 l0_1 x28_2).f1) true _ A20.out).mono ?_); rintro e w' ⟨rfl, ⟨nd, rfl⟩⟩))
          go_ret
          exact ⟨by first | rfl | (simp [zAp, zAo] <;> rfl) | (simp [*, zAp, zAo] <;> rfl), by repeat (first | (with_reducible first | exact HB.out | apply zA2 | apply zA0 | apply zA3 | refine zA5 ?_ GE120.out | refine zA5 ?_ GE122.out) | exact HB.out)⟩
         ·replace c21 := Bool.eq_false_iff.mpr c21
          subst c21
          have H1 : (zAu.l0 k2 l0_1 (l0_1.length : Int) (wrap64 (x28_2 + 1)) a0_0 l0_1) = some r := by rw [if_neg (show ¬ (false = true) by decide)] at H; exact H
          clear H
          have H := H1
          clear H1
          have H' := zA1.mk H
          clear H
          have p121 : 0 ≤ (x28_2 : Int) := of_decide_eq_true (by first | (with_reducible assumption) | assumption)
          have q121 : x28_2 < (l0_1.length : Int) := of_decide_eq_true (by first | (with_reducible assumption) | assumption)
          obtain ⟨ad121, e121, hx121_0, hx121_1⟩ := at_T58 HR0_1.out x28_2 p121 q121
          cases e121
          replace hx121_0 := (HB.out.cell (World.block_lt_of_cell? w _ hx121_0)).trans hx121_0
          replace hx121_1 := (HB.out.cell (World.block_lt_of_cell? w _ hx121_1)).trans hx121_1
          replace p121 := eq_true p121
          replace q121 := eq_true q121
          go_wp2_with (first | ((with_reducible refine zBk (N := 4) rfl ?_); refine zBl ?hg (N := 4) ?hd (cs := #[.int .i64 0, .int .i64 0]) (t := 58) ?hr ?_; (case hd => rfl); (case hg => rfl); (case hr => first | (go_simp; done) | (go_simp; rfl)); intro gb122 hg w26 hbox hb; have n0_ := zA1.mk (zAq (g := gb120) (o := .cells #[.int .i64 a0_0, .slice (some ad121) l0_1.length c0_1] 28 (0, 0)) (by (with_reducible repeat (first | refine zA7 ?_ _ | refine zA8 ?_ | refine zA6 ?_ _)); exact BK120.out) hb); have n1_ := zA1.mk (zAg (by repeat (first | (with_reducible first | exact HB.out | apply zA2 | apply zA0 | apply zA3 | refine zA5 ?_ GE120.out) | exact HB.out)) hb); have n2_ := zA1.mk (hbox); have n3_ := zA1.mk ((by rw [hg]; exact (zAb (by repeat (first | (with_reducible first | exact HB.out | apply zA2 | apply zA0 | apply zA3 | refine zA5 ?_ GE120.out) | exact HB.out))) : w.heap.size ≤ gb122)); have n4_ := zA1.mk ((by rw [hg]; exact (zAb (by repeat (first | (with_reducible first | exact HB.out | apply zA2 | apply zA0 | apply zA3 | refine zA5 ?_ GE120.out) | exact HB.out))) : w.heap.size ≤ gb122)); have n5_ := zA1.mk ((by rw [hg]; exact Nat.ne_of_lt (zC7 (g := gb120) (o := .cells #[.int .i64 a0_0, .slice (some ad121) l0_1.length c0_1] 28 (0, 0)) (by (with_reducible repeat (first | refine zA7 ?_ _ | refine zA8 ?_ | refine zA6 ?_ _)); exact BK120.out)) : gb120 ≠ gb122)); have n6_ := zA1.mk ((by rw [hg]; exact Nat.ne_of_gt (zC7 (g := gb120) (o := .cells #[.int .i64 a0_0, .slice (some ad121) l0_1.length c0_1] 28 (0, 0)) (by (with_reducible repeat (first | refine zA7 ?_ _ | refine zA8 ?_ | refine zA6 ?_ _)); exact BK120.out)) : gb122 ≠ gb120)); clear BK120; clear HB; have BK120 := n0_; have HB := n1_; have BK122 := n2_; have GW122 := n3_; have GE122 := n4_; have NB120_122 := n5_; have NB122_120 := n6_; clear n0_ n1_ n2_ n3_ n4_ n5_ n6_; clear hb hbox hg; have hnb27 := NB122_120.out; have hnc27 := NB120_122.out; have hcz28_0 : w26.cell? ⟨gb122, 0, none⟩ = some (.int .i64 0) := (zA9 BK122.out 0).trans rfl; have hcz28_1 : w26.cell? ⟨gb122, 1, none⟩ = some (.int .i64 0) := (zA9 BK122.out 1).trans rfl; have hfz28_0 := zAd BK122.out 0; have hfz28_1 := zAd BK122.out 1; have hcz29_0 : w26.cell? ⟨gb120, 0, none⟩ = some (.int .i64 a0_0) := (zA9 BK120.out 0).trans rfl; have hcz29_1 : w26.cell? ⟨gb120, 1, none⟩ = some (.slice (some ad121) l0_1.length c0_1) := (zA9 BK120.out 1).trans rfl; have hfz29_0 := zAd BK120.out 0; have hfz29_1 := zAd BK120.out 1) | ((with_reducible refine zAy (f := 42) rfl ?_); refine zBz (some 36) rfl rfl Tryz.func42 (by kernel_rfl) rfl #[.int .i64 a0_0, .int .i64 ((zB2 l0_1 x28_2).f0)] rfl (by (try simp only [List.map_toArray, List.map_cons, List.map_nil]); first | done | rfl | (simp only [List.length_drop, List.length_take]; rfl)) ?_; (with_reducible refine (zCa.calls a0_0 ((zB2 l0_1 x28_2).f0) false _ A14.out).mono ?_); rintro e w' ⟨rfl, ⟨nd, rfl⟩⟩; refine ⟨_, rfl, ?_⟩) | (go_at_call 42; (with_reducible refine (zCa.calls a0_0 ((zB2 l0_1 x28_2).f1) false _ A20.out).mono ?_); rintro e w' ⟨rfl, ⟨nd, rfl⟩⟩))
          go_roundg k2
          case measure => have := HJ1.out; have := HK2.out; omega
          case rel => exact ⟨(wrap64 (x28_2 + 1)), (by first | rfl | (simp; done) | (simp [*]; done)), H', ⟨by have := HJ1.out; have := HK2.out; omega⟩, ⟨by (with_reducible repeat (first | refine zA7 ?_ _ | refine zA8 ?_ | refine zA6 ?_ _)); refine blk_far ?_ NB120_122.out _; (with_reducible repeat (first | refine zA7 ?_ _ | refine zA8 ?_ | refine zA6 ?_ _)); refine blk_far ?_ NB120_122.out _; (with_reducible repeat (first | refine zA7 ?_ _ | refine zA8 ?_ | refine zA6 ?_ _)); exact BK120.out⟩, ⟨by repeat (first | (with_reducible first | exact HB.out | apply zA2 | apply zA0 | apply zA3 | refine zA5 ?_ GE120.out | refine zA5 ?_ GE122.out) | exact HB.out)⟩⟩
       ·rw [if_neg c11] at H
        have c11b0 : decide (x28_2 < (l0_1.length : Int)) = false := decide_eq_false c11
        clear c11
        have H' := zA1.mk H
        clear H
        go_wp2
        go_loopg [5] k2 (fun kq v5 w' => ∃ (x5_3 : Int), v5 = .int .i64 x5_3 ∧ zA1 (zAu.l1 kq x5_3 a0_0 l0_1 = some r) ∧ zA1 (kq ≤ k2) ∧ zA1 (w'.heap[gb120]? = some (.cells #[.int .i64 a0_0, (.slice A0_1 l0_1.length c0_1)] 28 (0, 0))) ∧ zA1 (Below w.heap.size w w'))
        case atStart => exact ⟨(1), (by first | rfl | (simp; done) | (simp [*]; done)), H', ⟨Nat.le_refl _⟩, ⟨by (with_reducible repeat (first | refine zA7 ?_ _ | refine zA8 ?_ | refine zA6 ?_ _)); exact BK120.out⟩, ⟨by repeat (first | (with_reducible first | exact HB.out | apply zA2 | apply zA0 | apply zA3 | refine zA5 ?_ GE120.out) | exact HB.out)⟩⟩
        case round =>
         clear H'
         try clear c1
         try clear p1
         try clear q1
         try clear hx1
         try clear c2
         try clear p2
         try clear c3
         try clear c4
         try clear c4b0
         try clear p6
         try clear c7
         try clear c8
         try clear c8b0
         try clear c11
         try clear c11b0
         try clear c12
         try clear c12b0
         try clear p12
         try clear q12
         try clear hx12
         try clear c13
         try clear c13b0
         try clear c15
         try clear c17
         try clear c21
         try clear c23
         try clear c27
         try clear hcz10_0
         try clear hcz10_1
         try clear hcz18_0
         try clear hcz18_1
         try clear hcz19_0
         try clear hcz19_1
         try clear hcz24_0
         try clear hcz24_1
         try clear hcz25_0
         try clear hcz25_1
         try clear hcz28_0
         try clear hcz28_1
         try clear hcz29_0
         try clear hcz29_1
         try clear hcz5_0
         try clear hcz5_1
         try clear hcz6_0
         try clear hcz6_1
         try clear hcz9_0
         try clear hcz9_1
         try clear hfz10_0
         try clear hfz10_1
         try clear hfz18_0
         try clear hfz18_1
         try clear hfz19_0
         try clear hfz19_1
         try clear hfz24_0
         try clear hfz24_1
         try clear hfz25_0
         try clear hfz25_1
         try clear hfz28_0
         try clear hfz28_1
         try clear hfz29_0
         try clear hfz29_1
         try clear hfz5_0
         try clear hfz5_1
         try clear hfz6_0
         try clear hfz6_1
         try clear hfz9_0
         try clear hfz9_1
         try clear hx121_0
         try clear hx121_1
         try clear p121
         try clear p2
         try clear p6
         try clear q121
         obtain ⟨x5_3, rfl, HA, HK3, BK120, HB⟩ := hrel
         cases gk with
         | zero => exact absurd HA.out (by simp [zAu.l1])
         | succ k3 =>
          have H := HA.out
          clear HA
          simp only [zAu.l1] at H
          by_cases c30 : x5_3 < (l0_1.length : Int)
          ·rw [if_pos c30] at H
           have c30b0 : decide (x5_3 < (l0_1.length : Int)) = true := decide_eq_true c30
           clear c30
           obtain ⟨ji31, hji31⟩ : ∃ j_ : Int, (wrap64 (x5_3 - 1)) = j_ := ⟨_, rfl⟩
           replace H : (if 0 ≤ (ji31) then (if (ji31) < (l0_1.length : Int) then (if 0 ≤ x5_3 then ((zBx.f k3 ((zB2 l0_1 (ji31)).f0) ((zB2 l0_1 (ji31)).f1) ((zB2 l0_1 x5_3).f0) ((zB2 l0_1 x5_3).f1)).bind fun t127 => (if t127 ≥ 0 then (some 8) else (zAu.l1 k3 (wrap64 (x5_3 + 1)) a0_0 l0_1))) else (none)) else (none)) else (none)) = some r := by first | (rw [hji31] at H; exact H) | (simp only [hji31] at H ⊢; exact H)
           have hji31w : (IntKind.i64.wrap (x5_3 - 1)) = ji31 := (i64_w _).trans hji31
           by_cases c32 : 0 ≤ (ji31)
           rotate_left
           ·rw [if_neg c32] at H
            exact absurd H (by simp)
           rw [if_pos c32] at H
           have c32b0 : decide (0 ≤ (ji31)) = true := decide_eq_true c32
           clear c32
           by_cases c33 : (ji31) < (l0_1.length : Int)
           rotate_left
           ·rw [if_neg c33] at H
            exact absurd H (by simp)
           rw [if_pos c33] at H
           have c33b0 : decide ((ji31) < (l0_1.length : Int)) = true := decide_eq_true c33
           clear c33
           by_cases c34 : 0 ≤ x5_3
           rotate_left
           ·rw [if_neg c34] at H
            exact absurd H (by simp)
           rw [if_pos c34] at H
           have c34b0 : decide (0 ≤ x5_3) = true := decide_eq_true c34
           clear c34
           replace H := Option.bind_eq_some_iff.mp H
           obtain ⟨t127, A350, H⟩ := H
           replace H : (if t127 ≥ 0 then (some 8) else (zAu.l1 k3 (wrap64 (x5_3 + 1)) a0_0 l0_1)) = some r := H
           have A35 := zA1.mk A350
           clear A350
           by_cases c36 : t127 ≥ 0
           ·rw [if_pos c36] at H
            have c36b0 : decide (0 ≤ t127) = true := decide_eq_true c36
            clear c36
            obtain rfl := Option.some.inj H
            have hcz37_0 : wr.cell? ⟨gb120, 0, none⟩ = some (.int .i64 a0_0) := (zA9 BK120.out 0).trans rfl
            have hcz37_1 : wr.cell? ⟨gb120, 1, none⟩ = some (.slice A0_1 l0_1.length c0_1) := (zA9 BK120.out 1).trans rfl
            have hfz37_0 := zAd BK120.out 0
            have hfz37_1 := zAd BK120.out 1
            try go_wp2
            have n0_ := zA1.mk (zA8 BK120.out)
            have n1_ := zA1.mk (zA3 HB.out)
            clear BK120
            clear HB
            have BK120 := n0_
            have HB := n1_
            clear n0_ n1_
            have p125 : 0 ≤ ((ji31) : Int) := of_decide_eq_true (by first | (with_reducible assumption) | assumption)
            have q125 : (ji31) < (l0_1.length : Int) := of_decide_eq_true (by first | (with_reducible assumption) | assumption)
            obtain ⟨ad125, e125, hx125_0, hx125_1⟩ := at_T58 HR0_1.out (ji31) p125 q125
            have hw125_1 := hx125_1
            have hw125_0 := hx125_0
            cases e125
            replace hx125_0 := (HB.out.cell (World.block_lt_of_cell? w _ hx125_0)).trans hx125_0
            replace hx125_1 := (HB.out.cell (World.block_lt_of_cell? w _ hx125_1)).trans hx125_1
            replace p125 := eq_true p125
            replace q125 := eq_true q125
            have p126 : 0 ≤ (x5_3 : Int) := of_decide_eq_true (by first | (with_reducible assumption) | assumption)
            have q126 : x5_3 < (l0_1.length : Int) := of_decide_eq_true (by first | (with_reducible assumption) | assumption)
            obtain ⟨ad126, e126, hx126_0, hx126_1⟩ := at_T58 HR0_1.out x5_3 p126 q126
            have hw126_1 := hx126_1
            have hw126_0 := hx126_0
            obtain rfl : ad125 = ad126 := (by injection e126)
            replace hx126_0 := (HB.out.cell (World.block_lt_of_cell? w _ hx126_0)).trans hx126_0
            replace hx126_1 := (HB.out.cell (World.block_lt_of_cell? w _ hx126_1)).trans hx126_1
            replace p126 := eq_true p126
            replace q126 := eq_true q126
            refine start_ (n := 13) (S := fun w' => w'.cell? ⟨gb120, 0, none⟩ = some (.int .i64 a0_0) ∧ w'.cell? ⟨gb120, 1, none⟩ = some (.slice (some ad125) l0_1.length c0_1) ∧ w'.cell? (ad125.add (((ji31)).toNat * 2)) = some (.int .i64 ((zB2 l0_1 (ji31)).f0)) ∧ w'.cell? ⟨(ad125.add (((ji31)).toNat * 2)).block, (ad125.add (((ji31)).toNat * 2)).off + 1, none⟩ = some (.int .i64 ((zB2 l0_1 (ji31)).f1)) ∧ w'.cell? (ad125.add ((x5_3).toNat * 2)) = some (.int .i64 ((zB2 l0_1 x5_3).f0)) ∧ w'.cell? ⟨(ad125.add ((x5_3).toNat * 2)).block, (ad125.add ((x5_3).toNat * 2)).off + 1, none⟩ = some (.int .i64 ((zB2 l0_1 x5_3).f1))) (ds := []) #[false, false, false, false, false, false, false, false, false, false, false, false, false] (by kernel_rfl) rfl rfl ⟨(zA9 BK120.out 0).trans rfl, (zA9 BK120.out 1).trans rfl, ((HB.out.cell (World.block_lt_of_cell? w _ hw125_0)).trans hw125_0), ((HB.out.cell (World.block_lt_of_cell? w _ hw125_1)).trans hw125_1), ((HB.out.cell (World.block_lt_of_cell? w _ hw126_0)).trans hw126_0), ((HB.out.cell (World.block_lt_of_cell? w _ hw126_1)).trans hw126_1)⟩ (fun hHeld => ?_); refine with_tabW zAu.tab14 zAu.bits14 (fun HT_ HW_ => ?_)
            generalize wr.drew = w38 at BK120 HB hx125_0 hx125_1 hx126_0 hx126_1 hHeld ⊢
            refine pure_ (i := 0) (N := some 52) (v := ?_) (a' := ?_) #[true, false, false, false, false, false, false, false, false, false, false, false, false] rfl rfl (zBf HT_.out (by kernel_rfl)) (fun _ _ _ h => h) (Or.inl ⟨by rfl, ?_⟩) ?_ ?_
            rotate_left
            ·intro w'
             go_simp
             with_reducible rfl
            rotate_left
            ·simp only [Act.put, List.setIfInBounds_toArray, List.set_cons_zero, List.set_cons_succ, i64_w, i32_w]
             rfl
            refine pure_ (i := 2) (N := some 54) (v := ?_) (a' := ?_) #[true, false, true, false, false, false, false, false, false, false, false, false, false] rfl rfl (zBf HT_.out (by kernel_rfl)) (fun _ _ _ h => h) (Or.inl ⟨by rfl, ?_⟩) ?_ ?_
            rotate_left
            ·intro w'
             go_simp
             with_reducible rfl
            rotate_left
            ·simp only [Act.put, List.setIfInBounds_toArray, List.set_cons_zero, List.set_cons_succ, i64_w, i32_w]
             rfl
            refine pure_ (i := 3) (N := some 55) (v := ?_) (a' := ?_) #[true, false, true, true, false, false, false, false, false, false, false, false, false] rfl rfl (zBf HT_.out (by kernel_rfl)) (fun _ _ _ h => h) (Or.inl ⟨by rfl, ?_⟩) ?_ ?_
            rotate_left
            ·intro w'
             go_simp
             with_reducible rfl
            rotate_left
            ·simp only [Act.put, List.setIfInBounds_toArray, List.set_cons_zero, List.set_cons_succ, i64_w, i32_w]
             rfl
            refine pure_ (i := 6) (N := some 58) (v := ?_) (a' := ?_) #[true, false, true, true, false, false, true, false, false, false, false, false, false] rfl rfl (zBf HT_.out (by kernel_rfl)) (fun _ _ _ h => h) (Or.inl ⟨by rfl, ?_⟩) ?_ ?_
            rotate_left
            ·intro w'
             go_simp
             with_reducible rfl
            rotate_left
            ·simp only [Act.put, List.setIfInBounds_toArray, List.set_cons_zero, List.set_cons_succ, i64_w, i32_w]
             rfl
            refine pure_ (i := 8) (N := some 60) (v := ?_) (a' := ?_) #[true, false, true, true, false, false, true, false, true, false, false, false, false] rfl rfl (zBf HT_.out (by kernel_rfl)) (fun _ _ _ h => h) (Or.inl ⟨by rfl, ?_⟩) ?_ ?_
            rotate_left
            ·intro w'
             go_simp
             with_reducible rfl
            rotate_left
            ·simp only [Act.put, List.setIfInBounds_toArray, List.set_cons_zero, List.set_cons_succ, i64_w, i32_w]
             rfl
            refine take_ (i := 1) (N := some 53) (v := ?_) (a' := ?_) #[true, true, true, true, false, false, true, false, true, false, false, false, false] rfl rfl (zC1 HT_.out HW_.out (by kernel_rfl)) (fun _ _ _ h => h) (Or.inl ⟨by rfl, ?_⟩) hHeld ?_ ?_
            rotate_left
            ·rintro w' ⟨s0, s1, s2, s3, s4, s5⟩
             go_simp
             with_reducible rfl
            rotate_left
            ·simp only [Act.put, List.setIfInBounds_toArray, List.set_cons_zero, List.set_cons_succ, i64_w, i32_w]
             rfl
            refine pure_ (i := 4) (N := some 56) (v := ?_) (a' := ?_) #[true, true, true, true, true, false, true, false, true, false, false, false, false] rfl rfl (zBf HT_.out (by kernel_rfl)) (fun _ _ _ h => h) (Or.inl ⟨by rfl, ?_⟩) ?_ ?_
            rotate_left
            ·intro w'
             go_simp
             with_reducible rfl
            rotate_left
            ·simp only [Act.put, List.setIfInBounds_toArray, List.set_cons_zero, List.set_cons_succ, i64_w, i32_w]
             rfl
            refine take_ (i := 5) (N := some 57) (v := ?_) (a' := ?_) #[true, true, true, true, true, true, true, false, true, false, false, false, false] rfl rfl (zC1 HT_.out HW_.out (by kernel_rfl)) (fun _ _ _ h => h) (Or.inl ⟨by rfl, ?_⟩) hHeld ?_ ?_
            rotate_left
            ·rintro w' ⟨s0, s1, s2, s3, s4, s5⟩
             go_simp
             with_reducible rfl
            rotate_left
            ·simp only [Act.put, List.setIfInBounds_toArray, List.set_cons_zero, List.set_cons_succ, i64_w, i32_w]
             rfl
            refine take_ (i := 7) (N := some 59) (v := ?_) (a' := ?_) #[true, true, true, true, true, true, true, true, true, false, false, false, false] rfl rfl (zC1 HT_.out HW_.out (by kernel_rfl)) (fun _ _ _ h => h) (Or.inl ⟨by rfl, ?_⟩) hHeld ?_ ?_
            rotate_left
            ·rintro w' ⟨s0, s1, s2, s3, s4, s5⟩
             go_simp
             with_reducible rfl
            rotate_left
            ·simp only [Act.put, List.setIfInBounds_toArray, List.set_cons_zero, List.set_cons_succ, i64_w, i32_w]
             rfl
            refine pure_ (i := 9) (N := some 61) (v := ?_) (a' := ?_) #[true, true, true, true, true, true, true, true, true, true, false, false, false] rfl rfl (zBf HT_.out (by kernel_rfl)) (fun _ _ _ h => h) (Or.inl ⟨by rfl, ?_⟩) ?_ ?_
            rotate_left
            ·intro w'
             go_simp
             with_reducible rfl
            rotate_left
            ·simp only [Act.put, List.setIfInBounds_toArray, List.set_cons_zero, List.set_cons_succ, i64_w, i32_w]
             rfl
            refine take_ (i := 10) (N := some 62) (v := ?_) (a' := ?_) #[true, true, true, true, true, true, true, true, true, true, true, false, false] rfl rfl (zC1 HT_.out HW_.out (by kernel_rfl)) (fun _ _ _ h => h) (Or.inl ⟨by rfl, ?_⟩) hHeld ?_ ?_
            rotate_left
            ·rintro w' ⟨s0, s1, s2, s3, s4, s5⟩
             go_simp
             with_reducible rfl
            rotate_left
            ·simp only [Act.put, List.setIfInBounds_toArray, List.set_cons_zero, List.set_cons_succ, i64_w, i32_w]
             rfl
            refine one_ (i := 11) (N := some 63) #[true, true, true, true, true, true, true, true, true, true, true, true, false] rfl rfl (one_of HT_.out (by kernel_rfl)) (by decide) (fun K hK => ?_)
            refine goes_ Tryz.func45 (by kernel_rfl) rfl #[.agg #[.int .i64 ((zB2 l0_1 (ji31)).f0), .int .i64 ((zB2 l0_1 (ji31)).f1)], .agg #[.int .i64 ((zB2 l0_1 x5_3).f0), .int .i64 ((zB2 l0_1 x5_3).f1)]] (by rfl) rfl rfl (by (try simp only [List.map_toArray, List.map_cons, List.map_nil]); first | done | (simp only [hji31]; rfl) | rfl | (simp only [List.length_drop, List.length_take]; rfl)) ?_
            with_reducible refine (zBx.calls k3 ((zB2 l0_1 (ji31)).f0) ((zB2 l0_1 (ji31)).f1) ((zB2 l0_1 x5_3).f0) ((zB2 l0_1 x5_3).f1) t127 _ A35.out).mono ?_
            rintro e w39 ⟨rfl, hb⟩
            refine ⟨_, rfl, ?_⟩
            have n0_ := zA1.mk (zAq (g := gb120) (o := .cells #[.int .i64 a0_0, .slice (some ad125) l0_1.length c0_1] 28 (0, 0)) (by (with_reducible repeat (first | refine zA7 ?_ _ | refine zA8 ?_ | refine zA6 ?_ _)); exact BK120.out) hb)
            have n1_ := zA1.mk (zAg (by repeat (first | (with_reducible first | exact HB.out | apply zA2 | apply zA0 | apply zA3 | refine zA5 ?_ GE120.out) | exact HB.out)) hb)
            clear BK120
            clear HB
            have BK120 := n0_
            have HB := n1_
            clear n0_ n1_
            (try clear hb)
            (try clear hb2)
            (try clear hk)
            (try clear hi)
            refine hK.out _ _ ⟨(zA9 BK120.out 0).trans rfl, (zA9 BK120.out 1).trans rfl, ((HB.out.cell (World.block_lt_of_cell? w _ hw125_0)).trans hw125_0), ((HB.out.cell (World.block_lt_of_cell? w _ hw125_1)).trans hw125_1), ((HB.out.cell (World.block_lt_of_cell? w _ hw126_0)).trans hw126_0), ((HB.out.cell (World.block_lt_of_cell? w _ hw126_1)).trans hw126_1)⟩ (fun hHeld => ?_)
            clear hK K
            refine norm_ (a' := ?_) ?_ ?_
            rotate_left
            ·show Act.put _ (some 63) _ = _
             simp only [Act.put, List.setIfInBounds_toArray, List.set_cons_zero, List.set_cons_succ, i64_w, i32_w]
             rfl
            refine pure_ (i := 12) (N := some 64) (v := ?_) (a' := ?_) #[true, true, true, true, true, true, true, true, true, true, true, true, true] rfl rfl (zBf HT_.out (by kernel_rfl)) (fun _ _ _ h => h) (Or.inl ⟨by rfl, ?_⟩) ?_ ?_
            rotate_left
            ·intro w'
             go_simp
             with_reducible rfl
            rotate_left
            ·simp only [Act.put, List.setIfInBounds_toArray, List.set_cons_zero, List.set_cons_succ, i64_w, i32_w]
             rfl
            refine done_ (done_of HT_.out (by kernel_rfl)) ?_
            try go_wp2
            go_ret
            exact ⟨by first | rfl | (simp [zAp, zAo] <;> rfl) | (simp only [← hji31]; first | rfl | (simp [zAp, zAo] <;> rfl)) | (simp [*, zAp, zAo] <;> rfl), by repeat (first | (with_reducible first | exact HB.out | apply zA2 | apply zA0 | apply zA3 | refine zA5 ?_ GE120.out) | exact HB.out)⟩
           ·rw [if_neg c36] at H
            have c36b0 : decide (0 ≤ t127) = false := decide_eq_false c36
            clear c36
            have H' := zA1.mk H
            clear H
            have hcz40_0 : wr.cell? ⟨gb120, 0, none⟩ = some (.int .i64 a0_0) := (zA9 BK120.out 0).trans rfl
            have hcz40_1 : wr.cell? ⟨gb120, 1, none⟩ = some (.slice A0_1 l0_1.length c0_1) := (zA9 BK120.out 1).trans rfl
            have hfz40_0 := zAd BK120.out 0
            have hfz40_1 := zAd BK120.out 1
            try go_wp2
            have n0_ := zA1.mk (zA8 BK120.out)
            have n1_ := zA1.mk (zA3 HB.out)
            clear BK120
            clear HB
            have BK120 := n0_
            have HB := n1_
            clear n0_ n1_
            have p125 : 0 ≤ ((ji31) : Int) := of_decide_eq_true (by first | (with_reducible assumption) | assumption)
            have q125 : (ji31) < (l0_1.length : Int) := of_decide_eq_true (by first | (with_reducible assumption) | assumption)
            obtain ⟨ad125, e125, hx125_0, hx125_1⟩ := at_T58 HR0_1.out (ji31) p125 q125
            have hw125_1 := hx125_1
            have hw125_0 := hx125_0
            cases e125
            replace hx125_0 := (HB.out.cell (World.block_lt_of_cell? w _ hx125_0)).trans hx125_0
            replace hx125_1 := (HB.out.cell (World.block_lt_of_cell? w _ hx125_1)).trans hx125_1
            replace p125 := eq_true p125
            replace q125 := eq_true q125
            have p126 : 0 ≤ (x5_3 : Int) := of_decide_eq_true (by first | (with_reducible assumption) | assumption)
            have q126 : x5_3 < (l0_1.length : Int) := of_decide_eq_true (by first | (with_reducible assumption) | assumption)
            obtain ⟨ad126, e126, hx126_0, hx126_1⟩ := at_T58 HR0_1.out x5_3 p126 q126
            have hw126_1 := hx126_1
            have hw126_0 := hx126_0
            obtain rfl : ad125 = ad126 := (by injection e126)
            replace hx126_0 := (HB.out.cell (World.block_lt_of_cell? w _ hx126_0)).trans hx126_0
            replace hx126_1 := (HB.out.cell (World.block_lt_of_cell? w _ hx126_1)).trans hx126_1
            replace p126 := eq_true p126
            replace q126 := eq_true q126
            refine start_ (n := 13) (S := fun w' => w'.cell? ⟨gb120, 0, none⟩ = some (.int .i64 a0_0) ∧ w'.cell? ⟨gb120, 1, none⟩ = some (.slice (some ad125) l0_1.length c0_1) ∧ w'.cell? (ad125.add (((ji31)).toNat * 2)) = some (.int .i64 ((zB2 l0_1 (ji31)).f0)) ∧ w'.cell? ⟨(ad125.add (((ji31)).toNat * 2)).block, (ad125.add (((ji31)).toNat * 2)).off + 1, none⟩ = some (.int .i64 ((zB2 l0_1 (ji31)).f1)) ∧ w'.cell? (ad125.add ((x5_3).toNat * 2)) = some (.int .i64 ((zB2 l0_1 x5_3).f0)) ∧ w'.cell? ⟨(ad125.add ((x5_3).toNat * 2)).block, (ad125.add ((x5_3).toNat * 2)).off + 1, none⟩ = some (.int .i64 ((zB2 l0_1 x5_3).f1))) (ds := []) #[false, false, false, false, false, false, false, false, false, false, false, false, false] (by kernel_rfl) rfl rfl ⟨(zA9 BK120.out 0).trans rfl, (zA9 BK120.out 1).trans rfl, ((HB.out.cell (World.block_lt_of_cell? w _ hw125_0)).trans hw125_0), ((HB.out.cell (World.block_lt_of_cell? w _ hw125_1)).trans hw125_1), ((HB.out.cell (World.block_lt_of_cell? w _ hw126_0)).trans hw126_0), ((HB.out.cell (World.block_lt_of_cell? w _ hw126_1)).trans hw126_1)⟩ (fun hHeld => ?_); refine with_tabW zAu.tab14 zAu.bits14 (fun HT_ HW_ => ?_)
            generalize wr.drew = w41 at BK120 HB hx125_0 hx125_1 hx126_0 hx126_1 hHeld ⊢
            refine pure_ (i := 0) (N := some 52) (v := ?_) (a' := ?_) #[true, false, false, false, false, false, false, false, false, false, false, false, false] rfl rfl (zBf HT_.out (by kernel_rfl)) (fun _ _ _ h => h) (Or.inl ⟨by rfl, ?_⟩) ?_ ?_
            rotate_left
            ·intro w'
             go_simp
             with_reducible rfl
            rotate_left
            ·simp only [Act.put, List.setIfInBounds_toArray, List.set_cons_zero, List.set_cons_succ, i64_w, i32_w]
             rfl
            refine pure_ (i := 2) (N := some 54) (v := ?_) (a' := ?_) #[true, false, true, false, false, false, false, false, false, false, false, false, false] rfl rfl (zBf HT_.out (by kernel_rfl)) (fun _ _ _ h => h) (Or.inl ⟨by rfl, ?_⟩) ?_ ?_
            rotate_left
            ·intro w'
             go_simp
             with_reducible rfl
            rotate_left
            ·simp only [Act.put, List.setIfInBounds_toArray, List.set_cons_zero, List.set_cons_succ, i64_w, i32_w]
             rfl
            refine pure_ (i := 3) (N := some 55) (v := ?_) (a' := ?_) #[true, false, true, true, false, false, false, false, false, false, false, false, false] rfl rfl (zBf HT_.out (by kernel_rfl)) (fun _ _ _ h => h) (Or.inl ⟨by rfl, ?_⟩) ?_ ?_
            rotate_left
            ·intro w'
             go_simp
             with_reducible rfl
            rotate_left
            ·simp only [Act.put, List.setIfInBounds_toArray, List.set_cons_zero, List.set_cons_succ, i64_w, i32_w]
             rfl
            refine pure_ (i := 6) (N := some 58) (v := ?_) (a' := ?_) #[true, false, true, true, false, false, true, false, false, false, false, false, false] rfl rfl (zBf HT_.out (by kernel_rfl)) (fun _ _ _ h => h) (Or.inl ⟨by rfl, ?_⟩) ?_ ?_
            rotate_left
            ·intro w'
             go_simp
             with_reducible rfl
            rotate_left
            ·simp only [Act.put, List.setIfInBounds_toArray, List.set_cons_zero, List.set_cons_succ, i64_w, i32_w]
             rfl
            refine pure_ (i := 8) (N := some 60) (v := ?_) (a' := ?_) #[true, false, true, true, false, false, true, false, true, false, false, false, false] rfl rfl (zBf HT_.out (by kernel_rfl)) (fun _ _ _ h => h) (Or.inl ⟨by rfl, ?_⟩) ?_ ?_
            rotate_left
            ·intro w'
             go_simp
             with_reducible rfl
            rotate_left
            ·simp only [Act.put, List.setIfInBounds_toArray, List.set_cons_zero, List.set_cons_succ, i64_w, i32_w]
             rfl
            refine take_ (i := 1) (N := some 53) (v := ?_) (a' := ?_) #[true, true, true, true, false, false, true, false, true, false, false, false, false] rfl rfl (zC1 HT_.out HW_.out (by kernel_rfl)) (fun _ _ _ h => h) (Or.inl ⟨by rfl, ?_⟩) hHeld ?_ ?_
            rotate_left
            ·rintro w' ⟨s0, s1, s2, s3, s4, s5⟩
             go_simp
             with_reducible rfl
            rotate_left
            ·simp only [Act.put, List.setIfInBounds_toArray, List.set_cons_zero, List.set_cons_succ, i64_w, i32_w]
             rfl
            refine pure_ (i := 4) (N := some 56) (v := ?_) (a' := ?_) #[true, true, true, true, true, false, true, false, true, false, false, false, false] rfl rfl (zBf HT_.out (by kernel_rfl)) (fun _ _ _ h => h) (Or.inl ⟨by rfl, ?_⟩) ?_ ?_
            rotate_left
            ·intro w'
             go_simp
             with_reducible rfl
            rotate_left
            ·simp only [Act.put, List.setIfInBounds_toArray, List.set_cons_zero, List.set_cons_succ, i64_w, i32_w]
             rfl
            refine take_ (i := 5) (N := some 57) (v := ?_) (a' := ?_) #[true, true, true, true, true, true, true, false, true, false, false, false, false] rfl rfl (zC1 HT_.out HW_.out (by kernel_rfl)) (fun _ _ _ h => h) (Or.inl ⟨by rfl, ?_⟩) hHeld ?_ ?_
            rotate_left
            ·rintro w' ⟨s0, s1, s2, s3, s4, s5⟩
             go_simp
             with_reducible rfl
            rotate_left
            ·simp only [Act.put, List.setIfInBounds_toArray, List.set_cons_zero, List.set_cons_succ, i64_w, i32_w]
             rfl
            refine take_ (i := 7) (N := some 59) (v := ?_) (a' := ?_) #[true, true, true, true, true, true, true, true, true, false, false, false, false] rfl rfl (zC1 HT_.out HW_.out (by kernel_rfl)) (fun _ _ _ h => h) (Or.inl ⟨by rfl, ?_⟩) hHeld ?_ ?_
            rotate_left
            ·rintro w' ⟨s0, s1, s2, s3, s4, s5⟩
             go_simp
             with_reducible rfl
            rotate_left
            ·simp only [Act.put, List.setIfInBounds_toArray, List.set_cons_zero, List.set_cons_succ, i64_w, i32_w]
             rfl
            refine pure_ (i := 9) (N := some 61) (v := ?_) (a' := ?_) #[true, true, true, true, true, true, true, true, true, true, false, false, false] rfl rfl (zBf HT_.out (by kernel_rfl)) (fun _ _ _ h => h) (Or.inl ⟨by rfl, ?_⟩) ?_ ?_
            rotate_left
            ·intro w'
             go_simp
             with_reducible rfl
            rotate_left
            ·simp only [Act.put, List.setIfInBounds_toArray, List.set_cons_zero, List.set_cons_succ, i64_w, i32_w]
             rfl
            refine take_ (i := 10) (N := some 62) (v := ?_) (a' := ?_) #[true, true, true, true, true, true, true, true, true, true, true, false, false] rfl rfl (zC1 HT_.out HW_.out (by kernel_rfl)) (fun _ _ _ h => h) (Or.inl ⟨by rfl, ?_⟩) hHeld ?_ ?_
            rotate_left
            ·rintro w' ⟨s0, s1, s2, s3, s4, s5⟩
             go_simp
             with_reducible rfl
            rotate_left
            ·simp only [Act.put, List.setIfInBounds_toArray, List.set_cons_zero, List.set_cons_succ, i64_w, i32_w]
             rfl
            refine one_ (i := 11) (N := some 63) #[true, true, true, true, true, true, true, true, true, true, true, true, false] rfl rfl (one_of HT_.out (by kernel_rfl)) (by decide) (fun K hK => ?_)
            refine goes_ Tryz.func45 (by kernel_rfl) rfl #[.agg #[.int .i64 ((zB2 l0_1 (ji31)).f0), .int .i64 ((zB2 l0_1 (ji31)).f1)], .agg #[.int .i64 ((zB2 l0_1 x5_3).f0), .int .i64 ((zB2 l0_1 x5_3).f1)]] (by rfl) rfl rfl (by (try simp only [List.map_toArray, List.map_cons, List.map_nil]); first | done | (simp only [hji31]; rfl) | rfl | (simp only [List.length_drop, List.length_take]; rfl)) ?_
            with_reducible refine (zBx.calls k3 ((zB2 l0_1 (ji31)).f0) ((zB2 l0_1 (ji31)).f1) ((zB2 l0_1 x5_3).f0) ((zB2 l0_1 x5_3).f1) t127 _ A35.out).mono ?_
            rintro e w42 ⟨rfl, hb⟩
            refine ⟨_, rfl, ?_⟩
            have n0_ := zA1.mk (zAq (g := gb120) (o := .cells #[.int .i64 a0_0, .slice (some ad125) l0_1.length c0_1] 28 (0, 0)) (by (with_reducible repeat (first | refine zA7 ?_ _ | refine zA8 ?_ | refine zA6 ?_ _)); exact BK120.out) hb)
            have n1_ := zA1.mk (zAg (by repeat (first | (with_reducible first | exact HB.out | apply zA2 | apply zA0 | apply zA3 | refine zA5 ?_ GE120.out) | exact HB.out)) hb)
            clear BK120
            clear HB
            have BK120 := n0_
            have HB := n1_
            clear n0_ n1_
            (try clear hb)
            (try clear hb2)
            (try clear hk)
            (try clear hi)
            refine hK.out _ _ ⟨(zA9 BK120.out 0).trans rfl, (zA9 BK120.out 1).trans rfl, ((HB.out.cell (World.block_lt_of_cell? w _ hw125_0)).trans hw125_0), ((HB.out.cell (World.block_lt_of_cell? w _ hw125_1)).trans hw125_1), ((HB.out.cell (World.block_lt_of_cell? w _ hw126_0)).trans hw126_0), ((HB.out.cell (World.block_lt_of_cell? w _ hw126_1)).trans hw126_1)⟩ (fun hHeld => ?_)
            clear hK K
            refine norm_ (a' := ?_) ?_ ?_
            rotate_left
            ·show Act.put _ (some 63) _ = _
             simp only [Act.put, List.setIfInBounds_toArray, List.set_cons_zero, List.set_cons_succ, i64_w, i32_w]
             rfl
            refine pure_ (i := 12) (N := some 64) (v := ?_) (a' := ?_) #[true, true, true, true, true, true, true, true, true, true, true, true, true] rfl rfl (zBf HT_.out (by kernel_rfl)) (fun _ _ _ h => h) (Or.inl ⟨by rfl, ?_⟩) ?_ ?_
            rotate_left
            ·intro w'
             go_simp
             with_reducible rfl
            rotate_left
            ·simp only [Act.put, List.setIfInBounds_toArray, List.set_cons_zero, List.set_cons_succ, i64_w, i32_w]
             rfl
            refine done_ (done_of HT_.out (by kernel_rfl)) ?_
            try go_wp2
            go_roundg k3
            case measure => have := HJ1.out; have := HK2.out; have := HK3.out; omega
            case rel => exact ⟨(wrap64 (x5_3 + 1)), (by first | rfl | (simp; done) | (simp [*]; done)), H', ⟨by have := HJ1.out; have := HK2.out; have := HK3.out; omega⟩, ⟨by (with_reducible repeat (first | refine zA7 ?_ _ | refine zA8 ?_ | refine zA6 ?_ _)); exact BK120.out⟩, ⟨by repeat (first | (with_reducible first | exact HB.out | apply zA2 | apply zA0 | apply zA3 | refine zA5 ?_ GE120.out) | exact HB.out)⟩⟩
          ·rw [if_neg c30] at H
           have c30b0 : decide (x5_3 < (l0_1.length : Int)) = false := decide_eq_false c30
           clear c30
           obtain rfl := Option.some.inj H
           have hcz43_0 : wr.cell? ⟨gb120, 0, none⟩ = some (.int .i64 a0_0) := (zA9 BK120.out 0).trans rfl
           have hcz43_1 : wr.cell? ⟨gb120, 1, none⟩ = some (.slice A0_1 l0_1.length c0_1) := (zA9 BK120.out 1).trans rfl
           have hfz43_0 := zAd BK120.out 0
           have hfz43_1 := zAd BK120.out 1
           go_wp2
           go_ret
           exact ⟨by first | rfl | (simp [zAp, zAo] <;> rfl) | (simp [*, zAp, zAo] <;> rfl), by repeat (first | (with_reducible first | exact HB.out | apply zA2 | apply zA0 | apply zA3 | refine zA5 ?_ GE120.out) | exact HB.out)⟩
end
end Go.Proofs.YtbghfbhlbfcloaaGreatDoor.PL
namespace Go.Proofs.YtbghfbhlbfcloaaGreatDoor.PL
section
open Go.RowKit Go.Proofs.YtbghfbhlbfcloaaGreatDoorW.PrintWords Go.Proofs.YtbghfbhlbfcloaaGreatDoorW.PrintLast Go.Proofs.YtbghfbhlbfcloaaGreatDoorW.PrintMore
attribute [local go_sem] zBv zBt zC5 zC4 zBo zBn zBu zBs   -- for this text's walks alone
set_option linter.unusedVariables false
set_option linter.unusedSimpArgs false
attribute [local go_sem high] eqA58
def zBp.l0 : Nat → List (S58) → Int → Int → Int → Int → Option (Int)
 | 0, _, _, _, _, _ => none
 | k + 1, x0, x7, x8, x129000, x129001 => if x8 < x7 then (if 0 ≤ x8 then (if x8 < (x0.length : Int) then (if (x129000 == ((zB2 x0 x8).f0) && (x129001 == ((zB2 x0 x8).f1))) = true then (some x8) else (zBp.l0 k x0 x7 (wrap64 (x8 + 1)) x129000 x129001)) else (none)) else (none)) else (some (-1))
def zBp.f (k : Nat) (l0 : List (S58)) (a1_0 : Int) (a1_1 : Int) : Option (Int) := zBp.l0 k l0 (l0.length : Int) 0 a1_0 a1_1
theorem zBp.zBw : ∀ k, (∀ y0 y1 y2 y3 y4, LeO (zBp.l0 k y0 y1 y2 y3 y4) (zBp.l0 (k + 1) y0 y1 y2 y3 y4))
 | 0 => fun _ _ _ _ _ r h => by simp [zBp.l0] at h
 | k + 1 => by
  have ih0 := zBp.zBw k
  ·intro y0 y1 y2 y3 y4
   unfold zBp.l0
   repeat' first
   | (with_reducible exact ih0 _ _ _ _ _)
   | (with_reducible exact LeO.refl _)
   | (with_reducible exact LeO.none _)
   | (with_reducible refine LeO.ite ?_ ?_)
   | (with_reducible refine LeO.bind ?_ (fun _ => ?_))
theorem zBp.mono : ∀ a0 a1 a2 k, LeO (zBp.f k a0 a1 a2) (zBp.f (k + 1) a0 a1 a2) := by
 intro a0 a1 a2 k
 have ih0 := zBp.zBw k
 unfold zBp.f
 repeat' first
   | (with_reducible exact ih0 _ _ _ _ _)
   | (with_reducible exact LeO.refl _)
   | (with_reducible exact LeO.none _)
   | (with_reducible refine LeO.ite ?_ ?_)
   | (with_reducible refine LeO.bind ?_ (fun _ => ?_))
set_option maxHeartbeats 8000000 in
set_option maxRecDepth 100000 in
theorem zBp.calls (k : Nat) (A0 : Option Addr) (c0 : Nat) (l0 : List (S58)) (a1_0 : Int) (a1_1 : Int) (r : Int) (w : World) (hr0 : Kd.C k58 w A0 l0.length l0) (hc0 : l0.length ≤ c0) (h : zBp.f k l0 a1_0 a1_1 = some r) :
  Calls Tryz.prog 61 #[.slice A0 l0.length c0, .agg #[.int .i64 a1_0, .int .i64 a1_1]] w fun e w' => e = .returned (.int .i64 r) ∧ Below w.heap.size w w' := by
 have hu58 := Tryz.underlying58
 have HR0 := zA1.mk hr0
 have HC0 := zA1.mk hc0
 clear hr0 hc0
 have HB := zA1.mk (Below.refl w.heap.size w)
 have H : (zBp.l0 k l0 (l0.length : Int) 0 a1_0 a1_1) = some r := h
 clear h
 have H' := zA1.mk H
 clear H
 go_enter Tryz.func61, Tryz.ntmps61
 go_wp2_with (first | ((with_reducible refine zBk (N := 3) rfl ?_); refine zBl ?hg (N := 3) ?hd (cs := #[.int .i64 a1_0, .int .i64 a1_1]) (t := 58) ?hr ?_; (case hd => rfl); (case hg => rfl); (case hr => first | (go_simp; done) | (go_simp; rfl)); intro gb128 hg w3 hbox hb; have n0_ := zA1.mk (zAg (by repeat (first | (with_reducible first | exact HB.out | apply zA2 | apply zA0 | apply zA3) | exact HB.out)) hb); have n1_ := zA1.mk (hbox); have n2_ := zA1.mk ((by rw [hg]; exact (zAb (by repeat (first | (with_reducible first | exact HB.out | apply zA2 | apply zA0 | apply zA3) | exact HB.out))) : w.heap.size ≤ gb128)); have n3_ := zA1.mk ((by rw [hg]; exact (zAb (by repeat (first | (with_reducible first | exact HB.out | apply zA2 | apply zA0 | apply zA3) | exact HB.out))) : w.heap.size ≤ gb128)); clear HB; have HB := n0_; have BK128 := n1_; have GW128 := n2_; have GE128 := n3_; clear n0_ n1_ n2_ n3_; clear hb hbox hg))
 repeat (go_quiet (first | ((with_reducible refine zBk (N := 3) rfl ?_); refine zBl ?hg (N := 3) ?hd (cs := #[.int .i64 a1_0, .int .i64 a1_1]) (t := 58) ?hr ?_; (case hd => rfl); (case hg => rfl); (case hr => first | (go_simp; done) | (go_simp; rfl)); intro gb128 hg w3 hbox hb; have n0_ := zA1.mk (zAg (by repeat (first | (with_reducible first | exact HB.out | apply zA2 | apply zA0 | apply zA3) | exact HB.out)) hb); have n1_ := zA1.mk (hbox); have n2_ := zA1.mk ((by rw [hg]; exact (zAb (by repeat (first | (with_reducible first | exact HB.out | apply zA2 | apply zA0 | apply zA3) | exact HB.out))) : w.heap.size ≤ gb128)); have n3_ := zA1.mk ((by rw [hg]; exact (zAb (by repeat (first | (with_reducible first | exact HB.out | apply zA2 | apply zA0 | apply zA3) | exact HB.out))) : w.heap.size ≤ gb128)); clear HB; have HB := n0_; have BK128 := n1_; have GW128 := n2_; have GE128 := n3_; clear n0_ n1_ n2_ n3_; clear hb hbox hg)); try go_wp2_with (first | ((with_reducible refine zBk (N := 3) rfl ?_); refine zBl ?hg (N := 3) ?hd (cs := #[.int .i64 a1_0, .int .i64 a1_1]) (t := 58) ?hr ?_; (case hd => rfl); (case hg => rfl); (case hr => first | (go_simp; done) | (go_simp; rfl)); intro gb128 hg w3 hbox hb; have n0_ := zA1.mk (zAg (by repeat (first | (with_reducible first | exact HB.out | apply zA2 | apply zA0 | apply zA3) | exact HB.out)) hb); have n1_ := zA1.mk (hbox); have n2_ := zA1.mk ((by rw [hg]; exact (zAb (by repeat (first | (with_reducible first | exact HB.out | apply zA2 | apply zA0 | apply zA3) | exact HB.out))) : w.heap.size ≤ gb128)); have n3_ := zA1.mk ((by rw [hg]; exact (zAb (by repeat (first | (with_reducible first | exact HB.out | apply zA2 | apply zA0 | apply zA3) | exact HB.out))) : w.heap.size ≤ gb128)); clear HB; have HB := n0_; have BK128 := n1_; have GW128 := n2_; have GE128 := n3_; clear n0_ n1_ n2_ n3_; clear hb hbox hg)))
 go_loopg [8] k (fun kq v8 w' => ∃ (x8_1 : Int), v8 = .int .i64 x8_1 ∧ zA1 (zBp.l0 kq l0 (l0.length : Int) x8_1 a1_0 a1_1 = some r) ∧ zA1 (kq ≤ k) ∧ zA1 (w'.heap[gb128]? = some (.cells #[.int .i64 a1_0, .int .i64 a1_1] 58 (0, 0))) ∧ zA1 (Below w.heap.size w w'))
 case atStart => exact ⟨(0), (by first | rfl | (simp; done) | (simp [*]; done)), H', ⟨Nat.le_refl _⟩, ⟨by (with_reducible repeat (first | refine zA7 ?_ _ | refine zA8 ?_ | refine zA6 ?_ _)); exact BK128.out⟩, ⟨by repeat (first | (with_reducible first | exact HB.out | apply zA2 | apply zA0 | apply zA3 | refine zA5 ?_ GE128.out) | exact HB.out)⟩⟩
 case round =>
  clear H'
  try clear p2
  obtain ⟨x8_1, rfl, HA, HK1, BK128, HB⟩ := hrel
  cases gk with
  | zero => exact absurd HA.out (by simp [zBp.l0])
  | succ k1 =>
   have H := HA.out
   clear HA
   simp only [zBp.l0] at H
   by_cases c4 : x8_1 < (l0.length : Int)
   ·rw [if_pos c4] at H
    have c4b0 : decide (x8_1 < (l0.length : Int)) = true := decide_eq_true c4
    clear c4
    by_cases c5 : 0 ≤ x8_1
    rotate_left
    ·rw [if_neg c5] at H
     exact absurd H (by simp)
    rw [if_pos c5] at H
    have c5b0 : decide (0 ≤ x8_1) = true := decide_eq_true c5
    clear c5
    by_cases c6 : x8_1 < (l0.length : Int)
    rotate_left
    ·rw [if_neg c6] at H
     exact absurd H (by simp)
    rw [if_pos c6] at H
    have c6b0 : decide (x8_1 < (l0.length : Int)) = true := decide_eq_true c6
    clear c6
    by_cases c7 : (a1_0 == ((zB2 l0 x8_1).f0) && (a1_1 == ((zB2 l0 x8_1).f1))) = true
    ·rw [if_pos c7] at H
     have c7b0 : (a1_0 == ((zB2 l0 x8_1).f0) && (a1_1 == ((zB2 l0 x8_1).f1))) = true := c7
     (try (have c7b1 : decide (a1_0 = ((zB2 l0 x8_1).f0) && (a1_1 == ((zB2 l0 x8_1).f1))) = true := by simpa using c7))
     (try (have c7b2 : (a1_0 == ((zB2 l0 x8_1).f0) && (a1_1 == ((zB2 l0 x8_1).f1))) = true := by simpa using c7))
     clear c7
     obtain rfl := Option.some.inj H
     have hcz8_0 : wr.cell? ⟨gb128, 0, none⟩ = some (.int .i64 a1_0) := (zA9 BK128.out 0).trans rfl
     have hcz8_1 : wr.cell? ⟨gb128, 1, none⟩ = some (.int .i64 a1_1) := (zA9 BK128.out 1).trans rfl
     have hfz8_0 := zAd BK128.out 0
     have hfz8_1 := zAd BK128.out 1
     have p129 : 0 ≤ (x8_1 : Int) := of_decide_eq_true (by first | (with_reducible assumption) | assumption)
     have q129 : x8_1 < (l0.length : Int) := of_decide_eq_true (by first | (with_reducible assumption) | assumption)
     obtain ⟨ad129, e129, hx129_0, hx129_1⟩ := at_T58 HR0.out x8_1 p129 q129
     cases e129
     replace hx129_0 := (HB.out.cell (World.block_lt_of_cell? w _ hx129_0)).trans hx129_0
     replace hx129_1 := (HB.out.cell (World.block_lt_of_cell? w _ hx129_1)).trans hx129_1
     replace p129 := eq_true p129
     replace q129 := eq_true q129
     go_wp2
     repeat (go_quiet (fail); try go_wp2)
     go_ret
     exact ⟨by first | rfl | (simp [zAp, zAo] <;> rfl) | (simp [*, zAp, zAo] <;> rfl), by repeat (first | (with_reducible first | exact HB.out | apply zA2 | apply zA0 | apply zA3 | refine zA5 ?_ GE128.out) | exact HB.out)⟩
    ·rw [if_neg c7] at H
     have c7b0 : (a1_0 == ((zB2 l0 x8_1).f0) && (a1_1 == ((zB2 l0 x8_1).f1))) = false := by simpa using c7
     (try (have c7b1 : decide (a1_0 = ((zB2 l0 x8_1).f0) && (a1_1 == ((zB2 l0 x8_1).f1))) = false := by simpa using c7))
     (try (have c7b2 : (a1_0 == ((zB2 l0 x8_1).f0) && (a1_1 == ((zB2 l0 x8_1).f1))) = false := by simpa using c7))
     (try (have c7b3 : ¬ (a1_0 = ((zB2 l0 x8_1).f0) && (a1_1 == ((zB2 l0 x8_1).f1))) := by simpa using c7))
     clear c7
     have H' := zA1.mk H
     clear H
     have hcz9_0 : wr.cell? ⟨gb128, 0, none⟩ = some (.int .i64 a1_0) := (zA9 BK128.out 0).trans rfl
     have hcz9_1 : wr.cell? ⟨gb128, 1, none⟩ = some (.int .i64 a1_1) := (zA9 BK128.out 1).trans rfl
     have hfz9_0 := zAd BK128.out 0
     have hfz9_1 := zAd BK128.out 1
     have p129 : 0 ≤ (x8_1 : Int) := of_decide_eq_true (by first | (with_reducible assumption) | assumption)
     have q129 : x8_1 < (l0.length : Int) := of_decide_eq_true (by first | (with_reducible assumption) | assumption)
     obtain ⟨ad129, e129, hx129_0, hx129_1⟩ := at_T58 HR0.out x8_1 p129 q129
     cases e129
     replace hx129_0 := (HB.out.cell (World.block_lt_of_cell? w _ hx129_0)).trans hx129_0
     replace hx129_1 := (HB.out.cell (World.block_lt_of_cell? w _ hx129_1)).trans hx129_1
     replace p129 := eq_true p129
     replace q129 := eq_true q129
     go_wp2
     repeat (go_quiet (fail); try go_wp2)
     go_roundg k1
     case measure => have := HK1.out; omega
     case rel => exact ⟨(wrap64 (x8_1 + 1)), (by first | rfl | (simp; done) | (simp [*]; done)), H', ⟨by have := HK1.out; omega⟩, ⟨by (with_reducible repeat (first | refine zA7 ?_ _ | refine zA8 ?_ | refine zA6 ?_ _)); exact BK128.out⟩, ⟨by repeat (first | (with_reducible first | exact HB.out | apply zA2 | apply zA0 | apply zA3 | refine zA5 ?_ GE128.out) | exact HB.out)⟩⟩
   ·rw [if_neg c4] at H
    have c4b0 : decide (x8_1 < (l0.length : Int)) = false := decide_eq_false c4
    clear c4
    obtain rfl := Option.some.inj H
    go_wp2
    repeat (go_quiet (fail); try go_wp2)
    go_ret
    exact ⟨by first | rfl | (simp [zAp, zAo] <;> rfl) | (simp [*, zAp, zAo] <;> rfl), by repeat (first | (with_reducible first | exact HB.out | apply zA2 | apply zA0 | apply zA3 | refine zA5 ?_ GE128.out) | exact HB.out)⟩
end
end Go.Proofs.YtbghfbhlbfcloaaGreatDoor.PL
namespace Go.Proofs.YtbghfbhlbfcloaaGreatDoor.PL
section
open Go.RowKit Go.Proofs.YtbghfbhlbfcloaaGreatDoorW.PrintWords Go.Proofs.YtbghfbhlbfcloaaGreatDoorW.PrintLast Go.Proofs.YtbghfbhlbfcloaaGreatDoorW.PrintMore
attribute [local go_sem] zBv zBt zC5 zC4 zBo zBn zBu zBs   -- for this text's walks alone
set_option linter.unusedVariables false
set_option linter.unusedSimpArgs false
attribute [local go_sem high] eqA58
def graph_Edge_41.f (k : Nat) (l0 : List (S58)) (a1_0 : Int) (a1_1 : Int) : Option (Bool) := (zBp.f k l0 a1_0 a1_1).bind fun t131 => (some (decide (t131 ≥ 0)))
theorem graph_Edge_41.mono : ∀ a0 a1 a2 k, LeO (graph_Edge_41.f k a0 a1 a2) (graph_Edge_41.f (k + 1) a0 a1 a2) := by
 intro a0 a1 a2 k
 unfold graph_Edge_41.f
 repeat' first
   | (with_reducible exact zBp.mono _ _ _ _)
   | (with_reducible exact LeO.refl _)
   | (with_reducible exact LeO.none _)
   | (with_reducible refine LeO.ite ?_ ?_)
   | (with_reducible refine LeO.bind ?_ (fun _ => ?_))
set_option maxHeartbeats 8000000 in
set_option maxRecDepth 100000 in
theorem graph_Edge_41.calls (k : Nat) (A0 : Option Addr) (c0 : Nat) (l0 : List (S58)) (a1_0 : Int) (a1_1 : Int) (r : Bool) (w : World) (hr0 : Kd.C k58 w A0 l0.length l0) (hc0 : l0.length ≤ c0) (h : graph_Edge_41.f k l0 a1_0 a1_1 = some r) :
  Calls Tryz.prog 41 #[.slice A0 l0.length c0, .agg #[.int .i64 a1_0, .int .i64 a1_1]] w fun e w' => e = .returned (.bool r) ∧ Below w.heap.size w w' := by
 have hu58 := Tryz.underlying58
 have HR0 := zA1.mk hr0
 have HC0 := zA1.mk hc0
 clear hr0 hc0
 have HB := zA1.mk (Below.refl w.heap.size w)
 have H : ((zBp.f k l0 a1_0 a1_1).bind fun t131 => (some (decide (t131 ≥ 0)))) = some r := h
 clear h
 replace H := Option.bind_eq_some_iff.mp H
 obtain ⟨t131, A30, H⟩ := H
 replace H : (some (decide (t131 ≥ 0))) = some r := H
 have A3 := zA1.mk A30
 clear A30
 obtain rfl := Option.some.inj H
 go_enter Tryz.func41, Tryz.ntmps41
 go_wp2_with (first | ((with_reducible refine zBk (N := 3) rfl ?_); refine zBl ?hg (N := 3) ?hd (cs := #[.int .i64 a1_0, .int .i64 a1_1]) (t := 58) ?hr ?_; (case hd => rfl); (case hg => rfl); (case hr => first | (go_simp; done) | (go_simp; rfl)); intro gb130 hg w4 hbox hb; have n0_ := zA1.mk (zAg (by repeat (first | (with_reducible first | exact HB.out | apply zA2 | apply zA0 | apply zA3) | exact HB.out)) hb); have n1_ := zA1.mk (hbox); have n2_ := zA1.mk ((by rw [hg]; exact (zAb (by repeat (first | (with_reducible first | exact HB.out | apply zA2 | apply zA0 | apply zA3) | exact HB.out))) : w.heap.size ≤ gb130)); have n3_ := zA1.mk ((by rw [hg]; exact (zAb (by repeat (first | (with_reducible first | exact HB.out | apply zA2 | apply zA0 | apply zA3) | exact HB.out))) : w.heap.size ≤ gb130)); clear HB; have HB := n0_; have BK130 := n1_; have GW130 := n2_; have GE130 := n3_; clear n0_ n1_ n2_ n3_; clear hb hbox hg; have hcz5_0 : w4.cell? ⟨gb130, 0, none⟩ = some (.int .i64 a1_0) := (zA9 BK130.out 0).trans rfl; have hcz5_1 : w4.cell? ⟨gb130, 1, none⟩ = some (.int .i64 a1_1) := (zA9 BK130.out 1).trans rfl; have hfz5_0 := zAd BK130.out 0; have hfz5_1 := zAd BK130.out 1) | ((with_reducible refine zAy (f := 61) rfl ?_); refine zBz (some 7) rfl rfl Tryz.func61 (by kernel_rfl) rfl #[.slice A0 l0.length c0, .agg #[.int .i64 a1_0, .int .i64 a1_1]] rfl (by (try simp only [List.map_toArray, List.map_cons, List.map_nil]); first | done | rfl | (simp only [List.length_drop, List.length_take]; rfl)) ?_; (with_reducible refine (zBp.calls k _ _ l0 a1_0 a1_1 t131 _ ?side1 ?side2 A3.out).mono ?_); (case side1 => repeat (first | exact (Kd.zAx HR0.out HB.out) | (with_reducible refine Kd.zAj ?_ _) | (with_reducible refine Kd.zAr ?_ _) | (with_reducible refine Kd.zB9 ?_))); (case side2 => exact HC0.out); rintro e w6 ⟨rfl, hb⟩; refine ⟨_, rfl, ?_⟩; have n0_ := zA1.mk (zAq (g := gb130) (o := .cells #[.int .i64 a1_0, .int .i64 a1_1] 58 (0, 0)) (by (with_reducible repeat (first | refine zA7 ?_ _ | refine zA8 ?_ | refine zA6 ?_ _)); exact BK130.out) hb); have n1_ := zA1.mk (zAg (by repeat (first | (with_reducible first | exact HB.out | apply zA2 | apply zA0 | apply zA3 | refine zA5 ?_ GE130.out) | exact HB.out)) hb); clear BK130; clear HB; have BK130 := n0_; have HB := n1_; clear n0_ n1_; (try clear hb); (try clear hb2); (try clear hk); (try clear hi)))
 go_ret
 exact ⟨by first | rfl | (simp [zAp, zAo] <;> rfl) | (simp [*, zAp, zAo] <;> rfl), by repeat (first | (with_reducible first | exact HB.out | apply zA2 | apply zA0 | apply zA3 | refine zA5 ?_ GE130.out) | exact HB.out)⟩
end
end Go.Proofs.YtbghfbhlbfcloaaGreatDoor.PL
namespace Go.Proofs.YtbghfbhlbfcloaaGreatDoor.PL
section
open Go.RowKit Go.Proofs.YtbghfbhlbfcloaaGreatDoorW.PrintWords Go.Proofs.YtbghfbhlbfcloaaGreatDoorW.PrintLast Go.Proofs.YtbghfbhlbfcloaaGreatDoorW.PrintMore
attribute [local go_sem] zBv zBt zC5 zC4 zBo zBn zBu zBs   -- for this text's walks alone
set_option linter.unusedVariables false
set_option linter.unusedSimpArgs false
attribute [local go_sem high] eqA58
def zBj.l0 : Nat → List (S58) → Int → Int → Int → List (S58) → Option (Int)
 | 0, _, _, _, _, _ => none
 | k + 1, x15, x16, x17, x133000, x133001 => if x17 < x16 then (if 0 ≤ x17 then (if x17 < (x15.length : Int) then (if ((zB2 x15 x17).f0) = ((zB2 x15 x17).f1) then (some 17) else ((graph_Edge_41.f k x133001 ((zB2 x15 x17).f1) ((zB2 x15 x17).f0)).bind fun t136 => (if t136 = true then (zBj.l0 k x15 x16 (wrap64 (x17 + 1)) x133000 x133001) else (some 10)))) else (none)) else (none)) else (some 0)
def zBj.f (k : Nat) (a0_0 : Int) (l0_1 : List (S58)) : Option (Int) := (zAu.f k a0_0 l0_1).bind fun t133 => (if t133 = 0 then (if a0_0 > 12 then (some 6) else (zBj.l0 k l0_1 (l0_1.length : Int) 0 a0_0 l0_1)) else (some t133))
theorem zBj.zBw : ∀ k, (∀ y0 y1 y2 y3 y4, LeO (zBj.l0 k y0 y1 y2 y3 y4) (zBj.l0 (k + 1) y0 y1 y2 y3 y4))
 | 0 => fun _ _ _ _ _ r h => by simp [zBj.l0] at h
 | k + 1 => by
  have ih0 := zBj.zBw k
  ·intro y0 y1 y2 y3 y4
   unfold zBj.l0
   repeat' first
   | (with_reducible exact ih0 _ _ _ _ _)
   | (with_reducible exact zAu.mono _ _ _)
   | (with_reducible exact graph_Edge_41.mono _ _ _ _)
   | (with_reducible exact LeO.refl _)
   | (with_reducible exact LeO.none _)
   | (with_reducible refine LeO.ite ?_ ?_)
   | (with_reducible refine LeO.bind ?_ (fun _ => ?_))
theorem zBj.mono : ∀ a0 a1 k, LeO (zBj.f k a0 a1) (zBj.f (k + 1) a0 a1) := by
 intro a0 a1 k
 have ih0 := zBj.zBw k
 unfold zBj.f
 repeat' first
   | (with_reducible exact ih0 _ _ _ _ _)
   | (with_reducible exact zAu.mono _ _ _)
   | (with_reducible exact graph_Edge_41.mono _ _ _ _)
   | (with_reducible exact LeO.refl _)
   | (with_reducible exact LeO.none _)
   | (with_reducible refine LeO.ite ?_ ?_)
   | (with_reducible refine LeO.bind ?_ (fun _ => ?_))
set_option maxHeartbeats 8000000 in
set_option maxRecDepth 100000 in
theorem zBj.calls (k : Nat) (a0_0 : Int) (A0_1 : Option Addr) (c0_1 : Nat) (l0_1 : List (S58)) (r : Int) (w : World) (hr0_1 : Kd.C k58 w A0_1 l0_1.length l0_1) (hc0_1 : l0_1.length ≤ c0_1) (h : zBj.f k a0_0 l0_1 = some r) :
  Calls Tryz.prog 21 #[.agg #[.int .i64 a0_0, .slice A0_1 l0_1.length c0_1]] w fun e w' => e = .returned (.int .i64 r) ∧ Below w.heap.size w w' := by
 have hu28 := Tryz.underlying28
 have hu58 := Tryz.underlying58
 have HR0_1 := zA1.mk hr0_1
 have HC0_1 := zA1.mk hc0_1
 clear hr0_1 hc0_1
 have HB := zA1.mk (Below.refl w.heap.size w)
 have H : ((zAu.f k a0_0 l0_1).bind fun t133 => (if t133 = 0 then (if a0_0 > 12 then (some 6) else (zBj.l0 k l0_1 (l0_1.length : Int) 0 a0_0 l0_1)) else (some t133))) = some r := h
 clear h
 replace H := Option.bind_eq_some_iff.mp H
 obtain ⟨t133, A20, H⟩ := H
 replace H : (if t133 = 0 then (if a0_0 > 12 then (some 6) else (zBj.l0 k l0_1 (l0_1.length : Int) 0 a0_0 l0_1)) else (some t133)) = some r := H
 have A2 := zA1.mk A20
 clear A20
 by_cases c3 : t133 = 0
 ·rw [if_pos c3] at H
  have c3b0 : (t133 == 0) = true := beq_iff_eq.mpr c3
  have c3b1 : (t133 != 0) = false := bne_eq_false_iff_eq.mpr c3
  clear c3
  by_cases c4 : a0_0 > 12
  ·rw [if_pos c4] at H
   have c4b0 : decide (12 < a0_0) = true := decide_eq_true c4
   clear c4
   obtain rfl := Option.some.inj H
   go_enter Tryz.func21, Tryz.ntmps21
   go_wp2_with (first | ((with_reducible refine zBk (N := 1) rfl ?_); refine zBl ?hg (N := 1) ?hd (cs := #[.int .i64 a0_0, .slice A0_1 l0_1.length c0_1]) (t := 28) ?hr ?_; (case hd => rfl); (case hg => rfl); (case hr => first | (go_simp; done) | (go_simp; rfl)); intro gb132 hg w5 hbox hb; have n0_ := zA1.mk (zAg (by repeat (first | (with_reducible first | exact HB.out | apply zA2 | apply zA0 | apply zA3) | exact HB.out)) hb); have n1_ := zA1.mk (hbox); have n2_ := zA1.mk ((by rw [hg]; exact (zAb (by repeat (first | (with_reducible first | exact HB.out | apply zA2 | apply zA0 | apply zA3) | exact HB.out))) : w.heap.size ≤ gb132)); have n3_ := zA1.mk ((by rw [hg]; exact (zAb (by repeat (first | (with_reducible first | exact HB.out | apply zA2 | apply zA0 | apply zA3) | exact HB.out))) : w.heap.size ≤ gb132)); clear HB; have HB := n0_; have BK132 := n1_; have GW132 := n2_; have GE132 := n3_; clear n0_ n1_ n2_ n3_; clear hb hbox hg; have hcz6_0 : w5.cell? ⟨gb132, 0, none⟩ = some (.int .i64 a0_0) := (zA9 BK132.out 0).trans rfl; have hcz6_1 : w5.cell? ⟨gb132, 1, none⟩ = some (.slice A0_1 l0_1.length c0_1) := (zA9 BK132.out 1).trans rfl; have hfz6_0 := zAd BK132.out 0; have hfz6_1 := zAd BK132.out 1) | ((with_reducible refine zAy (f := 39) rfl ?_); refine zBz (some 7) rfl rfl Tryz.func39 (by kernel_rfl) rfl #[.agg #[.int .i64 a0_0, .slice A0_1 l0_1.length c0_1]] rfl (by (try simp only [List.map_toArray, List.map_cons, List.map_nil]); first | done | rfl | (simp only [List.length_drop, List.length_take]; rfl)) ?_; (with_reducible refine (zAu.calls k a0_0 _ _ l0_1 t133 _ ?side1 ?side2 A2.out).mono ?_); (case side1 => repeat (first | exact (Kd.zAx HR0_1.out HB.out) | (with_reducible refine Kd.zAj ?_ _) | (with_reducible refine Kd.zAr ?_ _) | (with_reducible refine Kd.zB9 ?_))); (case side2 => exact HC0_1.out); rintro e w7 ⟨rfl, hb⟩; refine ⟨_, rfl, ?_⟩; have n0_ := zA1.mk (zAq (g := gb132) (o := .cells #[.int .i64 a0_0, .slice A0_1 l0_1.length c0_1] 28 (0, 0)) (by (with_reducible repeat (first | refine zA7 ?_ _ | refine zA8 ?_ | refine zA6 ?_ _)); exact BK132.out) hb); have n1_ := zA1.mk (zAg (by repeat (first | (with_reducible first | exact HB.out | apply zA2 | apply zA0 | apply zA3 | refine zA5 ?_ GE132.out) | exact HB.out)) hb); clear BK132; clear HB; have BK132 := n0_; have HB := n1_; clear n0_ n1_; (try clear hb); (try clear hb2); (try clear hk); (try clear hi); have hcz8_0 : w7.cell? ⟨gb132, 0, none⟩ = some (.int .i64 a0_0) := (zA9 BK132.out 0).trans rfl; have hcz8_1 : w7.cell? ⟨gb132, 1, none⟩ = some (.slice A0_1 l0_1.length c0_1) := (zA9 BK132.out 1).trans rfl; have hfz8_0 := zAd BK132.out 0; have hfz8_1 := zAd BK132.out 1))
   go_ret
   exact ⟨by first | rfl | (simp [zAp, zAo] <;> rfl) | (simp [*, zAp, zAo] <;> rfl), by repeat (first | (with_reducible first | exact HB.out | apply zA2 | apply zA0 | apply zA3 | refine zA5 ?_ GE132.out) | exact HB.out)⟩
  ·rw [if_neg c4] at H
   have c4b0 : decide (12 < a0_0) = false := decide_eq_false c4
   clear c4
   have H' := zA1.mk H
   clear H
   go_enter Tryz.func21, Tryz.ntmps21
   go_wp2_with (first | ((with_reducible refine zBk (N := 1) rfl ?_); refine zBl ?hg (N := 1) ?hd (cs := #[.int .i64 a0_0, .slice A0_1 l0_1.length c0_1]) (t := 28) ?hr ?_; (case hd => rfl); (case hg => rfl); (case hr => first | (go_simp; done) | (go_simp; rfl)); intro gb132 hg w9 hbox hb; have n0_ := zA1.mk (zAg (by repeat (first | (with_reducible first | exact HB.out | apply zA2 | apply zA0 | apply zA3) | exact HB.out)) hb); have n1_ := zA1.mk (hbox); have n2_ := zA1.mk ((by rw [hg]; exact (zAb (by repeat (first | (with_reducible first | exact HB.out | apply zA2 | apply zA0 | apply zA3) | exact HB.out))) : w.heap.size ≤ gb132)); have n3_ := zA1.mk ((by rw [hg]; exact (zAb (by repeat (first | (with_reducible first | exact HB.out | apply zA2 | apply zA0 | apply zA3) | exact HB.out))) : w.heap.size ≤ gb132)); clear HB; have HB := n0_; have BK132 := n1_; have GW132 := n2_; have GE132 := n3_; clear n0_ n1_ n2_ n3_; clear hb hbox hg; have hcz10_0 : w9.cell? ⟨gb132, 0, none⟩ = some (.int .i64 a0_0) := (zA9 BK132.out 0).trans rfl; have hcz10_1 : w9.cell? ⟨gb132, 1, none⟩ = some (.slice A0_1 l0_1.length c0_1) := (zA9 BK132.out 1).trans rfl; have hfz10_0 := zAd BK132.out 0; have hfz10_1 := zAd BK132.out 1) | ((with_reducible refine zAy (f := 39) rfl ?_); refine zBz (some 7) rfl rfl Tryz.func39 (by kernel_rfl) rfl #[.agg #[.int .i64 a0_0, .slice A0_1 l0_1.length c0_1]] rfl (by (try simp only [List.map_toArray, List.map_cons, List.map_nil]); first | done | rfl | (simp only [List.length_drop, List.length_take]; rfl)) ?_; (with_reducible refine (zAu.calls k a0_0 _ _ l0_1 t133 _ ?side1 ?side2 A2.out).mono ?_); (case side1 => repeat (first | exact (Kd.zAx HR0_1.out HB.out) | (with_reducible refine Kd.zAj ?_ _) | (with_reducible refine Kd.zAr ?_ _) | (with_reducible refine Kd.zB9 ?_))); (case side2 => exact HC0_1.out); rintro e w11 ⟨rfl, hb⟩; refine ⟨_, rfl, ?_⟩; have n0_ := zA1.mk (zAq (g := gb132) (o := .cells #[.int .i64 a0_0, .slice A0_1 l0_1.length c0_1] 28 (0, 0)) (by (with_reducible repeat (first | refine zA7 ?_ _ | refine zA8 ?_ | refine zA6 ?_ _)); exact BK132.out) hb); have n1_ := zA1.mk (zAg (by repeat (first | (with_reducible first | exact HB.out | apply zA2 | apply zA0 | apply zA3 | refine zA5 ?_ GE132.out) | exact HB.out)) hb); clear BK132; clear HB; have BK132 := n0_; have HB := n1_; clear n0_ n1_; (try clear hb); (try clear hb2); (try clear hk); (try clear hi); have hcz12_0 : w11.cell? ⟨gb132, 0, none⟩ = some (.int .i64 a0_0) := (zA9 BK132.out 0).trans rfl; have hcz12_1 : w11.cell? ⟨gb132, 1, none⟩ = some (.slice A0_1 l0_1.length c0_1) := (zA9 BK132.out 1).trans rfl; have hfz12_0 := zAd BK132.out 0; have hfz12_1 := zAd BK132.out 1))
   go_loopg [17] k (fun kq v17 w' => ∃ (x17_1 : Int), v17 = .int .i64 x17_1 ∧ zA1 (zBj.l0 kq l0_1 (l0_1.length : Int) x17_1 a0_0 l0_1 = some r) ∧ zA1 (kq ≤ k) ∧ zA1 (w'.heap[gb132]? = some (.cells #[.int .i64 a0_0, (.slice A0_1 l0_1.length c0_1)] 28 (0, 0))) ∧ zA1 (Below w.heap.size w w'))
   case atStart => exact ⟨(0), (by first | rfl | (simp; done) | (simp [*]; done)), H', ⟨Nat.le_refl _⟩, ⟨by (with_reducible repeat (first | refine zA7 ?_ _ | refine zA8 ?_ | refine zA6 ?_ _)); exact BK132.out⟩, ⟨by repeat (first | (with_reducible first | exact HB.out | apply zA2 | apply zA0 | apply zA3 | refine zA5 ?_ GE132.out) | exact HB.out)⟩⟩
   case round =>
    clear H'
    try clear c2
    try clear p2
    try clear c3
    try clear c3b0
    try clear c3b1
    try clear c4
    try clear c4b0
    try clear hcz10_0
    try clear hcz10_1
    try clear hcz12_0
    try clear hcz12_1
    try clear hcz6_0
    try clear hcz6_1
    try clear hcz8_0
    try clear hcz8_1
    try clear hfz10_0
    try clear hfz10_1
    try clear hfz12_0
    try clear hfz12_1
    try clear hfz6_0
    try clear hfz6_1
    try clear hfz8_0
    try clear hfz8_1
    obtain ⟨x17_1, rfl, HA, HK1, BK132, HB⟩ := hrel
    cases gk with
    | zero => exact absurd HA.out (by simp [zBj.l0])
    | succ k1 =>
     have H := HA.out
     clear HA
     simp only [zBj.l0] at H
     by_cases c13 : x17_1 < (l0_1.length : Int)
     ·rw [if_pos c13] at H
      have c13b0 : decide (x17_1 < (l0_1.length : Int)) = true := decide_eq_true c13
      clear c13
      by_cases c14 : 0 ≤ x17_1
      rotate_left
      ·rw [if_neg c14] at H
       exact absurd H (by simp)
      rw [if_pos c14] at H
      have c14b0 : decide (0 ≤ x17_1) = true := decide_eq_true c14
      clear c14
      by_cases c15 : x17_1 < (l0_1.length : Int)
      rotate_left
      ·rw [if_neg c15] at H
       exact absurd H (by simp)
      rw [if_pos c15] at H
      have c15b0 : decide (x17_1 < (l0_1.length : Int)) = true := decide_eq_true c15
      clear c15
      by_cases c16 : ((zB2 l0_1 x17_1).f0) = ((zB2 l0_1 x17_1).f1)
      ·rw [if_pos c16] at H
       have c16b0 : (((zB2 l0_1 x17_1).f0) == ((zB2 l0_1 x17_1).f1)) = true := beq_iff_eq.mpr c16
       have c16b1 : (((zB2 l0_1 x17_1).f0) != ((zB2 l0_1 x17_1).f1)) = false := bne_eq_false_iff_eq.mpr c16
       clear c16
       obtain rfl := Option.some.inj H
       have p134 : 0 ≤ (x17_1 : Int) := of_decide_eq_true (by first | (with_reducible assumption) | assumption)
       have q134 : x17_1 < (l0_1.length : Int) := of_decide_eq_true (by first | (with_reducible assumption) | assumption)
       obtain ⟨ad134, e134, hx134_0, hx134_1⟩ := at_T58 HR0_1.out x17_1 p134 q134
       cases e134
       replace hx134_0 := (HB.out.cell (World.block_lt_of_cell? w _ hx134_0)).trans hx134_0
       replace hx134_1 := (HB.out.cell (World.block_lt_of_cell? w _ hx134_1)).trans hx134_1
       replace p134 := eq_true p134
       replace q134 := eq_true q134
       go_wp2_with (first | ((with_reducible refine zBk (N := 5) rfl ?_); refine zBl ?hg (N := 5) ?hd (cs := #[.int .i64 0, .int .i64 0]) (t := 58) ?hr ?_; (case hd => rfl); (case hg => rfl); (case hr => first | (go_simp; done) | (go_simp; rfl)); intro gb135 hg w17 hbox hb; have n0_ := zA1.mk (zAq (g := gb132) (o := .cells #[.int .i64 a0_0, .slice (some ad134) l0_1.length c0_1] 28 (0, 0)) (by (with_reducible repeat (first | refine zA7 ?_ _ | refine zA8 ?_ | refine zA6 ?_ _)); exact BK132.out) hb); have n1_ := zA1.mk (zAg (by repeat (first | (with_reducible first | exact HB.out | apply zA2 | apply zA0 | apply zA3 | refine zA5 ?_ GE132.out) | exact HB.out)) hb); have n2_ := zA1.mk (hbox); have n3_ := zA1.mk ((by rw [hg]; exact (zAb (by repeat (first | (with_reducible first | exact HB.out | apply zA2 | apply zA0 | apply zA3 | refine zA5 ?_ GE132.out) | exact HB.out))) : w.heap.size ≤ gb135)); have n4_ := zA1.mk ((by rw [hg]; exact (zAb (by repeat (first | (with_reducible first | exact HB.out | apply zA2 | apply zA0 | apply zA3 | refine zA5 ?_ GE132.out) | exact HB.out))) : w.heap.size ≤ gb135)); have n5_ := zA1.mk ((by rw [hg]; exact Nat.ne_of_lt (zC7 (g := gb132) (o := .cells #[.int .i64 a0_0, .slice (some ad134) l0_1.length c0_1] 28 (0, 0)) (by (with_reducible repeat (first | refine zA7 ?_ _ | refine zA8 ?_ | refine zA6 ?_ _)); exact BK132.out)) : gb132 ≠ gb135)); have n6_ := zA1.mk ((by rw [hg]; exact Nat.ne_of_gt (zC7 (g := gb132) (o := .cells #[.int .i64 a0_0, .slice (some ad134) l0_1.length c0_1] 28 (0, 0)) (by (with_reducible repeat (first | refine zA7 ?_ _ | refine zA8 ?_ | refine zA6 ?_ _)); exact BK132.out)) : gb135 ≠ gb132)); clear BK132; clear HB; have BK132 := n0_; have HB := n1_; have BK135 := n2_; have GW135 := n3_; have GE135 := n4_; have NB132_135 := n5_; have NB135_132 := n6_; clear n0_ n1_ n2_ n3_ n4_ n5_ n6_; clear hb hbox hg; have hnb18 := NB135_132.out; have hnc18 := NB132_135.out; have hcz19_0 : w17.cell? ⟨gb135, 0, none⟩ = some (.int .i64 0) := (zA9 BK135.out 0).trans rfl; have hcz19_1 : w17.cell? ⟨gb135, 1, none⟩ = some (.int .i64 0) := (zA9 BK135.out 1).trans rfl; have hfz19_0 := zAd BK135.out 0; have hfz19_1 := zAd BK135.out 1))
       go_ret
       exact ⟨by first | rfl | (simp [zAp, zAo] <;> rfl) | (simp [*, zAp, zAo] <;> rfl), by repeat (first | (with_reducible first | exact HB.out | apply zA2 | apply zA0 | apply zA3 | refine zA5 ?_ GE132.out | refine zA5 ?_ GE135.out) | exact HB.out)⟩
      ·rw [if_neg c16] at H
       have c16b0 : (((zB2 l0_1 x17_1).f0) == ((zB2 l0_1 x17_1).f1)) = false := beq_eq_false_iff_ne.mpr c16
       have c16b1 : (((zB2 l0_1 x17_1).f0) != ((zB2 l0_1 x17_1).f1)) = true := bne_iff_ne.mpr c16
       replace H := Option.bind_eq_some_iff.mp H
       obtain ⟨t136, A200, H⟩ := H
       replace H : (if t136 = true then (zBj.l0 k1 l0_1 (l0_1.length : Int) (wrap64 (x17_1 + 1)) a0_0 l0_1) else (some 10)) = some r := H
       have A20 := zA1.mk A200
       clear A200
       by_cases c21 : t136 = true
       ·subst c21
        have H1 : (zBj.l0 k1 l0_1 (l0_1.length : Int) (wrap64 (x17_1 + 1)) a0_0 l0_1) = some r := by rw [if_pos rfl] at H; exact H
        clear H
        have H := H1
        clear H1
        have H' := zA1.mk H
        clear H
        have p134 : 0 ≤ (x17_1 : Int) := of_decide_eq_true (by first | (with_reducible assumption) | assumption)
        have q134 : x17_1 < (l0_1.length : Int) := of_decide_eq_true (by first | (with_reducible assumption) | assumption)
        obtain ⟨ad134, e134, hx134_0, hx134_1⟩ := at_T58 HR0_1.out x17_1 p134 q134
        cases e134
        replace hx134_0 := (HB.out.cell (World.block_lt_of_cell? w _ hx134_0)).trans hx134_0
        replace hx134_1 := (HB.out.cell (World.block_lt_of_cell? w _ hx134_1)).trans hx134_1
        replace p134 := eq_true p134
        replace q134 := eq_true q134
        go_wp2_with (first | ((with_reducible refine zBk (N := 5) rfl ?_); refine zBl ?hg (N := 5) ?hd (cs := #[.int .i64 0, .int .i64 0]) (t := 58) ?hr ?_; (case hd => rfl); (case hg => rfl); (case hr => first | (go_simp; done) | (go_simp; rfl)); intro gb135 hg w22 hbox hb; have n0_ := zA1.mk (zAq (g := gb132) (o := .cells #[.int .i64 a0_0, .slice (some ad134) l0_1.length c0_1] 28 (0, 0)) (by (with_reducible repeat (first | refine zA7 ?_ _ | refine zA8 ?_ | refine zA6 ?_ _)); exact BK132.out) hb); have n1_ := zA1.mk (zAg (by repeat (first | (with_reducible first | exact HB.out | apply zA2 | apply zA0 | apply zA3 | refine zA5 ?_ GE132.out) | exact HB.out)) hb); have n2_ := zA1.mk (hbox); have n3_ := zA1.mk ((by rw [hg]; exact (zAb (by repeat (first | (with_reducible first | exact HB.out | apply zA2 | apply zA0 | apply zA3 | refine zA5 ?_ GE132.out) | exact HB.out))) : w.heap.size ≤ gb135)); have n4_ := zA1.mk ((by rw [hg]; exact (zAb (by repeat (first | (with_reducible first | exact HB.out | apply zA2 | apply zA0 | apply zA3 | refine zA5 ?_ GE132.out) | exact HB.out))) : w.heap.size ≤ gb135)); have n5_ := zA1.mk ((by rw [hg]; exact Nat.ne_of_lt (zC7 (g := gb132) (o := .cells #[.int .i64 a0_0, .slice (some ad134) l0_1.length c0_1] 28 (0, 0)) (by (with_reducible repeat (first | refine zA7 ?_ _ | refine zA8 ?_ | refine zA6 ?_ _)); exact BK132.out)) : gb132 ≠ gb135)); have n6_ := zA1.mk ((by rw [hg]; exact Nat.ne_of_gt (zC7 (g := gb132) (o := .cells #[.int .i64 a0_0, .slice (some ad134) l0_1.length c0_1] 28 (0, 0)) (by (with_reducible repeat (first | refine zA7 ?_ _ | refine zA8 ?_ | refine zA6 ?_ _)); exact BK132.out)) : gb135 ≠ gb132)); clear BK132; clear HB; have BK132 := n0_; have HB := n1_; have BK135 := n2_; have GW135 := n3_; have GE135 := n4_; have NB132_135 := n5_; have NB135_132 := n6_; clear n0_ n1_ n2_ n3_ n4_ n5_ n6_; clear hb hbox hg; have hnb23 := NB135_132.out; have hnc23 := NB132_135.out; have hcz24_0 : w22.cell? ⟨gb135, 0, none⟩ = some (.int .i64 0) := (zA9 BK135.out 0).trans rfl; have hcz24_1 : w22.cell? ⟨gb135, 1, none⟩ = some (.int .i64 0) := (zA9 BK135.out 1).trans rfl; have hfz24_0 := zAd BK135.out 0; have hfz24_1 := zAd BK135.out 1; have hcz25_0 : w22.cell? ⟨gb132, 0, none⟩ = some (.int .i64 a0_0) := (zA9 BK132.out 0).trans rfl; have hcz25_1 : w22.cell? ⟨gb132, 1, none⟩ = some (.slice (some ad134) l0_1.length c0_1) := (zA9 BK132.out 1).trans rfl; have hfz25_0 := zAd BK132.out 0; have hfz25_1 := zAd BK132.out 1) | ((with_reducible refine zAy (f := 41) rfl ?_); refine zBz (some 33) rfl rfl Tryz.func41 (by kernel_rfl) rfl #[.slice (some ad134) l0_1.length c0_1, .agg #[.int .i64 ((zB2 l0_1 x17_1).f1), .int .i64 ((zB2 l0_1 x17_1).f0)]] rfl (by (try simp only [List.map_toArray, List.map_cons, List.map_nil]); first | done | rfl | (simp only [List.length_drop, List.length_take]; rfl)) ?_; (with_reducible refine (graph_Edge_41.calls k1 _ _ l0_1 ((zB2 l0_1 x17_1).f1) ((zB2 l0_1 x17_1).f0) true _ ?side1 ?side2 A20.out).mono ?_); (case side1 => exact Kd.zAx HR0_1.out (by repeat (first | (with_reducible first | exact HB.out | apply zA2 | apply zA0 | apply zA3 | refine zA5 ?_ GE132.out | refine zA5 ?_ GE135.out) | exact HB.out))); (case side2 => exact HC0_1.out); rintro e w26 ⟨rfl, hb⟩; refine ⟨_, rfl, ?_⟩; have n0_ := zA1.mk (zAq (g := gb132) (o := .cells #[.int .i64 a0_0, .slice (some ad134) l0_1.length c0_1] 28 (0, 0)) (by (with_reducible repeat (first | refine zA7 ?_ _ | refine zA8 ?_ | refine zA6 ?_ _)); refine blk_far ?_ NB132_135.out _; (with_reducible repeat (first | refine zA7 ?_ _ | refine zA8 ?_ | refine zA6 ?_ _)); refine blk_far ?_ NB132_135.out _; (with_reducible repeat (first | refine zA7 ?_ _ | refine zA8 ?_ | refine zA6 ?_ _)); exact BK132.out) hb); have n1_ := zA1.mk (zAq (g := gb135) (o := .cells #[.int .i64 ((zB2 l0_1 x17_1).f0), .int .i64 ((zB2 l0_1 x17_1).f1)] 58 (0, 0)) (by (with_reducible repeat (first | refine zA7 ?_ _ | refine zA8 ?_ | refine zA6 ?_ _)); refine blk_put (cs := #[.int .i64 ((zB2 l0_1 x17_1).f0), .int .i64 0]) ?_ 1 _ rfl; (with_reducible repeat (first | refine zA7 ?_ _ | refine zA8 ?_ | refine zA6 ?_ _)); refine blk_put (cs := #[.int .i64 0, .int .i64 0]) ?_ 0 _ rfl; (with_reducible repeat (first | refine zA7 ?_ _ | refine zA8 ?_ | refine zA6 ?_ _)); exact BK135.out) hb); have n2_ := zA1.mk (zAg (by repeat (first | (with_reducible first | exact HB.out | apply zA2 | apply zA0 | apply zA3 | refine zA5 ?_ GE132.out | refine zA5 ?_ GE135.out) | exact HB.out)) hb); clear BK132; clear BK135; clear HB; have BK132 := n0_; have BK135 := n1_; have HB := n2_; clear n0_ n1_ n2_; (try clear hb); (try clear hb2); (try clear hk); (try clear hi)))
        go_roundg k1
        case measure => have := HK1.out; omega
        case rel => exact ⟨(wrap64 (x17_1 + 1)), (by first | rfl | (simp; done) | (simp [*]; done)), H', ⟨by have := HK1.out; omega⟩, ⟨by (with_reducible repeat (first | refine zA7 ?_ _ | refine zA8 ?_ | refine zA6 ?_ _)); exact BK132.out⟩, ⟨by repeat (first | (with_reducible first | exact HB.out | apply zA2 | apply zA0 | apply zA3 | refine zA5 ?_ GE132.out | refine zA5 ?_ GE135.out) | exact HB.out)⟩⟩
       ·replace c21 := Bool.eq_false_iff.mpr c21
        subst c21
        have H1 : (some 10) = some r := by rw [if_neg (show ¬ (false = true) by decide)] at H; exact H
        clear H
        have H := H1
        clear H1
        obtain rfl := Option.some.inj H
        have p134 : 0 ≤ (x17_1 : Int) := of_decide_eq_true (by first | (with_reducible assumption) | assumption)
        have q134 : x17_1 < (l0_1.length : Int) := of_decide_eq_true (by first | (with_reducible assumption) | assumption)
        obtain ⟨ad134, e134, hx134_0, hx134_1⟩ := at_T58 HR0_1.out x17_1 p134 q134
        cases e134
        replace hx134_0 := (HB.out.cell (World.block_lt_of_cell? w _ hx134_0)).trans hx134_0
        replace hx134_1 := (HB.out.cell (World.block_lt_of_cell? w _ hx134_1)).trans hx134_1
        replace p134 := eq_true p134
        replace q134 := eq_true q134
        go_wp2_with (first | ((with_reducible refine zBk (N := 5) rfl ?_); refine zBl ?hg (N := 5) ?hd (cs := #[.int .i64 0, .int .i64 0]) (t := 58) ?hr ?_; (case hd => rfl); (case hg => rfl); (case hr => first | (go_simp; done) | (go_simp; rfl)); intro gb135 hg w27 hbox hb; have n0_ := zA1.mk (zAq (g := gb132) (o := .cells #[.int .i64 a0_0, .slice (some ad134) l0_1.length c0_1] 28 (0, 0)) (by (with_reducible repeat (first | refine zA7 ?_ _ | refine zA8 ?_ | refine zA6 ?_ _)); exact BK132.out) hb); have n1_ := zA1.mk (zAg (by repeat (first | (with_reducible first | exact HB.out | apply zA2 | apply zA0 | apply zA3 | refine zA5 ?_ GE132.out) | exact HB.out)) hb); have n2_ := zA1.mk (hbox); have n3_ := zA1.mk ((by rw [hg]; exact (zAb (by repeat (first | (with_reducible first | exact HB.out | apply zA2 | apply zA0 | apply zA3 | refine zA5 ?_ GE132.out) | exact HB.out))) : w.heap.size ≤ gb135)); have n4_ := zA1.mk ((by rw [hg]; exact (zAb (by repeat (first | (with_reducible first | exact HB.out | apply zA2 | apply zA0 | apply zA3 | refine zA5 ?_ GE132.out) | exact HB.out))) : w.heap.size ≤ gb135)); have n5_ := zA1.mk ((by rw [hg]; exact Nat.ne_of_lt (zC7 (g := gb132) (o := .cells #[.int .i64 a0_0, .slice (some ad134) l0_1.length c0_1] 28 (0, 0)) (by (with_reducible repeat (first | refine zA7 ?_ _ | refine zA8 ?_ | refine zA6 ?_ _)); exact BK132.out)) : gb132 ≠ gb135)); have n6_ := zA1.mk ((by rw [hg]; exact Nat.ne_of_gt (zC7 (g := gb132) (o := .cells #[.int .i64 a0_0, .slice (some ad134) l0_1.length c0_1] 28 (0, 0)) (by (with_reducible repeat (first | refine zA7 ?_ _ | refine zA8 ?_ | refine zA6 ?_ _)); exact BK132.out)) : gb135 ≠ gb132)); clear BK132; clear HB; have BK132 := n0_; have HB := n1_; have BK135 := n2_; have GW135 := n3_; have GE135 := n4_; have NB132_135 := n5_; have NB135_132 := n6_; clear n0_ n1_ n2_ n3_ n4_ n5_ n6_; clear hb hbox hg; have hnb28 := NB135_132.out; have hnc28 := NB132_135.out; have hcz29_0 : w27.cell? ⟨gb135, 0, none⟩ = some (.int .i64 0) := (zA9 BK135.out 0).trans rfl; have hcz29_1 : w27.cell? ⟨gb135, 1, none⟩ = some (.int .i64 0) := (zA9 BK135.out 1).trans rfl; have hfz29_0 := zAd BK135.out 0; have hfz29_1 := zAd BK135.out 1; have hcz30_0 : w27.cell? ⟨gb132, 0, none⟩ = some (.int .i64 a0_0) := (zA9 BK132.out 0).trans rfl; have hcz30_1 : w27.cell? ⟨gb132, 1, none⟩ = some (.slice (some ad134) l0_1.length c0_1) := (zA9 BK132.out 1).trans rfl; have hfz30_0 := zAd BK132.out 0; have hfz30_1 := zAd BK132.out 1) | ((with_reducible refine zAy (f := 41) rfl ?_); refine zBz (some 33) rfl rfl Tryz.func41 (by kernel_rfl) rfl #[.slice (some ad134) l0_1.length c0_1, .agg #[.int .i64 ((zB2 l0_1 x17_1).f1), .int .i64 ((zB2 l0_1 x17_1).f0)]] rfl (by (try simp only [List.map_toArray, List.map_cons, List.map_nil]); first | done | rfl | (simp only [List.length_drop, List.length_take]; rfl)) ?_; (with_reducible refine (graph_Edge_41.calls k1 _ _ l0_1 ((zB2 l0_1 x17_1).f1) ((zB2 l0_1 x17_1).f0) false _ ?side1 ?side2 A20.out).mono ?_); (case side1 => exact Kd.zAx HR0_1.out (by repeat (first | (with_reducible first | exact HB.out | apply zA2 | apply zA0 | apply zA3 | refine zA5 ?_ GE132.out | refine zA5 ?_ GE135.out) | exact HB.out))); (case side2 => exact HC0_1.out); rintro e w31 ⟨rfl, hb⟩; refine ⟨_, rfl, ?_⟩; have n0_ := zA1.mk (zAq (g := gb132) (o := .cells #[.int .i64 a0_0, .slice (some ad134) l0_1.length c0_1] 28 (0, 0)) (by (with_reducible repeat (first | refine zA7 ?_ _ | refine zA8 ?_ | refine zA6 ?_ _)); refine blk_far ?_ NB132_135.out _; (with_reducible repeat (first | refine zA7 ?_ _ | refine zA8 ?_ | refine zA6 ?_ _)); refine blk_far ?_ NB132_135.out _; (with_reducible repeat (first | refine zA7 ?_ _ | refine zA8 ?_ | refine zA6 ?_ _)); exact BK132.out) hb); have n1_ := zA1.mk (zAq (g := gb135) (o := .cells #[.int .i64 ((zB2 l0_1 x17_1).f0), .int .i64 ((zB2 l0_1 x17_1).f1)] 58 (0, 0)) (by (with_reducible repeat (first | refine zA7 ?_ _ | refine zA8 ?_ | refine zA6 ?_ _)); refine blk_put (cs := #[.int .i64 ((zB2 l0_1 x17_1).f0), .int .i64 0]) ?_ 1 _ rfl; (with_reducible repeat (first | refine zA7 ?_ _ | refine zA8 ?_ | refine zA6 ?_ _)); refine blk_put (cs := #[.int .i64 0, .int .i64 0]) ?_ 0 _ rfl; (with_reducible repeat (first | refine zA7 ?_ _ | refine zA8 ?_ | refine zA6 ?_ _)); exact BK135.out) hb); have n2_ := zA1.mk (zAg (by repeat (first | (with_reducible first | exact HB.out | apply zA2 | apply zA0 | apply zA3 | refine zA5 ?_ GE132.out | refine zA5 ?_ GE135.out) | exact HB.out)) hb); clear BK132; clear BK135; clear HB; have BK132 := n0_; have BK135 := n1_; have HB := n2_; clear n0_ n1_ n2_; (try clear hb); (try clear hb2); (try clear hk); (try clear hi)))
        go_ret
        exact ⟨by first | rfl | (simp [zAp, zAo] <;> rfl) | (simp [*, zAp, zAo] <;> rfl), by repeat (first | (with_reducible first | exact HB.out | apply zA2 | apply zA0 | apply zA3 | refine zA5 ?_ GE132.out | refine zA5 ?_ GE135.out) | exact HB.out)⟩
     ·rw [if_neg c13] at H
      have c13b0 : decide (x17_1 < (l0_1.length : Int)) = false := decide_eq_false c13
      clear c13
      obtain rfl := Option.some.inj H
      go_wp2
      go_ret
      exact ⟨by first | rfl | (simp [zAp, zAo] <;> rfl) | (simp [*, zAp, zAo] <;> rfl), by repeat (first | (with_reducible first | exact HB.out | apply zA2 | apply zA0 | apply zA3 | refine zA5 ?_ GE132.out) | exact HB.out)⟩
 ·rw [if_neg c3] at H
  have c3b0 : (t133 == 0) = false := beq_eq_false_iff_ne.mpr c3
  have c3b1 : (t133 != 0) = true := bne_iff_ne.mpr c3
  obtain rfl := Option.some.inj H
  go_enter Tryz.func21, Tryz.ntmps21
  go_wp2_with (first | ((with_reducible refine zBk (N := 1) rfl ?_); refine zBl ?hg (N := 1) ?hd (cs := #[.int .i64 a0_0, .slice A0_1 l0_1.length c0_1]) (t := 28) ?hr ?_; (case hd => rfl); (case hg => rfl); (case hr => first | (go_simp; done) | (go_simp; rfl)); intro gb132 hg w32 hbox hb; have n0_ := zA1.mk (zAg (by repeat (first | (with_reducible first | exact HB.out | apply zA2 | apply zA0 | apply zA3) | exact HB.out)) hb); have n1_ := zA1.mk (hbox); have n2_ := zA1.mk ((by rw [hg]; exact (zAb (by repeat (first | (with_reducible first | exact HB.out | apply zA2 | apply zA0 | apply zA3) | exact HB.out))) : w.heap.size ≤ gb132)); have n3_ := zA1.mk ((by rw [hg]; exact (zAb (by repeat (first | (with_reducible first | exact HB.out | apply zA2 | apply zA0 | apply zA3) | exact HB.out))) : w.heap.size ≤ gb132)); clear HB; have HB := n0_; have BK132 := n1_; have GW132 := n2_; have GE132 := n3_; clear n0_ n1_ n2_ n3_; clear hb hbox hg; have hcz33_0 : w32.cell? ⟨gb132, 0, none⟩ = some (.int .i64 a0_0) := (zA9 BK132.out 0).trans rfl; have hcz33_1 : w32.cell? ⟨gb132, 1, none⟩ = some (.slice A0_1 l0_1.length c0_1) := (zA9 BK132.out 1).trans rfl; have hfz33_0 := zAd BK132.out 0; have hfz33_1 := zAd BK132.out 1) | ((with_reducible refine zAy (f := 39) rfl ?_); refine zBz (some 7) rfl rfl Tryz.func39 (by kernel_rfl) rfl #[.agg #[.int .i64 a0_0, .slice A0_1 l0_1.length c0_1]] rfl (by (try simp only [List.map_toArray, List.map_cons, List.map_nil]); first | done | rfl | (simp only [List.length_drop, List.length_take]; rfl)) ?_; (with_reducible refine (zAu.calls k a0_0 _ _ l0_1 t133 _ ?side1 ?side2 A2.out).mono ?_); (case side1 => repeat (first | exact (Kd.zAx HR0_1.out HB.out) | (with_reducible refine Kd.zAj ?_ _) | (with_reducible refine Kd.zAr ?_ _) | (with_reducible refine Kd.zB9 ?_))); (case side2 => exact HC0_1.out); rintro e w34 ⟨rfl, hb⟩; refine ⟨_, rfl, ?_⟩; have n0_ := zA1.mk (zAq (g := gb132) (o := .cells #[.int .i64 a0_0, .slice A0_1 l0_1.length c0_1] 28 (0, 0)) (by (with_reducible repeat (first | refine zA7 ?_ _ | refine zA8 ?_ | refine zA6 ?_ _)); exact BK132.out) hb); have n1_ := zA1.mk (zAg (by repeat (first | (with_reducible first | exact HB.out | apply zA2 | apply zA0 | apply zA3 | refine zA5 ?_ GE132.out) | exact HB.out)) hb); clear BK132; clear HB; have BK132 := n0_; have HB := n1_; clear n0_ n1_; (try clear hb); (try clear hb2); (try clear hk); (try clear hi)))
  go_ret
  exact ⟨by first | rfl | (simp [zAp, zAo] <;> rfl) | (simp [*, zAp, zAo] <;> rfl), by repeat (first | (with_reducible first | exact HB.out | apply zA2 | apply zA0 | apply zA3 | refine zA5 ?_ GE132.out) | exact HB.out)⟩
end
end Go.Proofs.YtbghfbhlbfcloaaGreatDoor.PL
namespace Go.Proofs.YtbghfbhlbfcloaaGreatDoor.PL
section
open Go.RowKit Go.Proofs.YtbghfbhlbfcloaaGreatDoorW.PrintWords Go.Proofs.YtbghfbhlbfcloaaGreatDoorW.PrintLast Go.Proofs.YtbghfbhlbfcloaaGreatDoorW.PrintMore
attribute [local go_sem] zBv zBt zC5 zC4 zBo zBn zBu zBs   -- for this text's walks alone
set_option linter.unusedVariables false
set_option linter.unusedSimpArgs false
def zBi.f (k : Nat) (a0_0 : Int) (l0_1 : List (S58)) (l1 : List Int) : Option (List Int × Int × Int) := (zBj.f k a0_0 l0_1).bind fun t149 => (if t149 = 0 then (if (l1.length : Int) = 0 then (some (([] : List Int), 0, 7)) else ((zB0.f k l1 a0_0).bind fun t150 => (if t150 = 0 then ((zB5.f k a0_0 l0_1).bind fun t151 => ((zAw.f k l1).bind fun t154 => (some (t151, t154, 0)))) else (some (([] : List Int), 0, t150))))) else (some (([] : List Int), 0, t149)))
theorem zBi.mono : ∀ a0 a1 a2 k, LeO (zBi.f k a0 a1 a2) (zBi.f (k + 1) a0 a1 a2) := by
 intro a0 a1 a2 k
 unfold zBi.f
 repeat' first
   | (with_reducible exact zBj.mono _ _ _)
   | (with_reducible exact zB5.mono _ _ _)
   | (with_reducible exact zAw.mono _ _)
   | (with_reducible exact zB0.mono _ _ _)
   | (with_reducible exact LeO.refl _)
   | (with_reducible exact LeO.none _)
   | (with_reducible refine LeO.ite ?_ ?_)
   | (with_reducible refine LeO.bind ?_ (fun _ => ?_))
set_option maxHeartbeats 8000000 in
set_option maxRecDepth 100000 in
theorem zBi.calls (k : Nat) (a0_0 : Int) (A0_1 : Option Addr) (c0_1 : Nat) (l0_1 : List (S58)) (A1 : Option Addr) (c1 : Nat) (l1 : List Int) (r1 : List Int) (r2 : Int) (r3 : Int) (w : World) (hr0_1 : Kd.C k58 w A0_1 l0_1.length l0_1) (hc0_1 : l0_1.length ≤ c0_1) (hr1 : Kd.C (Kd.int .i64) w A1 l1.length l1) (hc1 : l1.length ≤ c1) (h : zBi.f k a0_0 l0_1 l1 = some (r1, r2, r3)) :
  Calls Tryz.prog 27 #[.agg #[.int .i64 a0_0, .slice A0_1 l0_1.length c0_1], .slice A1 l1.length c1] w fun e w' => ∃ v0_ : Value, e = .returned (.tuple #[v0_, .int .u64 r2, .int .i64 r3]) ∧ Kd.R (Kd.int .u64) 65 w' w.heap.size (fun _ => True) v0_ r1 ∧ Below w.heap.size w w' := by
 have hu28 := Tryz.underlying28
 have HR0_1 := zA1.mk hr0_1
 have HC0_1 := zA1.mk hc0_1
 clear hr0_1 hc0_1
 have HR1 := zA1.mk hr1
 have HC1 := zA1.mk hc1
 clear hr1 hc1
 have HB := zA1.mk (Below.refl w.heap.size w)
 have H : ((zBj.f k a0_0 l0_1).bind fun t149 => (if t149 = 0 then (if (l1.length : Int) = 0 then (some (([] : List Int), 0, 7)) else ((zB0.f k l1 a0_0).bind fun t150 => (if t150 = 0 then ((zB5.f k a0_0 l0_1).bind fun t151 => ((zAw.f k l1).bind fun t154 => (some (t151, t154, 0)))) else (some (([] : List Int), 0, t150))))) else (some (([] : List Int), 0, t149)))) = some (r1, r2, r3) := h
 clear h
 replace H := Option.bind_eq_some_iff.mp H
 obtain ⟨t149, A30, H⟩ := H
 replace H : (if t149 = 0 then (if (l1.length : Int) = 0 then (some (([] : List Int), 0, 7)) else ((zB0.f k l1 a0_0).bind fun t150 => (if t150 = 0 then ((zB5.f k a0_0 l0_1).bind fun t151 => ((zAw.f k l1).bind fun t154 => (some (t151, t154, 0)))) else (some (([] : List Int), 0, t150))))) else (some (([] : List Int), 0, t149))) = some (r1, r2, r3) := H
 have A3 := zA1.mk A30
 clear A30
 by_cases c4 : t149 = 0
 ·rw [if_pos c4] at H
  have c4b0 : (t149 == 0) = true := beq_iff_eq.mpr c4
  have c4b1 : (t149 != 0) = false := bne_eq_false_iff_eq.mpr c4
  clear c4
  by_cases c5 : (l1.length : Int) = 0
  ·rw [if_pos c5] at H
   have c5b0 : ((l1.length : Int) == 0) = true := beq_iff_eq.mpr c5
   have c5b1 : ((l1.length : Int) != 0) = false := bne_eq_false_iff_eq.mpr c5
   clear c5
   simp only [Option.some.injEq, Prod.mk.injEq] at H
   obtain ⟨rfl, rfl, rfl⟩ := H
   go_enter Tryz.func27, Tryz.ntmps27
   go_wp2_with (first | ((with_reducible refine zBk (N := 2) rfl ?_); refine zBl ?hg (N := 2) ?hd (cs := #[.int .i64 a0_0, .slice A0_1 l0_1.length c0_1]) (t := 28) ?hr ?_; (case hd => rfl); (case hg => rfl); (case hr => first | (go_simp; done) | (go_simp; rfl)); intro gb148 hg w6 hbox hb; have n0_ := zA1.mk (zAg (by repeat (first | (with_reducible first | exact HB.out | apply zA2 | apply zA0 | apply zA3) | exact HB.out)) hb); have n1_ := zA1.mk (hbox); have n2_ := zA1.mk ((by rw [hg]; exact (zAb (by repeat (first | (with_reducible first | exact HB.out | apply zA2 | apply zA0 | apply zA3) | exact HB.out))) : w.heap.size ≤ gb148)); have n3_ := zA1.mk ((by rw [hg]; exact (zAb (by repeat (first | (with_reducible first | exact HB.out | apply zA2 | apply zA0 | apply zA3) | exact HB.out))) : w.heap.size ≤ gb148)); clear HB; have HB := n0_; have BK148 := n1_; have GW148 := n2_; have GE148 := n3_; clear n0_ n1_ n2_ n3_; clear hb hbox hg; have hcz7_0 : w6.cell? ⟨gb148, 0, none⟩ = some (.int .i64 a0_0) := (zA9 BK148.out 0).trans rfl; have hcz7_1 : w6.cell? ⟨gb148, 1, none⟩ = some (.slice A0_1 l0_1.length c0_1) := (zA9 BK148.out 1).trans rfl; have hfz7_0 := zAd BK148.out 0; have hfz7_1 := zAd BK148.out 1) | ((with_reducible refine zAy (f := 21) rfl ?_); refine zBz (some 10) rfl rfl Tryz.func21 (by kernel_rfl) rfl #[.agg #[.int .i64 a0_0, .slice A0_1 l0_1.length c0_1]] rfl (by (try simp only [List.map_toArray, List.map_cons, List.map_nil]); first | done | rfl | (simp only [List.length_drop, List.length_take]; rfl)) ?_; (with_reducible refine (zBj.calls k a0_0 _ _ l0_1 t149 _ ?side1 ?side2 A3.out).mono ?_); (case side1 => repeat (first | exact (Kd.zAx HR0_1.out HB.out) | (with_reducible refine Kd.zAj ?_ _) | (with_reducible refine Kd.zAr ?_ _) | (with_reducible refine Kd.zB9 ?_))); (case side2 => exact HC0_1.out); rintro e w8 ⟨rfl, hb⟩; refine ⟨_, rfl, ?_⟩; have n0_ := zA1.mk (zAq (g := gb148) (o := .cells #[.int .i64 a0_0, .slice A0_1 l0_1.length c0_1] 28 (0, 0)) (by (with_reducible repeat (first | refine zA7 ?_ _ | refine zA8 ?_ | refine zA6 ?_ _)); exact BK148.out) hb); have n1_ := zA1.mk (zAg (by repeat (first | (with_reducible first | exact HB.out | apply zA2 | apply zA0 | apply zA3 | refine zA5 ?_ GE148.out) | exact HB.out)) hb); clear BK148; clear HB; have BK148 := n0_; have HB := n1_; clear n0_ n1_; (try clear hb); (try clear hb2); (try clear hk); (try clear hi)))
   go_ret3
   exact ⟨_, by first | rfl | (simp [zAp, zAo] <;> rfl) | (simp [*, zAp, zAo] <;> rfl), by first | exact Kd.R_nil _ _ _ _ _ | exact Kd.N_nil _ _ _ _ _ | exact Kd.V_nil _ _ _ _ _ | exact Kd.Q_nil _ _ _ _ _ | exact Kd.S_nil _ _ _ _ _, by repeat (first | (with_reducible first | exact HB.out | apply zA2 | apply zA0 | apply zA3 | refine zA5 ?_ GE148.out) | exact HB.out)⟩
  ·rw [if_neg c5] at H
   have c5b0 : ((l1.length : Int) == 0) = false := beq_eq_false_iff_ne.mpr c5
   have c5b1 : ((l1.length : Int) != 0) = true := bne_iff_ne.mpr c5
   have c5b2 : ¬ (l1 = []) := fun h_ => c5 (by rw [h_]; rfl)
   replace H := Option.bind_eq_some_iff.mp H
   obtain ⟨t150, A90, H⟩ := H
   replace H : (if t150 = 0 then ((zB5.f k a0_0 l0_1).bind fun t151 => ((zAw.f k l1).bind fun t154 => (some (t151, t154, 0)))) else (some (([] : List Int), 0, t150))) = some (r1, r2, r3) := H
   have A9 := zA1.mk A90
   clear A90
   by_cases c10 : t150 = 0
   ·rw [if_pos c10] at H
    have c10b0 : (t150 == 0) = true := beq_iff_eq.mpr c10
    have c10b1 : (t150 != 0) = false := bne_eq_false_iff_eq.mpr c10
    clear c10
    replace H := Option.bind_eq_some_iff.mp H
    obtain ⟨t151, A110, H⟩ := H
    replace H : ((zAw.f k l1).bind fun t154 => (some (t151, t154, 0))) = some (r1, r2, r3) := H
    have A11 := zA1.mk A110
    clear A110
    replace H := Option.bind_eq_some_iff.mp H
    obtain ⟨t154, A120, H⟩ := H
    replace H : (some (t151, t154, 0)) = some (r1, r2, r3) := H
    have A12 := zA1.mk A120
    clear A120
    simp only [Option.some.injEq, Prod.mk.injEq] at H
    obtain ⟨rfl, rfl, rfl⟩ := H
    go_enter Tryz.func27, Tryz.ntmps27
    go_wp2_with (first | ((with_reducible refine zBk (N := 2) rfl ?_); refine zBl ?hg (N := 2) ?hd (cs := #[.int .i64 a0_0, .slice A0_1 l0_1.length c0_1]) (t := 28) ?hr ?_; (case hd => rfl); (case hg => rfl); (case hr => first | (go_simp; done) | (go_simp; rfl)); intro gb148 hg w13 hbox hb; have n0_ := zA1.mk (zAg (by repeat (first | (with_reducible first | exact HB.out | apply zA2 | apply zA0 | apply zA3) | exact HB.out)) hb); have n1_ := zA1.mk (hbox); have n2_ := zA1.mk ((by rw [hg]; exact (zAb (by repeat (first | (with_reducible first | exact HB.out | apply zA2 | apply zA0 | apply zA3) | exact HB.out))) : w.heap.size ≤ gb148)); have n3_ := zA1.mk ((by rw [hg]; exact (zAb (by repeat (first | (with_reducible first | exact HB.out | apply zA2 | apply zA0 | apply zA3) | exact HB.out))) : w.heap.size ≤ gb148)); clear HB; have HB := n0_; have BK148 := n1_; have GW148 := n2_; have GE148 := n3_; clear n0_ n1_ n2_ n3_; clear hb hbox hg; have hcz14_0 : w13.cell? ⟨gb148, 0, none⟩ = some (.int .i64 a0_0) := (zA9 BK148.out 0).trans rfl; have hcz14_1 : w13.cell? ⟨gb148, 1, none⟩ = some (.slice A0_1 l0_1.length c0_1) := (zA9 BK148.out 1).trans rfl; have hfz14_0 := zAd BK148.out 0; have hfz14_1 := zAd BK148.out 1) | ((with_reducible refine zAy (f := 21) rfl ?_); refine zBz (some 10) rfl rfl Tryz.func21 (by kernel_rfl) rfl #[.agg #[.int .i64 a0_0, .slice A0_1 l0_1.length c0_1]] rfl (by (try simp only [List.map_toArray, List.map_cons, List.map_nil]); first | done | rfl | (simp only [List.length_drop, List.length_take]; rfl)) ?_; (with_reducible refine (zBj.calls k a0_0 _ _ l0_1 t149 _ ?side1 ?side2 A3.out).mono ?_); (case side1 => repeat (first | exact (Kd.zAx HR0_1.out HB.out) | (with_reducible refine Kd.zAj ?_ _) | (with_reducible refine Kd.zAr ?_ _) | (with_reducible refine Kd.zB9 ?_))); (case side2 => exact HC0_1.out); rintro e w15 ⟨rfl, hb⟩; refine ⟨_, rfl, ?_⟩; have n0_ := zA1.mk (zAq (g := gb148) (o := .cells #[.int .i64 a0_0, .slice A0_1 l0_1.length c0_1] 28 (0, 0)) (by (with_reducible repeat (first | refine zA7 ?_ _ | refine zA8 ?_ | refine zA6 ?_ _)); exact BK148.out) hb); have n1_ := zA1.mk (zAg (by repeat (first | (with_reducible first | exact HB.out | apply zA2 | apply zA0 | apply zA3 | refine zA5 ?_ GE148.out) | exact HB.out)) hb); clear BK148; clear HB; have BK148 := n0_; have HB := n1_; clear n0_ n1_; (try clear hb); (try clear hb2); (try clear hk); (try clear hi); have hcz16_0 : w15.cell? ⟨gb148, 0, none⟩ = some (.int .i64 a0_0) := (zA9 BK148.out 0).trans rfl; have hcz16_1 : w15.cell? ⟨gb148, 1, none⟩ = some (.slice A0_1 l0_1.length c0_1) := (zA9 BK148.out 1).trans rfl; have hfz16_0 := zAd BK148.out 0; have hfz16_1 := zAd BK148.out 1) | ((with_reducible refine zAy (f := 49) rfl ?_); refine zBz (some 20) rfl rfl Tryz.func49 (by kernel_rfl) rfl #[.slice A1 l1.length c1, .int .i64 a0_0] rfl (by (try simp only [List.map_toArray, List.map_cons, List.map_nil]); first | done | rfl | (simp only [List.length_drop, List.length_take]; rfl)) ?_; (with_reducible refine (zB0.calls k _ _ l1 a0_0 t150 _ ?side1 ?side2 A9.out).mono ?_); (case side1 => repeat (first | exact (Kd.zAx HR1.out HB.out) | (with_reducible refine Kd.zAj ?_ _) | (with_reducible refine Kd.zAr ?_ _) | (with_reducible refine Kd.zB9 ?_))); (case side2 => exact HC1.out); rintro e w' ⟨rfl, ⟨nd, rfl⟩⟩; refine ⟨_, rfl, ?_⟩) | ((with_reducible refine zAy (f := 50) rfl ?_); refine zBz (some 25) rfl rfl Tryz.func50 (by kernel_rfl) rfl #[.agg #[.int .i64 a0_0, .slice A0_1 l0_1.length c0_1]] rfl (by (try simp only [List.map_toArray, List.map_cons, List.map_nil]); first | done | rfl | (simp only [List.length_drop, List.length_take]; rfl)) ?_; (with_reducible refine (zB5.calls k a0_0 _ _ l0_1 t151 _ ?side1 ?side2 A11.out).mono ?_); (case side1 => repeat (first | exact (Kd.zAx HR0_1.out (by repeat (first | (with_reducible first | exact HB.out | apply zA2 | apply zA0 | apply zA3 | refine zA5 ?_ GE148.out) | exact HB.out))) | (with_reducible refine Kd.zAj ?_ _) | (with_reducible refine Kd.zAr ?_ _) | (with_reducible refine Kd.zB9 ?_))); (case side2 => exact HC0_1.out); rintro e w17 ⟨v152, rfl, ho0, hb⟩; refine ⟨_, rfl, ?_⟩; have n0_ := zA1.mk (Kd.R_lower ho0 (zAb (by repeat (first | (with_reducible first | exact HB.out | apply zA2 | apply zA0 | apply zA3 | refine zA5 ?_ GE148.out) | exact HB.out)))); have n1_ := zA1.mk (zAq (g := gb148) (o := .cells #[.int .i64 a0_0, .slice A0_1 l0_1.length c0_1] 28 (0, 0)) (by (with_reducible repeat (first | refine zA7 ?_ _ | refine zA8 ?_ | refine zA6 ?_ _)); exact BK148.out) hb); have n2_ := zA1.mk (zAg (by repeat (first | (with_reducible first | exact HB.out | apply zA2 | apply zA0 | apply zA3 | refine zA5 ?_ GE148.out) | exact HB.out)) hb); clear BK148; clear HB; have HO153 := n0_; have BK148 := n1_; have HB := n2_; clear n0_ n1_ n2_; (try clear hb); (try clear hb2); (try clear hk); (try clear hi); (try clear ho0)) | ((with_reducible refine zAy (f := 51) rfl ?_); refine zBz (some 27) rfl rfl Tryz.func51 (by kernel_rfl) rfl #[.slice A1 l1.length c1] rfl (by (try simp only [List.map_toArray, List.map_cons, List.map_nil]); first | done | rfl | (simp only [List.length_drop, List.length_take]; rfl)) ?_; (with_reducible refine (zAw.calls k _ _ l1 t154 _ ?side1 ?side2 A12.out).mono ?_); (case side1 => repeat (first | exact (Kd.zAx HR1.out HB.out) | (with_reducible refine Kd.zAj ?_ _) | (with_reducible refine Kd.zAr ?_ _) | (with_reducible refine Kd.zB9 ?_))); (case side2 => exact HC1.out); rintro e w' ⟨rfl, ⟨nd, rfl⟩⟩; refine ⟨_, rfl, ?_⟩))
    go_ret3
    exact ⟨_, by first | rfl | (simp [zAp, zAo] <;> rfl) | (simp [*, zAp, zAo] <;> rfl), by (with_reducible repeat (first | apply Kd.zAf | apply Kd.zAe | apply Kd.zAh)); exact HO153.out, by repeat (first | (with_reducible first | exact HB.out | apply zA2 | apply zA0 | apply zA3 | refine zA5 ?_ GE148.out) | exact HB.out)⟩
   ·rw [if_neg c10] at H
    have c10b0 : (t150 == 0) = false := beq_eq_false_iff_ne.mpr c10
    have c10b1 : (t150 != 0) = true := bne_iff_ne.mpr c10
    simp only [Option.some.injEq, Prod.mk.injEq] at H
    obtain ⟨rfl, rfl, rfl⟩ := H
    go_enter Tryz.func27, Tryz.ntmps27
    go_wp2_with (first | ((with_reducible refine zBk (N := 2) rfl ?_); refine zBl ?hg (N := 2) ?hd (cs := #[.int .i64 a0_0, .slice A0_1 l0_1.length c0_1]) (t := 28) ?hr ?_; (case hd => rfl); (case hg => rfl); (case hr => first | (go_simp; done) | (go_simp; rfl)); intro gb148 hg w18 hbox hb; have n0_ := zA1.mk (zAg (by repeat (first | (with_reducible first | exact HB.out | apply zA2 | apply zA0 | apply zA3) | exact HB.out)) hb); have n1_ := zA1.mk (hbox); have n2_ := zA1.mk ((by rw [hg]; exact (zAb (by repeat (first | (with_reducible first | exact HB.out | apply zA2 | apply zA0 | apply zA3) | exact HB.out))) : w.heap.size ≤ gb148)); have n3_ := zA1.mk ((by rw [hg]; exact (zAb (by repeat (first | (with_reducible first | exact HB.out | apply zA2 | apply zA0 | apply zA3) | exact HB.out))) : w.heap.size ≤ gb148)); clear HB; have HB := n0_; have BK148 := n1_; have GW148 := n2_; have GE148 := n3_; clear n0_ n1_ n2_ n3_; clear hb hbox hg; have hcz19_0 : w18.cell? ⟨gb148, 0, none⟩ = some (.int .i64 a0_0) := (zA9 BK148.out 0).trans rfl; have hcz19_1 : w18.cell? ⟨gb148, 1, none⟩ = some (.slice A0_1 l0_1.length c0_1) := (zA9 BK148.out 1).trans rfl; have hfz19_0 := zAd BK148.out 0; have hfz19_1 := zAd BK148.out 1) | ((with_reducible refine zAy (f := 21) rfl ?_); refine zBz (some 10) rfl rfl Tryz.func21 (by kernel_rfl) rfl #[.agg #[.int .i64 a0_0, .slice A0_1 l0_1.length c0_1]] rfl (by (try simp only [List.map_toArray, List.map_cons, List.map_nil]); first | done | rfl | (simp only [List.length_drop, List.length_take]; rfl)) ?_; (with_reducible refine (zBj.calls k a0_0 _ _ l0_1 t149 _ ?side1 ?side2 A3.out).mono ?_); (case side1 => repeat (first | exact (Kd.zAx HR0_1.out HB.out) | (with_reducible refine Kd.zAj ?_ _) | (with_reducible refine Kd.zAr ?_ _) | (with_reducible refine Kd.zB9 ?_))); (case side2 => exact HC0_1.out); rintro e w20 ⟨rfl, hb⟩; refine ⟨_, rfl, ?_⟩; have n0_ := zA1.mk (zAq (g := gb148) (o := .cells #[.int .i64 a0_0, .slice A0_1 l0_1.length c0_1] 28 (0, 0)) (by (with_reducible repeat (first | refine zA7 ?_ _ | refine zA8 ?_ | refine zA6 ?_ _)); exact BK148.out) hb); have n1_ := zA1.mk (zAg (by repeat (first | (with_reducible first | exact HB.out | apply zA2 | apply zA0 | apply zA3 | refine zA5 ?_ GE148.out) | exact HB.out)) hb); clear BK148; clear HB; have BK148 := n0_; have HB := n1_; clear n0_ n1_; (try clear hb); (try clear hb2); (try clear hk); (try clear hi); have hcz21_0 : w20.cell? ⟨gb148, 0, none⟩ = some (.int .i64 a0_0) := (zA9 BK148.out 0).trans rfl; have hcz21_1 : w20.cell? ⟨gb148, 1, none⟩ = some (.slice A0_1 l0_1.length c0_1) := (zA9 BK148.out 1).trans rfl; have hfz21_0 := zAd BK148.out 0; have hfz21_1 := zAd BK148.out 1) | ((with_reducible refine zAy (f := 49) rfl ?_); refine zBz (some 20) rfl rfl Tryz.func49 (by kernel_rfl) rfl #[.slice A1 l1.length c1, .int .i64 a0_0] rfl (by (try simp only [List.map_toArray, List.map_cons, List.map_nil]); first | done | rfl | (simp only [List.length_drop, List.length_take]; rfl)) ?_; (with_reducible refine (zB0.calls k _ _ l1 a0_0 t150 _ ?side1 ?side2 A9.out).mono ?_); (case side1 => repeat (first | exact (Kd.zAx HR1.out HB.out) | (with_reducible refine Kd.zAj ?_ _) | (with_reducible refine Kd.zAr ?_ _) | (with_reducible refine Kd.zB9 ?_))); (case side2 => exact HC1.out); rintro e w' ⟨rfl, ⟨nd, rfl⟩⟩; refine ⟨_, rfl, ?_⟩))
    go_ret3
    exact ⟨_, by first | rfl | (simp [zAp, zAo] <;> rfl) | (simp [*, zAp, zAo] <;> rfl), by first | exact Kd.R_nil _ _ _ _ _ | exact Kd.N_nil _ _ _ _ _ | exact Kd.V_nil _ _ _ _ _ | exact Kd.Q_nil _ _ _ _ _ | exact Kd.S_nil _ _ _ _ _, by repeat (first | (with_reducible first | exact HB.out | apply zA2 | apply zA0 | apply zA3 | refine zA5 ?_ GE148.out) | exact HB.out)⟩
 ·rw [if_neg c4] at H
  have c4b0 : (t149 == 0) = false := beq_eq_false_iff_ne.mpr c4
  have c4b1 : (t149 != 0) = true := bne_iff_ne.mpr c4
  simp only [Option.some.injEq, Prod.mk.injEq] at H
  obtain ⟨rfl, rfl, rfl⟩ := H
  go_enter Tryz.func27, Tryz.ntmps27
  go_wp2_with (first | ((with_reducible refine zBk (N := 2) rfl ?_); refine zBl ?hg (N := 2) ?hd (cs := #[.int .i64 a0_0, .slice A0_1 l0_1.length c0_1]) (t := 28) ?hr ?_; (case hd => rfl); (case hg => rfl); (case hr => first | (go_simp; done) | (go_simp; rfl)); intro gb148 hg w22 hbox hb; have n0_ := zA1.mk (zAg (by repeat (first | (with_reducible first | exact HB.out | apply zA2 | apply zA0 | apply zA3) | exact HB.out)) hb); have n1_ := zA1.mk (hbox); have n2_ := zA1.mk ((by rw [hg]; exact (zAb (by repeat (first | (with_reducible first | exact HB.out | apply zA2 | apply zA0 | apply zA3) | exact HB.out))) : w.heap.size ≤ gb148)); have n3_ := zA1.mk ((by rw [hg]; exact (zAb (by repeat (first | (with_reducible first | exact HB.out | apply zA2 | apply zA0 | apply zA3) | exact HB.out))) : w.heap.size ≤ gb148)); clear HB; have HB := n0_; have BK148 := n1_; have GW148 := n2_; have GE148 := n3_; clear n0_ n1_ n2_ n3_; clear hb hbox hg; have hcz23_0 : w22.cell? ⟨gb148, 0, none⟩ = some (.int .i64 a0_0) := (zA9 BK148.out 0).trans rfl; have hcz23_1 : w22.cell? ⟨gb148, 1, none⟩ = some (.slice A0_1 l0_1.length c0_1) := (zA9 BK148.out 1).trans rfl; have hfz23_0 := zAd BK148.out 0; have hfz23_1 := zAd BK148.out 1) | ((with_reducible refine zAy (f := 21) rfl ?_); refine zBz (some 10) rfl rfl Tryz.func21 (by kernel_rfl) rfl #[.agg #[.int .i64 a0_0, .slice A0_1 l0_1.length c0_1]] rfl (by (try simp only [List.map_toArray, List.map_cons, List.map_nil]); first | done | rfl | (simp only [List.length_drop, List.length_take]; rfl)) ?_; (with_reducible refine (zBj.calls k a0_0 _ _ l0_1 t149 _ ?side1 ?side2 A3.out).mono ?_); (case side1 => repeat (first | exact (Kd.zAx HR0_1.out HB.out) | (with_reducible refine Kd.zAj ?_ _) | (with_reducible refine Kd.zAr ?_ _) | (with_reducible refine Kd.zB9 ?_))); (case side2 => exact HC0_1.out); rintro e w24 ⟨rfl, hb⟩; refine ⟨_, rfl, ?_⟩; have n0_ := zA1.mk (zAq (g := gb148) (o := .cells #[.int .i64 a0_0, .slice A0_1 l0_1.length c0_1] 28 (0, 0)) (by (with_reducible repeat (first | refine zA7 ?_ _ | refine zA8 ?_ | refine zA6 ?_ _)); exact BK148.out) hb); have n1_ := zA1.mk (zAg (by repeat (first | (with_reducible first | exact HB.out | apply zA2 | apply zA0 | apply zA3 | refine zA5 ?_ GE148.out) | exact HB.out)) hb); clear BK148; clear HB; have BK148 := n0_; have HB := n1_; clear n0_ n1_; (try clear hb); (try clear hb2); (try clear hk); (try clear hi)))
  go_ret3
  exact ⟨_, by first | rfl | (simp [zAp, zAo] <;> rfl) | (simp [*, zAp, zAo] <;> rfl), by first | exact Kd.R_nil _ _ _ _ _ | exact Kd.N_nil _ _ _ _ _ | exact Kd.V_nil _ _ _ _ _ | exact Kd.Q_nil _ _ _ _ _ | exact Kd.S_nil _ _ _ _ _, by repeat (first | (with_reducible first | exact HB.out | apply zA2 | apply zA0 | apply zA3 | refine zA5 ?_ GE148.out) | exact HB.out)⟩
end
end Go.Proofs.YtbghfbhlbfcloaaGreatDoor.PL
namespace Go.Proofs.YtbghfbhlbfcloaaGreatDoor.PL
section
set_option linter.unusedVariables false
set_option linter.unusedSimpArgs false
open Go.RowKit Go.Proofs.YtbghfbhlbfcloaaGreatDoorW.PrintWords Go.Proofs.YtbghfbhlbfcloaaGreatDoorW.PrintLast Go.Proofs.YtbghfbhlbfcloaaGreatDoorW.PrintMore
def tb (x : Int) (j : Nat) : Bool := decide (Go.bits .and .u16 (shr .u16 x (j : Int)) 1 = 1)
def row (t : Nat → Bool) (x4 x5 x6 : Nat) : Nat → List S58
 | 0 => []
 | c + 1 => (if t x4 = true then [⟨(x6 : Int), (x5 : Int)⟩, ⟨(x5 : Int), (x6 : Int)⟩] else []) ++ row t (x4 + 1) x5 (x6 + 1) c
theorem row_len (t : Nat → Bool) : ∀ (c x4 x5 x6 : Nat), (row t x4 x5 x6 c).length ≤ 2 * c
 | 0, _, _, _ => by simp [row]
 | c + 1, x4, x5, x6 => by
  have := row_len t c (x4 + 1) x5 (x6 + 1)
  unfold row
  rw [List.length_append]
  split
  ·simp only [List.length_cons, List.length_nil]; omega
  ·simp only [List.length_nil]; omega
theorem pairs_l1 (x0 : Int) (x5 : Nat) (h5 : x5 < 10) : ∀ (c x4 x6 : Nat) (x3 : List S58), x6 + c = x5 → x4 + c < 100 → x3.length + 2 * c < 1000 → ∀ k, c < k →
  zAl.l1 k x0 x3 (x4 : Int) (x5 : Int) (x6 : Int) = zAl.l0 (k - c - 1) x0 (x3 ++ row (tb x0) x4 x5 x6 c) ((x4 + c : Nat) : Int) ((x5 + 1 : Nat) : Int)
 | 0, x4, x6, x3, he, h4, h3, k, hk => by
  obtain ⟨k, rfl⟩ : ∃ q, k = q + 1 := ⟨k - 1, by omega⟩
  rw [zAl.l1, if_neg (by omega), wr1 x5 (by omega)]
  simp [row]
 | c + 1, x4, x6, x3, he, h4, h3, k, hk => by
  obtain ⟨k, rfl⟩ : ∃ q, k = q + 1 := ⟨k - 1, by omega⟩
  rw [zAl.l1, if_pos (by omega), if_pos (by omega), wr1 x4 (by omega), wr1 x6 (by omega)]
  have e : k + 1 - (c + 1) - 1 = k - c - 1 := by omega
  have e2 : x4 + 1 + c = x4 + (c + 1) := by omega
  by_cases ht : Go.bits .and .u16 (shr .u16 x0 (x4 : Int)) 1 = 1
  ·have htb : tb x0 x4 = true := decide_eq_true ht
   rw [if_pos ht, Option.bind_some, if_pos (by simp; omega)]
   have ih := pairs_l1 x0 x5 h5 c (x4 + 1) (x6 + 1) (x3 ++ [⟨(x6 : Int), (x5 : Int)⟩, ⟨(x5 : Int), (x6 : Int)⟩]) (by omega) (by omega) (by simp; omega) k (by omega)
   rw [ih, row, if_pos htb, List.append_assoc, e, e2]
  ·have htb : tb x0 x4 = false := decide_eq_false ht
   rw [if_neg ht]
   have ih := pairs_l1 x0 x5 h5 c (x4 + 1) (x6 + 1) x3 (by omega) (by omega) (by omega) k (by omega)
   rw [ih, row, htb, if_neg (by decide), e, e2]
   rfl
def U (t : Nat → Bool) : List S58 := row t 0 1 0 1 ++ row t 1 2 0 2 ++ row t 3 3 0 3 ++ row t 6 4 0 4 ++ row t 10 5 0 5
theorem U_len (t : Nat → Bool) : (U t).length ≤ 30 := by
 have h1 := row_len t 1 0 1 0
 have h2 := row_len t 2 1 2 0
 have h3 := row_len t 3 3 3 0
 have h4 := row_len t 4 6 4 0
 have h5 := row_len t 5 10 5 0
 unfold U
 simp only [List.length_append]
 omega
theorem pairs_make (x0 : Int) (k : Nat) (hk : 60 ≤ k) : zAl.f k x0 = (graph_Make.f 6 (U (tb x0))).bind fun t => some (t.1, t.2.1) := by
 obtain ⟨k, rfl⟩ : ∃ q, k = q + 60 := ⟨k - 60, by omega⟩
 have h1 := row_len (tb x0) 1 0 1 0
 have h2 := row_len (tb x0) 2 (0 + 1) (1 + 1) 0
 have h3 := row_len (tb x0) 3 (0 + 1 + 2) (1 + 1 + 1) 0
 have h4 := row_len (tb x0) 4 (0 + 1 + 2 + 3) (1 + 1 + 1 + 1) 0
 have st (k x3 x4 x5) (h : x5 < 6) : zAl.l0 (k + 1) x0 x3 (x4 : Int) ((x5 : Nat) : Int) = zAl.l1 k x0 x3 x4 ((x5 : Nat) : Int) ((0 : Nat) : Int) := by
  rw [zAl.l0, if_pos (by omega)]
  rfl
 have e0 : zAl.f (k + 60) x0 = zAl.l0 (k + 60) x0 [] ((0 : Nat) : Int) ((1 : Nat) : Int) := rfl
 rw [e0, st _ _ _ 1 (by omega), pairs_l1 x0 1 (by omega) 1 0 0 [] (by omega) (by omega) (by simp) _ (by omega)]
 rw [show k + 59 - 1 - 1 = (k + 56) + 1 by omega, st _ _ _ (1 + 1) (by omega), pairs_l1 x0 (1 + 1) (by omega) 2 (0 + 1) 0 _ (by omega) (by omega) (by simp; omega) _ (by omega)]
 rw [show k + 56 - 2 - 1 = (k + 52) + 1 by omega, st _ _ _ (1 + 1 + 1) (by omega), pairs_l1 x0 (1 + 1 + 1) (by omega) 3 (0 + 1 + 2) 0 _ (by omega) (by omega) (by simp only [List.length_append, List.nil_append]; omega) _ (by omega)]
 rw [show k + 52 - 3 - 1 = (k + 47) + 1 by omega, st _ _ _ (1 + 1 + 1 + 1) (by omega), pairs_l1 x0 (1 + 1 + 1 + 1) (by omega) 4 (0 + 1 + 2 + 3) 0 _ (by omega) (by omega) (by simp only [List.length_append, List.nil_append]; omega) _ (by omega)]
 rw [show k + 47 - 4 - 1 = (k + 41) + 1 by omega, st _ _ _ (1 + 1 + 1 + 1 + 1) (by omega), pairs_l1 x0 (1 + 1 + 1 + 1 + 1) (by omega) 5 (0 + 1 + 2 + 3 + 4) 0 _ (by omega) (by omega) (by simp only [List.length_append, List.nil_append]; omega) _ (by omega)]
 rw [show k + 41 - 5 - 1 = (k + 34) + 1 by omega, zAl.l0, if_neg (by decide)]
 rfl
theorem row_sub (t : Nat → Bool) : ∀ (c x4 x5 x6 : Nat), (row t x4 x5 x6 c).Sublist (row (fun _ => true) x4 x5 x6 c)
 | 0, _, _, _ => List.Sublist.refl _
 | c + 1, x4, x5, x6 => by
  unfold row
  refine List.Sublist.append ?_ (row_sub t c _ _ _)
  split
  ·exact List.Sublist.refl _
  ·exact List.nil_sublist _
theorem U_sub (t : Nat → Bool) : (U t).Sublist (U fun _ => true) := by
 unfold U
 exact List.Sublist.append (List.Sublist.append (List.Sublist.append (List.Sublist.append (row_sub t _ _ _ _) (row_sub t _ _ _ _)) (row_sub t _ _ _ _)) (row_sub t _ _ _ _)) (row_sub t _ _ _ _)
theorem U_full : (nodupE (U fun _ => true) && (U fun _ => true).all (okE 6) && (U fun _ => true).all (fun e => !(e.f0 == e.f1))) = true := by kernel_rfl
theorem nodupE_of : ∀ l : List S58, (l.Pairwise fun a b => ¬ (a.f0 = b.f0 ∧ a.f1 = b.f1)) → nodupE l = true
 | [], _ => rfl
 | a :: r, h => by
  unfold nodupE
  rw [nodupE_of r (List.Pairwise.of_cons h), Bool.and_true, List.all_eq_true]
  intro b hb
  have h1 := List.rel_of_pairwise_cons h hb
  simp only [Bool.not_eq_true', Bool.and_eq_false_iff, beq_eq_false_iff_ne]
  by_cases e : a.f0 = b.f0
  ·exact .inr (fun e2 => h1 ⟨e, e2⟩)
  ·exact .inl e
theorem U_nodup (t : Nat → Bool) : nodupE (U t) = true := by
 have h := U_full
 simp only [Bool.and_eq_true] at h
 exact nodupE_of _ ((nodupE_pair _ h.1.1).sublist (U_sub t))
theorem U_ok (t : Nat → Bool) : (U t).all (okE 6) = true := by
 have h := U_full
 simp only [Bool.and_eq_true] at h
 exact List.all_eq_true.2 fun e he => List.all_eq_true.1 h.1.2 e ((U_sub t).subset he)
theorem U_loop (t : Nat → Bool) (e : S58) (he : e ∈ U t) : e.f0 ≠ e.f1 := by
 have h := U_full
 simp only [Bool.and_eq_true] at h
 have := List.all_eq_true.1 h.2 e ((U_sub t).subset he)
 simpa using this
theorem row_sym (t : Nat → Bool) (a b : Int) : ∀ (c x4 x5 x6 : Nat), (⟨a, b⟩ : S58) ∈ row t x4 x5 x6 c → (⟨b, a⟩ : S58) ∈ row t x4 x5 x6 c
 | 0, _, _, _, h => by simp [row] at h
 | c + 1, x4, x5, x6, h => by
  unfold row at h ⊢
  rw [List.mem_append] at h ⊢
  rcases h with h | h
  ·split at h
   ·rename_i ht
    rw [if_pos ht]
    simp only [List.mem_cons, List.not_mem_nil, or_false, S58.mk.injEq] at h ⊢
    rcases h with ⟨rfl, rfl⟩ | ⟨rfl, rfl⟩ <;> simp
   ·simp at h
  ·exact .inr (row_sym t a b c _ _ _ h)
theorem U_sym (t : Nat → Bool) (a b : Int) (h : (⟨a, b⟩ : S58) ∈ U t) : (⟨b, a⟩ : S58) ∈ U t := by
 unfold U at h ⊢
 simp only [List.mem_append] at h ⊢
 rcases h with (((h | h) | h) | h) | h
 ·exact .inl (.inl (.inl (.inl (row_sym t a b _ _ _ _ h))))
 ·exact .inl (.inl (.inl (.inr (row_sym t a b _ _ _ _ h))))
 ·exact .inl (.inl (.inr (row_sym t a b _ _ _ _ h)))
 ·exact .inl (.inr (row_sym t a b _ _ _ _ h))
 ·exact .inr (row_sym t a b _ _ _ _ h)
def Eg (t : Nat → Bool) : List S58 := sortE (U t)
theorem make_f (t : Nat → Bool) : graph_Make.f 6 (U t) = some (6, Eg t, 0) := by
 have hl := U_len t
 show MK.f 6 (U t) = _
 unfold MK.f
 rw [if_pos ⟨by decide, by decide, U_ok t, by omega, U_nodup t⟩]
 rfl
theorem pairs_f (x0 : Int) (k : Nat) (hk : 60 ≤ k) : zAl.f k x0 = some (6, Eg (tb x0)) := by
 rw [pairs_make x0 k hk, make_f]
 rfl
theorem Eg_mem (t : Nat → Bool) (e : S58) : e ∈ Eg t ↔ e ∈ U t := (isort_perm (leC ordE) (U t)).mem_iff
theorem Eg_len (t : Nat → Bool) : (Eg t).length ≤ 30 := by
 have := (isort_perm (leC ordE) (U t)).length_eq
 have h := U_len t
 unfold Eg sortE
 omega
theorem ordE_of {x y : S58} (h : ¬ ordE y x < 0) (hne : ¬ (x.f0 = y.f0 ∧ x.f1 = y.f1)) : ordE x y < 0 := by
 unfold ordE at h ⊢
 split at h <;> (try split at h) <;> (try split at h) <;> (try split at h) <;> split <;> (try split) <;> (try split) <;> (try split) <;> omega
theorem Eg_pair (t : Nat → Bool) : (Eg t).Pairwise fun x y => ordE x y < 0 := by
 have ht : ∀ a b c, leC ordE a b = true → leC ordE b c = true → leC ordE a c = true := by
  intro a b c h1 h2
  have := ordE_swo.ntrans c b a (by simpa [leC, ltOf] using h2) (by simpa [leC, ltOf] using h1)
  simpa [leC, ltOf] using this
 have htot : ∀ a b, (leC ordE a b || leC ordE b a) = true := by
  intro a b
  have l1 := ordE_lt a b
  have l2 := ordE_lt b a
  unfold ltOf at l1 l2
  unfold leC
  rw [l1, l2]
  by_cases h1 : (a.f0 < b.f0 ∨ a.f0 = b.f0 ∧ a.f1 < b.f1)
  ·rw [decide_eq_true h1, decide_eq_false (by omega)]; rfl
  ·rw [decide_eq_false h1]; simp
 have h1 := isort_pair (leC ordE) ht htot (U t)
 have h2 : (isort (leC ordE) (U t)).Pairwise fun a b => ¬ (a.f0 = b.f0 ∧ a.f1 = b.f1) :=
  ((isort_perm (leC ordE) (U t)).pairwise_iff (fun h e => h ⟨e.1.symm, e.2.symm⟩)).2 (nodupE_pair _ (U_nodup t))
 exact (h1.and h2).imp fun h => ordE_of (by simpa [leC] using h.1) h.2
theorem Eg_ok (t : Nat → Bool) (e : S58) (he : e ∈ Eg t) : 0 ≤ e.f0 ∧ e.f0 < 6 ∧ 0 ≤ e.f1 ∧ e.f1 < 6 := by
 have h := List.all_eq_true.1 (U_ok t) e ((Eg_mem t e).1 he)
 simp only [okE, Bool.and_eq_true, decide_eq_true_eq] at h
 exact ⟨h.1.1, h.1.2, h.2.1, h.2.2⟩
theorem check_l0 (E : List S58) (hE : ∀ e ∈ E, 0 ≤ e.f0 ∧ e.f0 < 6 ∧ 0 ≤ e.f1 ∧ e.f1 < 6) (hl : E.length < 1000) : ∀ (c i : Nat), i + c = E.length → ∀ k, c < k → zAu.l0 k E (E.length : Int) (i : Int) 6 E = zAu.l1 (k - c - 1) 1 6 E
 | 0, i, hi, k, hk => by
  obtain ⟨k, rfl⟩ : ∃ q, k = q + 1 := ⟨k - 1, by omega⟩
  rw [zAu.l0, if_neg (by omega)]
  rfl
 | c + 1, i, hi, k, hk => by
  obtain ⟨k, rfl⟩ : ∃ q, k = q + 1 := ⟨k - 1, by omega⟩
  have h := hE E[i] (List.getElem_mem (by omega))
  have hb : ∀ z : Int, 0 ≤ z → z < 6 → zCa.f 6 z = some false := by
   intro z h0 h1
   unfold zCa.f
   rw [if_neg (by omega), decide_eq_false (by omega)]
  rw [zAu.l0, if_pos (by omega), if_pos (by omega), if_pos (by omega), rdE E i (by omega), hb _ h.1 h.2.1, Option.bind_some, if_neg (by decide), hb _ h.2.2.1 h.2.2.2, Option.bind_some, if_neg (by decide), wr1 i (by omega), check_l0 E hE hl c (i + 1) (by omega) k (by omega), show k + 1 - (c + 1) - 1 = k - c - 1 by omega]
theorem check_l1 (E : List S58) (hE : E.Pairwise fun x y => ordE x y < 0) (hl : E.length < 1000) : ∀ (c i : Nat), i + 1 + c = E.length ∨ (c = 0 ∧ E.length ≤ i + 1) → ∀ k, c + 5 < k → zAu.l1 k ((i + 1 : Nat) : Int) 6 E = some 0
 | 0, i, hi, k, hk => by
  obtain ⟨k, rfl⟩ : ∃ q, k = q + 1 := ⟨k - 1, by omega⟩
  rw [zAu.l1, if_neg (by omega)]
 | c + 1, i, hi, k, hk => by
  have hlt : i + 1 < E.length := by omega
  obtain ⟨k, rfl⟩ : ∃ q, k = q + 5 := ⟨k - 5, by omega⟩
  have h := List.pairwise_iff_getElem.1 hE i (i + 1) (by omega) hlt (by omega)
  rw [zAu.l1, if_pos (by omega), wm1 i (by omega), if_pos (by omega), if_pos (by omega), if_pos (by omega), rdE E i (by omega), rdE E (i + 1) hlt, order_f, Option.bind_some, if_neg (by omega), wr1 (i + 1) (by omega), check_l1 E hE hl c (i + 1) (by omega) (k + 4) (by omega)]
theorem gcheck_f (t : Nat → Bool) (k : Nat) (hk : 100 ≤ k) : zAu.f k 6 (Eg t) = some 0 := by
 have hl := Eg_len t
 obtain ⟨k, rfl⟩ : ∃ q, k = q + 1 := ⟨k - 1, by omega⟩
 unfold zAu.f
 rw [if_neg (by decide), zAu.j0, decide_eq_false (by decide), if_neg (by decide), if_neg (by
  rw [show wrap64 ((6 : Int) * 6) = 36 by simp [wrap64]]; omega)]
 have h0 := check_l0 (Eg t) (Eg_ok t) (by omega) (Eg t).length 0 (by omega) k (by omega)
 have h0' : zAu.l0 k (Eg t) ((Eg t).length : Int) 0 6 (Eg t) = zAu.l1 (k - (Eg t).length - 1) 1 6 (Eg t) := h0
 rw [h0']
 have h1 := check_l1 (Eg t) (Eg_pair t) (by omega) ((Eg t).length - 1) 0 (by omega) (k - (Eg t).length - 1) (by omega)
 exact h1
theorem e93_l (E : List S58) (a b : Int) (hl : E.length < 1000) : ∀ (c i : Nat), i + c = E.length → (⟨a, b⟩ : S58) ∈ E.drop i → ∀ k, c < k → ∃ r : Nat, zBp.l0 k E (E.length : Int) (i : Int) a b = some (r : Int)
 | 0, i, hi, hm, k, hk => by rw [List.drop_eq_nil_of_le (by omega)] at hm; simp at hm
 | c + 1, i, hi, hm, k, hk => by
  obtain ⟨k, rfl⟩ : ∃ q, k = q + 1 := ⟨k - 1, by omega⟩
  have hlt : i < E.length := by omega
  rw [zBp.l0, if_pos (by omega), if_pos (by omega), if_pos (by omega), rdE E i hlt]
  by_cases he : (a == E[i].f0 && (b == E[i].f1)) = true
  ·rw [if_pos he]
   exact ⟨i, rfl⟩
  ·rw [if_neg he, wr1 i (by omega)]
   refine e93_l E a b hl c (i + 1) (by omega) ?_ k (by omega)
   rw [List.drop_eq_getElem_cons hlt] at hm
   rcases List.mem_cons.1 hm with h | h
   ·exfalso
    apply he
    rw [← h]
    simp
   ·exact h
theorem lcheck_l (t : Nat → Bool) : ∀ (c i : Nat), i + c = (Eg t).length → ∀ k, c + 60 < k → zBj.l0 k (Eg t) ((Eg t).length : Int) (i : Int) 6 (Eg t) = some 0
 | 0, i, hi, k, hk => by
  obtain ⟨k, rfl⟩ : ∃ q, k = q + 1 := ⟨k - 1, by omega⟩
  rw [zBj.l0, if_neg (by omega)]
 | c + 1, i, hi, k, hk => by
  obtain ⟨k, rfl⟩ : ∃ q, k = q + 1 := ⟨k - 1, by omega⟩
  have hl := Eg_len t
  have hlt : i < (Eg t).length := by omega
  have hm := List.getElem_mem hlt
  have hloop := U_loop t _ ((Eg_mem t _).1 hm)
  have hsym : (⟨(Eg t)[i].f1, (Eg t)[i].f0⟩ : S58) ∈ Eg t := (Eg_mem t _).2 (U_sym t _ _ ((Eg_mem t _).1 hm))
  obtain ⟨r, hr⟩ := e93_l (Eg t) (Eg t)[i].f1 (Eg t)[i].f0 (by omega) (Eg t).length 0 (by omega) hsym k (by omega)
  have h73 : graph_Edge_41.f k (Eg t) (Eg t)[i].f1 (Eg t)[i].f0 = some true := by
   unfold graph_Edge_41.f zBp.f
   rw [show zBp.l0 k (Eg t) ((Eg t).length : Int) 0 (Eg t)[i].f1 (Eg t)[i].f0 = some (r : Int) from hr, Option.bind_some, decide_eq_true (by omega)]
  rw [zBj.l0, if_pos (by omega), if_pos (by omega), if_pos (by omega), rdE (Eg t) i hlt, if_neg hloop, h73, Option.bind_some, if_pos rfl, wr1 i (by omega), lcheck_l t c (i + 1) (by omega) k (by omega)]
theorem lcheck_f (t : Nat → Bool) (k : Nat) (hk : 100 ≤ k) : zBj.f k 6 (Eg t) = some 0 := by
 have hl := Eg_len t
 unfold zBj.f
 rw [gcheck_f t k hk, Option.bind_some, if_pos rfl, if_neg (by decide)]
 exact lcheck_l t (Eg t).length 0 (by omega) k (by omega)
theorem shl_tab : ((List.range 6).all fun i => shl .u64 1 (i : Int) == ((2 ^ i : Nat) : Int)) = true := by kernel_rfl
theorem shl_f (i : Nat) (hi : i < 6) : shl .u64 1 (i : Int) = ((2 ^ i : Nat) : Int) := by
 have h := List.all_eq_true.1 shl_tab i (List.mem_range.2 hi)
 simpa using h
theorem LI_len {A : List Nat} (h : Gd A) : (LI A).length = 6 := by unfold LI; rw [List.length_map]; exact h.1
theorem ad_set {A : List Nat} (h : Gd A) (i v a b : Nat) (hi : i < 6) : ad (A.set i v) a b = if a = i then v.testBit b else ad A a b := by
 unfold ad
 rw [List.getD_eq_getElem?_getD, List.getD_eq_getElem?_getD, List.getElem?_set]
 have := h.1
 by_cases e : i = a
 ·rw [if_pos e, if_pos e.symm, if_pos (by omega)]; rfl
 ·rw [if_neg e, if_neg (fun e2 => e e2.symm)]
theorem linked_l (E : List S58) (hE : ∀ e ∈ E, 0 ≤ e.f0 ∧ e.f0 < 6 ∧ 0 ≤ e.f1 ∧ e.f1 < 6) (hl : E.length < 1000) : ∀ (c i : Nat) (B : List Nat), i + c = E.length → Gd B → ∀ k, c < k →
  ∃ A, Gd A ∧ zB5.l0 k (LI B) E (E.length : Int) (i : Int) = some (LI A) ∧ ∀ a b, a < 6 → b < 6 → (ad A a b = true ↔ ad B a b = true ∨ (⟨(a : Int), (b : Int)⟩ : S58) ∈ E.drop i)
 | 0, i, B, hi, hB, k, hk => by
  obtain ⟨k, rfl⟩ : ∃ q, k = q + 1 := ⟨k - 1, by omega⟩
  refine ⟨B, hB, by rw [zB5.l0, if_neg (by omega)], fun a b _ _ => ?_⟩
  rw [List.drop_eq_nil_of_le (by omega)]
  simp
 | c + 1, i, B, hi, hB, k, hk => by
  obtain ⟨k, rfl⟩ : ∃ q, k = q + 1 := ⟨k - 1, by omega⟩
  have hlt : i < E.length := by omega
  obtain ⟨h0, h1, h2, h3⟩ := hE E[i] (List.getElem_mem hlt)
  obtain ⟨u, hu⟩ : ∃ u : Nat, E[i].f0 = (u : Int) := ⟨E[i].f0.toNat, by omega⟩
  obtain ⟨v, hv⟩ : ∃ v : Nat, E[i].f1 = (v : Int) := ⟨E[i].f1.toNat, by omega⟩
  have hu6 : u < 6 := by omega
  have hv6 : v < 6 := by omega
  have hBu := hB.lt u
  have h2v : 2 ^ v < 64 := Nat.pow_lt_pow_right (m := v) (n := 6) (by decide) hv6
  have hG : Gd (B.set u (B.getD u 0 ||| 2 ^ v)) := ⟨by rw [List.length_set]; exact hB.1, fun a ha => by
   rcases List.mem_or_eq_of_mem_set ha with h | h
   ·exact hB.2 a h
   ·rw [h]; exact Nat.or_lt_two_pow (n := 6) hBu h2v⟩
  obtain ⟨A, hA, hf, hb⟩ := linked_l E hE hl c (i + 1) (B.set u (B.getD u 0 ||| 2 ^ v)) (by omega) hG k (by omega)
  have hset : (LI B).set u (((B.getD u 0 ||| 2 ^ v : Nat)) : Int) = LI (B.set u (B.getD u 0 ||| 2 ^ v)) := by
   unfold LI
   rw [List.map_set]
  refine ⟨A, hA, ?_, fun a b ha hb' => ?_⟩
  ·rw [zB5.l0, if_pos (by omega), if_pos (by omega), if_pos (by omega), rdE E i hlt, hu, hv, if_pos (by omega), if_pos (by rw [LI_len hB]; omega), if_pos (by omega), rdL hB u hu6, shl_f v hv6, orI _ _ hBu h2v, Int.toNat_natCast, hset, wr1 i (by omega)]
   exact hf
  ·rw [hb a b ha hb', ad_set hB u _ a b hu6, List.drop_eq_getElem_cons hlt, List.mem_cons]
   have heq : (⟨(a : Int), (b : Int)⟩ : S58) = E[i] ↔ a = u ∧ b = v := by
    constructor
    ·intro e
     have e1 : (a : Int) = E[i].f0 := by rw [← e]
     have e2 : (b : Int) = E[i].f1 := by rw [← e]
     exact ⟨by omega, by omega⟩
    ·rintro ⟨rfl, rfl⟩
     exact extE (by rw [hu]) (by rw [hv])
   rw [heq]
   by_cases e : a = u
   ·rw [if_pos e, Nat.testBit_or, Nat.testBit_two_pow, Bool.or_eq_true, decide_eq_true_eq]
    subst e
    constructor
    ·rintro ((h | h) | h)
     ·exact .inl h
     ·exact .inr (.inl ⟨rfl, h.symm⟩)
     ·exact .inr (.inr h)
    ·rintro (h | ⟨_, h⟩ | h)
     ·exact .inl (.inl h)
     ·exact .inl (.inr h.symm)
     ·exact .inr h
   ·rw [if_neg e]
    constructor
    ·rintro (h | h)
     ·exact .inl h
     ·exact .inr (.inr h)
    ·rintro (h | ⟨h, _⟩ | h)
     ·exact .inl h
     ·exact absurd h e
     ·exact .inr h
theorem linked_f (t : Nat → Bool) (k : Nat) (hk : 100 ≤ k) : ∃ A, Gd A ∧ zB5.f k 6 (Eg t) = some (LI A) ∧ Ed A (Eg t) ∧ ∀ a b, a < 6 → b < 6 → ad A a b = ad A b a := by
 have hl := Eg_len t
 have hz : Gd [0, 0, 0, 0, 0, 0] := ⟨rfl, fun a ha => by simp at ha; omega⟩
 obtain ⟨A, hA, hf, hb⟩ := linked_l (Eg t) (Eg_ok t) (by omega) (Eg t).length 0 [0, 0, 0, 0, 0, 0] (by omega) hz k (by omega)
 have hb' : ∀ a b, a < 6 → b < 6 → (ad A a b = true ↔ (⟨(a : Int), (b : Int)⟩ : S58) ∈ Eg t) := by
  intro a b ha hb1
  rw [hb a b ha hb1, List.drop_zero]
  constructor
  ·rintro (h | h)
   ·exfalso
    have : ad [0, 0, 0, 0, 0, 0] a b = false := by
     unfold ad
     have : a = 0 ∨ a = 1 ∨ a = 2 ∨ a = 3 ∨ a = 4 ∨ a = 5 := by omega
     rcases this with rfl | rfl | rfl | rfl | rfl | rfl <;> simp
    rw [this] at h
    cases h
   ·exact h
  ·exact .inr
 refine ⟨A, hA, ?_, ⟨by omega, fun a b ha hb1 => ?_⟩, fun a b ha hb1 => ?_⟩
 ·unfold zB5.f
  rw [if_pos (by decide), if_pos (by decide)]
  exact hf
 ·have := hb' a b ha hb1
  cases e : ad A a b with
  | true => exact decide_eq_true (this.1 e)
  | false => exact decide_eq_false (fun h => by rw [this.2 h] at e; cases e)
 ·have h1 := hb' a b ha hb1
  have h2 := hb' b a hb1 ha
  cases e : ad A a b with
  | true => exact (h2.2 ((Eg_mem t _).2 (U_sym t _ _ ((Eg_mem t _).1 (h1.1 e))))).symm
  | false =>
   cases e2 : ad A b a with
   | false => rfl
   | true =>
    rw [h1.2 ((Eg_mem t _).2 (U_sym t _ _ ((Eg_mem t _).1 (h2.1 e2))))] at e
    cases e
theorem ordered_tab : ((List.range 64).all fun m => zB0.f 20 (EI m) 6 == some 0) = true := by kernel_rfl
theorem ordered_f (k : Nat) (hk : 20 ≤ k) (m : Nat) (hm : m < 64) : zB0.f k (EI m) 6 = some 0 := by
 have h := List.all_eq_true.1 ordered_tab m (List.mem_range.2 hm)
 exact up (fun k => zB0.mono (EI m) 6 k) (by simpa using h) k hk
theorem masked_tab : ((List.range 64).all fun m => zAw.f 20 (EI m) == some (m : Int)) = true := by kernel_rfl
theorem masked_f (k : Nat) (hk : 20 ≤ k) (m : Nat) (hm : m < 64) : zAw.f k (EI m) = some (m : Int) := by
 have h := List.all_eq_true.1 masked_tab m (List.mem_range.2 hm)
 exact up (fun k => zAw.mono (EI m) k) (by simpa using h) k hk
theorem EI_pos {m : Nat} (hm : m < 64) (h0 : m ≠ 0) : 0 < (EI m).length := by
 obtain ⟨_, l2, l3, l4⟩ := lo_f m hm h0
 unfold EI
 rw [List.length_map]
 exact List.length_pos_of_mem (El_mem.2 ⟨l3, l2⟩)
theorem opened_f (t : Nat → Bool) (A : List Nat) (m k : Nat) (hm : m < 64) (h0 : m ≠ 0) (hk : 100 ≤ k) (hA : zB5.f k 6 (Eg t) = some (LI A)) : zBi.f k 6 (Eg t) (EI m) = some (LI A, (m : Int), 0) := by
 have hp := EI_pos hm h0
 unfold zBi.f
 rw [lcheck_f t k hk, Option.bind_some, if_pos rfl, if_neg (by omega), ordered_f k (by omega) m hm, Option.bind_some, if_pos rfl, hA, Option.bind_some, masked_f k (by omega) m hm, Option.bind_some]
end
end Go.Proofs.YtbghfbhlbfcloaaGreatDoor.PL
namespace Go.Proofs.YtbghfbhlbfcloaaGreatDoor.PL
section
open Go.RowKit Go.Proofs.YtbghfbhlbfcloaaGreatDoorW.PrintWords Go.Proofs.YtbghfbhlbfcloaaGreatDoorW.PrintLast Go.Proofs.YtbghfbhlbfcloaaGreatDoorW.PrintMore
set_option linter.unusedVariables false
set_option linter.unusedSimpArgs false
section
variable {P : Program} {ops : Array Oper} {Q : Exit → Act → World → Prop}
theorem uponIn_of {o : Oper} {a : Act} {K : Act → World → Prop} {n l : Nat} {r : Result Next} (h : o.upon P a K Q r) : o.uponIn (Fence.wide.inRound l) n P a K Q r := by
 cases r with
 | ok x w =>
  cases x <;> simp only [Oper.upon, Oper.uponIn] at h ⊢ <;> first | exact h | skip
  ·refine ⟨by simp [Fence.wide], CallsIn.inRound l (callsIn_wide.2 (Calls.mono h (fun e w'' he => ?_)))⟩
   cases e <;> exact he
  ·refine ⟨by simp [Fence.wide], fun c cs _ => ?_⟩
   obtain ⟨v, w', hr, hs⟩ := h c cs
   exact ⟨v, w', hr, stepsIn_wide.2 hs⟩
 | halt x w => cases x <;> simp only [Oper.upon, Oper.uponIn] at h ⊢ <;> exact h
theorem wpAnyIn_of (hL : ¬ LetsOut Q) (hnd : ∀ (i : Nat) (o : Oper), ops[i]? = some o → ∀ c, o.op ≠ .defer c) {n l : Nat} : ∀ (fuel : Nat) (listed : Array Bool) (a : Act) (w : World), wpAny P .any ops Q fuel listed a w → wpAnyIn (Fence.wide.inRound l) n P .any ops Q fuel listed a w
 | 0, listed, a, w, h => h
 | fuel + 1, listed, a, w, h => by
  refine ⟨h.1, fun i hi => ?_⟩
  have h1 := h.2 i hi
  unfold wpOp at h1
  unfold wpOpIn
  cases ho : ops[i]? with
  | none =>
   rw [ho] at h1
   exact wpAnyIn_of hL hnd fuel _ a w h1
  | some o =>
   rw [ho] at h1
   simp only at h1 ⊢
   split
   ·rename_i hw
    rw [if_pos hw] at h1
    rcases h1 with h1 | h1
    ·refine ⟨fun _ _ => trivial, ?_⟩
     rw [Oper.semAt_eq _ _ _ (hnd i o ho)]
     exact uponIn_of (Oper.wp_mono (fun a w hh => wpAnyIn_of hL hnd fuel _ a w hh) h1)
    ·exact absurd h1.2 hL
   ·rename_i hw
    rw [if_neg hw] at h1
    exact ⟨fun _ _ => trivial, wpAnyIn_of hL hnd fuel _ _ w h1⟩
theorem start_in {id n l m : Nat} {a : Act} {w : World} {S : World → Prop} {ds : List Nat} (L : Array Bool) (hm : P.follows .mixedOrders = true) (hn : ops.size = n) (hl : Array.replicate n false = L) (hL : ¬ LetsOut Q) (hnd : ∀ (i : Nat) (o : Oper), ops[i]? = some o → ∀ c, o.op ≠ .defer c)
  (hS : S w.drew) (h : S w.drew → zC6 P .any ops Q S ds n L a w.drew) : (Code.region id ops true).wpIn (Fence.wide.inRound l) m P Q a w := by
 subst hn
 subst hl
 exact wpIn_region_any hm (wpAnyIn_of hL hnd _ _ a _ (wpAny_of_last _ _ _ _ (h hS)))
end
end
end Go.Proofs.YtbghfbhlbfcloaaGreatDoor.PL
