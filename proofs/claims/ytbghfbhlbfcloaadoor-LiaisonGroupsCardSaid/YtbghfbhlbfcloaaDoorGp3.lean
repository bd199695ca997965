/- Put together by this session's program pack.py. -/
import Derived.Below
import Derived.Deep.Draws
import Derived.Deep.AppendLies
import Derived.Maps.AppendAt
import Derived.OwnWalk
import Derived.Laws.BytesArg
import Derived.Laws.MakeOwn
import Derived.Laws.OwnMore
import Derived.Deep.OwnRows
import Derived.Tactics
import Derived.Lib.ConvBytes
import Derived.Laws.Slices
import Derived.WalkKit
import Derived.KernelRfl
import Derived.RowKit3
import Derived.Deep.LoopGhost
import Derived.Deep.QuietTactic
import Derived.BigQuiet
import Derived.WideLaws
import Derived.Deep.DeepCutAuto
import Derived.Deep.CutBlock
import Derived.Deep.RegionHeld3
import Derived.Laws.Rows
import Derived.Lib.AppendStr
import Derived.ArgAppend
import Derived.Laws.IdiomCopy
import Derived.OrdersHeld
import Derived.Laws.BitsLemmas
import Derived.RowKit
import Derived.Sort.Grow
import Derived.Shelf.SlicesQ.IndexFunc
import Derived.Shelf.GgClosure.StringsIndexFuncTop
import Derived.Shelf.SlGeneric
import Derived.Ground.SlgfProg
import Derived.Ground.GgwProg
import Derived.Laws.RangeAny
import Derived.Laws.RangeString
import Derived.Shelf.SlSortCmp.InsertionK
import Derived.Ground.SlsfProg
import Derived.Shelf.SlSortCmp.Insertion
import Derived.RangeFuncNested
import Derived.RangeFuncBound
import Derived.RangeFuncCalls
import Derived.RangeFuncLeaves
import Derived.Shelf.Abstract
import Derived.Shelf.RegionOpen
import Derived.OwnWalkIn
import Derived.TacticsInMore
import Derived.LoopNIn
import Derived.LoopIn
import Derived.OrdersIn
import Derived.RangeFuncKeeps
import Derived.Shelf.SlSortCmp.NoneTotal
import Derived.RangeFuncWrites
import Derived.WalkSpells
import Derived.Test.YtbghfbhlbfcloaaDoorGw0
import Derived.Test.YtbghfbhlbfcloaaDoorGp0
import Derived.Test.YtbghfbhlbfcloaaDoorGp1
import Derived.Test.YtbghfbhlbfcloaaDoorGp2
namespace Go.Proofs.YtbghfbhlbfcloaaDoor.PL
section
open Go.RowKit Go.Proofs.YtbghfbhlbfcloaaDoorW.PrintWords Go.Proofs.YtbghfbhlbfcloaaDoorW.PrintLast Go.Proofs.YtbghfbhlbfcloaaDoorW.PrintMore
attribute [local go_sem] zBw zBu zC7 zC6 zBo zBn zBv zBt   -- for this text's walks alone
set_option linter.unusedVariables false
set_option linter.unusedSimpArgs false
def zBy.f (k : Nat) (a0_0 : Int) (a0_1 : Int) (a1_0 : Int) (a1_1 : Int) : Option (Int) := (zCb.f a0_0 a1_0).bind fun t109 => ((zCb.f a0_1 a1_1).bind fun t110 => ((zC0.f k (([t109, t110] : List Int))).bind fun t114 => (some t114)))
theorem zBy.mono : ∀ a0 a1 a2 a3 k, LeO (zBy.f k a0 a1 a2 a3) (zBy.f (k + 1) a0 a1 a2 a3) := by
 intro a0 a1 a2 a3 k
 unfold zBy.f
 repeat' first
   | (with_reducible exact zC0.mono _ _)
   | (with_reducible exact LeO.refl _)
   | (with_reducible exact LeO.none _)
   | (with_reducible refine LeO.ite ?_ ?_)
   | (with_reducible refine LeO.bind ?_ (fun _ => ?_))
def zBy.T1 : Bool × List (List Nat × List Nat) := (true, [([], []), ([0], [0]), ([], []), ([2], [2]), ([1, 3], [1, 3]), ([], []), ([5], [5]), ([], []), ([7], [7]), ([6, 8, 4], [6, 8]), ([4, 9], [4, 9]), ([10, 9], [10]), ([11, 11, 0, 1, 2, 3, 4, 5, 6, 7, 8, 9, 10, 11], [11])])
def zBy.B1 : List Nat := [0, 1, 0, 4, 15, 0, 32, 0, 128, 511, 1023, 2047, 4095]
theorem zBy.tab1 : rtab .any (opsOf Tryd.f64 1) = zBy.T1 := by kernel_rfl
theorem zBy.bits1 : waitsOk zBy.T1.2 zBy.B1 = true := by kernel_rfl
set_option maxHeartbeats 8000000 in
set_option maxRecDepth 100000 in
theorem zBy.exact (k : Nat) (a0_0 : Int) (a0_1 : Int) (a1_0 : Int) (a1_1 : Int) (r : Int) (w : World) (h : zBy.f k a0_0 a0_1 a1_0 a1_1 = some r) :
  Calls Tryd.prog 64 #[.agg #[.int .i64 a0_0, .int .i64 a0_1], .agg #[.int .i64 a1_0, .int .i64 a1_1]] w fun e w' => e = .returned (.int .i64 r) ∧ Below w.heap.size w w' ∧ Gr w w' := by
 have hu68 := Tryd.underlying68
 have HB := zA1.mk (Below.refl w.heap.size w)
 have HX := zA1.mk (Gr.refl w)
 have H : ((zCb.f a0_0 a1_0).bind fun t109 => ((zCb.f a0_1 a1_1).bind fun t110 => ((zC0.f k (([t109, t110] : List Int))).bind fun t114 => (some t114)))) = some r := h
 clear h
 replace H := Option.bind_eq_some_iff.mp H
 obtain ⟨t109, A30, H⟩ := H
 replace H : ((zCb.f a0_1 a1_1).bind fun t110 => ((zC0.f k (([t109, t110] : List Int))).bind fun t114 => (some t114))) = some r := H
 have A3 := zA1.mk A30
 clear A30
 replace H := Option.bind_eq_some_iff.mp H
 obtain ⟨t110, A40, H⟩ := H
 replace H : ((zC0.f k (([t109, t110] : List Int))).bind fun t114 => (some t114)) = some r := H
 have A4 := zA1.mk A40
 clear A40
 obtain ⟨y111, hy111⟩ : ∃ y_ : List Int, y_ = (([t109, t110] : List Int)) := ⟨_, rfl⟩
 replace H : ((zC0.f k y111).bind fun t114 => (some t114)) = some r := by first | (rw [hy111]; with_reducible exact H) | (have H2_ := (Option.bind_some _ _).symm.trans H; rw [hy111]; with_reducible exact H2_) | (have H2_ := (Option.bind_some _ _).symm.trans H; with_reducible exact H2_) | with_reducible exact H | (rw [hy111]; exact H) | exact H
 have Ny111 := zA1.mk hy111
 clear hy111
 replace H := Option.bind_eq_some_iff.mp H
 obtain ⟨t114, A50, H⟩ := H
 replace H : (some t114) = some r := H
 have A5 := zA1.mk A50
 clear A50
 obtain rfl := Option.some.inj H
 go_enter Tryd.func64, Tryd.ntmps64
 try go_wp2_with (first | ((with_reducible refine zBl (N := 2) rfl ?_); refine box_eventG ?hg (N := 2) ?hd (cs := #[.int .i64 a0_0, .int .i64 a0_1]) (t := 68) ?hr ?_; (case hd => rfl); (case hg => rfl); (case hr => first | (go_simp; done) | (go_simp; rfl)); intro gb107 hg w6 hbox hb hgr; have HX0 := zA1.mk (Gr.trans (by repeat (first | (with_reducible first | exact HX.out | apply Gr.alloc | apply Gr.drewN | apply Gr.drew) | exact HX.out)) hgr); clear hgr; clear HX; have HX := HX0; clear HX0; have n0_ := zA1.mk (zAm (by repeat (first | (with_reducible first | exact HB.out | apply zA2 | apply zA0 | apply zA3) | exact HB.out)) hb); have n1_ := zA1.mk (hbox); have n2_ := zA1.mk ((by rw [hg]; exact (zAc (by repeat (first | (with_reducible first | exact HB.out | apply zA2 | apply zA0 | apply zA3) | exact HB.out))) : w.heap.size ≤ gb107)); have n3_ := zA1.mk ((by rw [hg]; exact (zAc (by repeat (first | (with_reducible first | exact HB.out | apply zA2 | apply zA0 | apply zA3) | exact HB.out))) : w.heap.size ≤ gb107)); clear HB; have HB := n0_; have BK107 := n1_; have GW107 := n2_; have GE107 := n3_; clear n0_ n1_ n2_ n3_; clear hb hbox hg) | ((with_reducible refine zBl (N := 3) rfl ?_); refine box_eventG ?hg (N := 3) ?hd (cs := #[.int .i64 a1_0, .int .i64 a1_1]) (t := 68) ?hr ?_; (case hd => rfl); (case hg => rfl); (case hr => first | (go_simp; done) | (go_simp; rfl)); intro gb108 hg w7 hbox hb hgr; have HX0 := zA1.mk (Gr.trans (by repeat (first | (with_reducible first | exact HX.out | apply Gr.alloc | apply Gr.drewN | apply Gr.drew) | exact HX.out)) hgr); clear hgr; clear HX; have HX := HX0; clear HX0; have n0_ := zA1.mk (zBc (g := gb107) (o := .cells #[.int .i64 a0_0, .int .i64 a0_1] 68 (0, 0)) (by (with_reducible repeat (first | refine zAb ?_ _ | refine zAf ?_ | refine zAa ?_ _)); exact BK107.out) hb); have n1_ := zA1.mk (zAm (by repeat (first | (with_reducible first | exact HB.out | apply zA2 | apply zA0 | apply zA3 | refine zA7 ?_ GE107.out) | exact HB.out)) hb); have n2_ := zA1.mk (hbox); have n3_ := zA1.mk ((by rw [hg]; exact (zAc (by repeat (first | (with_reducible first | exact HB.out | apply zA2 | apply zA0 | apply zA3 | refine zA7 ?_ GE107.out) | exact HB.out))) : w.heap.size ≤ gb108)); have n4_ := zA1.mk ((by rw [hg]; exact (zAc (by repeat (first | (with_reducible first | exact HB.out | apply zA2 | apply zA0 | apply zA3 | refine zA7 ?_ GE107.out) | exact HB.out))) : w.heap.size ≤ gb108)); have n5_ := zA1.mk ((by rw [hg]; exact Nat.ne_of_lt (blk_lt (g := gb107) (o := .cells #[.int .i64 a0_0, .int .i64 a0_1] 68 (0, 0)) (by (with_reducible repeat (first | refine zAb ?_ _ | refine zAf ?_ | refine zAa ?_ _)); exact BK107.out)) : gb107 ≠ gb108)); have n6_ := zA1.mk ((by rw [hg]; exact Nat.ne_of_gt (blk_lt (g := gb107) (o := .cells #[.int .i64 a0_0, .int .i64 a0_1] 68 (0, 0)) (by (with_reducible repeat (first | refine zAb ?_ _ | refine zAf ?_ | refine zAa ?_ _)); exact BK107.out)) : gb108 ≠ gb107)); clear BK107; clear HB; have BK107 := n0_; have HB := n1_; have BK108 := n2_; have GW108 := n3_; have GE108 := n4_; have NB107_108 := n5_; have NB108_107 := n6_; clear n0_ n1_ n2_ n3_ n4_ n5_ n6_; clear hb hbox hg))
 have n0_ := zA1.mk (zAf BK107.out)
 have n1_ := zA1.mk (zAf BK108.out)
 have n2_ := zA1.mk (zA3 HB.out)
 have HX0 := zA1.mk (Gr.drew HX.out)
 clear HX
 have HX := HX0
 clear HX0
 clear BK107
 clear BK108
 clear HB
 have BK107 := n0_
 have BK108 := n1_
 have HB := n2_
 clear n0_ n1_ n2_
 refine start_ (n := 13) (S := fun w' => w'.cell? ⟨gb107, 0, none⟩ = some (.int .i64 a0_0) ∧ w'.cell? ⟨gb107, 1, none⟩ = some (.int .i64 a0_1) ∧ w'.cell? ⟨gb108, 0, none⟩ = some (.int .i64 a1_0) ∧ w'.cell? ⟨gb108, 1, none⟩ = some (.int .i64 a1_1)) (ds := []) #[false, false, false, false, false, false, false, false, false, false, false, false, false] (by kernel_rfl) rfl rfl ⟨(zA9 BK107.out 0).trans rfl, (zA9 BK107.out 1).trans rfl, (zA9 BK108.out 0).trans rfl, (zA9 BK108.out 1).trans rfl⟩ (fun hHeld => ?_); refine with_tabW zBy.tab1 zBy.bits1 (fun HT_ HW_ => ?_)
 generalize w7.drew = w8 at BK107 BK108 HB HX hHeld ⊢
 refine pure_ (i := 0) (N := some 5) (v := ?_) (a' := ?_) #[true, false, false, false, false, false, false, false, false, false, false, false, false] rfl rfl (zAq HT_.out (by kernel_rfl)) (fun _ _ _ h => h) (Or.inl ⟨by rfl, ?_⟩) ?_ ?_
 rotate_left
 ·intro w'
  go_simp
  with_reducible rfl
 rotate_left
 ·simp only [Act.put, List.setIfInBounds_toArray, List.set_cons_zero, List.set_cons_succ, i64_w, i32_w]
  rfl
 refine pure_ (i := 2) (N := some 7) (v := ?_) (a' := ?_) #[true, false, true, false, false, false, false, false, false, false, false, false, false] rfl rfl (zAq HT_.out (by kernel_rfl)) (fun _ _ _ h => h) (Or.inl ⟨by rfl, ?_⟩) ?_ ?_
 rotate_left
 ·intro w'
  go_simp
  with_reducible rfl
 rotate_left
 ·simp only [Act.put, List.setIfInBounds_toArray, List.set_cons_zero, List.set_cons_succ, i64_w, i32_w]
  rfl
 refine pure_ (i := 5) (N := some 10) (v := ?_) (a' := ?_) #[true, false, true, false, false, true, false, false, false, false, false, false, false] rfl rfl (zAq HT_.out (by kernel_rfl)) (fun _ _ _ h => h) (Or.inl ⟨by rfl, ?_⟩) ?_ ?_
 rotate_left
 ·intro w'
  go_simp
  with_reducible rfl
 rotate_left
 ·simp only [Act.put, List.setIfInBounds_toArray, List.set_cons_zero, List.set_cons_succ, i64_w, i32_w]
  rfl
 refine pure_ (i := 7) (N := some 12) (v := ?_) (a' := ?_) #[true, false, true, false, false, true, false, true, false, false, false, false, false] rfl rfl (zAq HT_.out (by kernel_rfl)) (fun _ _ _ h => h) (Or.inl ⟨by rfl, ?_⟩) ?_ ?_
 rotate_left
 ·intro w'
  go_simp
  with_reducible rfl
 rotate_left
 ·simp only [Act.put, List.setIfInBounds_toArray, List.set_cons_zero, List.set_cons_succ, i64_w, i32_w]
  rfl
 refine take_ (i := 1) (N := some 6) (v := ?_) (a' := ?_) #[true, true, true, false, false, true, false, true, false, false, false, false, false] rfl rfl (zC3 HT_.out HW_.out (by kernel_rfl)) (fun _ _ _ h => h) (Or.inl ⟨by rfl, ?_⟩) hHeld ?_ ?_
 rotate_left
 ·rintro w' ⟨s0, s1, s2, s3⟩
  go_simp
  with_reducible rfl
 rotate_left
 ·simp only [Act.put, List.setIfInBounds_toArray, List.set_cons_zero, List.set_cons_succ, i64_w, i32_w]
  rfl
 refine take_ (i := 3) (N := some 8) (v := ?_) (a' := ?_) #[true, true, true, true, false, true, false, true, false, false, false, false, false] rfl rfl (zC3 HT_.out HW_.out (by kernel_rfl)) (fun _ _ _ h => h) (Or.inl ⟨by rfl, ?_⟩) hHeld ?_ ?_
 rotate_left
 ·rintro w' ⟨s0, s1, s2, s3⟩
  go_simp
  with_reducible rfl
 rotate_left
 ·simp only [Act.put, List.setIfInBounds_toArray, List.set_cons_zero, List.set_cons_succ, i64_w, i32_w]
  rfl
 refine take_ (i := 6) (N := some 11) (v := ?_) (a' := ?_) #[true, true, true, true, false, true, true, true, false, false, false, false, false] rfl rfl (zC3 HT_.out HW_.out (by kernel_rfl)) (fun _ _ _ h => h) (Or.inl ⟨by rfl, ?_⟩) hHeld ?_ ?_
 rotate_left
 ·rintro w' ⟨s0, s1, s2, s3⟩
  go_simp
  with_reducible rfl
 rotate_left
 ·simp only [Act.put, List.setIfInBounds_toArray, List.set_cons_zero, List.set_cons_succ, i64_w, i32_w]
  rfl
 refine take_ (i := 8) (N := some 13) (v := ?_) (a' := ?_) #[true, true, true, true, false, true, true, true, true, false, false, false, false] rfl rfl (zC3 HT_.out HW_.out (by kernel_rfl)) (fun _ _ _ h => h) (Or.inl ⟨by rfl, ?_⟩) hHeld ?_ ?_
 rotate_left
 ·rintro w' ⟨s0, s1, s2, s3⟩
  go_simp
  with_reducible rfl
 rotate_left
 ·simp only [Act.put, List.setIfInBounds_toArray, List.set_cons_zero, List.set_cons_succ, i64_w, i32_w]
  rfl
 refine one_ (i := 4) (N := some 9) #[true, true, true, true, true, true, true, true, true, false, false, false, false] rfl rfl (one_of HT_.out (by kernel_rfl)) (by decide) (fun K hK => ?_)
 refine goes_ Tryd.func80 (by kernel_rfl) rfl #[.int .i64 a0_0, .int .i64 a1_0] (by rfl) rfl rfl (by (try simp only [List.map_toArray, List.map_cons, List.map_nil]); first | done | rfl | (simp only [List.length_drop, List.length_take]; rfl)) ?_
 with_reducible refine (zCb.calls a0_0 a1_0 t109 _ A3.out).mono ?_
 rintro e w' ⟨rfl, ⟨nd, rfl⟩⟩
 refine ⟨_, rfl, ?_⟩
 refine hK.out _ _ ⟨(zA9 BK107.out 0).trans rfl, (zA9 BK107.out 1).trans rfl, (zA9 BK108.out 0).trans rfl, (zA9 BK108.out 1).trans rfl⟩ (fun hHeld => ?_)
 clear hK K
 refine norm_ (a' := ?_) ?_ ?_
 rotate_left
 ·show Act.put _ (some 9) _ = _
  simp only [Act.put, List.setIfInBounds_toArray, List.set_cons_zero, List.set_cons_succ, i64_w, i32_w]
  rfl
 refine one_ (i := 9) (N := some 14) #[true, true, true, true, true, true, true, true, true, true, false, false, false] rfl rfl (one_of HT_.out (by kernel_rfl)) (by decide) (fun K hK => ?_)
 refine goes_ Tryd.func80 (by kernel_rfl) rfl #[.int .i64 a0_1, .int .i64 a1_1] (by rfl) rfl rfl (by (try simp only [List.map_toArray, List.map_cons, List.map_nil]); first | done | rfl | (simp only [List.length_drop, List.length_take]; rfl)) ?_
 with_reducible refine (zCb.calls a0_1 a1_1 t110 _ A4.out).mono ?_
 rintro e w' ⟨rfl, ⟨nd, rfl⟩⟩
 refine ⟨_, rfl, ?_⟩
 refine hK.out _ _ ⟨(zA9 BK107.out 0).trans rfl, (zA9 BK107.out 1).trans rfl, (zA9 BK108.out 0).trans rfl, (zA9 BK108.out 1).trans rfl⟩ (fun hHeld => ?_)
 clear hK K
 refine norm_ (a' := ?_) ?_ ?_
 rotate_left
 ·show Act.put _ (some 14) _ = _
  simp only [Act.put, List.setIfInBounds_toArray, List.set_cons_zero, List.set_cons_succ, i64_w, i32_w]
  rfl
 refine one_ (i := 10) (N := some 15) #[true, true, true, true, true, true, true, true, true, true, true, false, false] rfl rfl (one_of HT_.out (by kernel_rfl)) (by decide) (fun K hK => ?_)
 refine R_lit_stepG (Kd.int .i64) _ 3 ?hg (N := 15) ?hd (xs := ([t109, t110] : List Int)) (inner := [.int .i64 t109, .int .i64 t110]) (ok := fun _ => True) (okp := fun _ => True) ?hr ?hp (fun _ hk => hk) trivial (Below.refl _ _) (Nat.le_refl _) (by simp) ?_; (case hd => rfl); (case hg => rfl); (case hr => first | (go_simp; done) | (go_simp; rfl)); (case hp => exact (Reps.one (show Kd.M (Kd.int .i64) _ _ _ t109 [.int .i64 t109] from rfl) (Reps.one (show Kd.M (Kd.int .i64) _ _ _ t110 [.int .i64 t110] from rfl) (Reps.none _ _))))
 intro v112 w9 ho10 hb hg_ hnew_ hgr
 have HX0 := zA1.mk (Gr.trans (by repeat (first | (with_reducible first | exact HX.out | apply Gr.alloc | apply Gr.drewN | apply Gr.drew) | exact HX.out)) hgr)
 clear hgr
 clear HX
 have HX := HX0
 clear HX0
 clear hg_ hnew_
 (first | rw [← Ny111.out] at ho10 | (simp only [Int.reduceToNat] at ho10; rw [← Ny111.out] at ho10))
 have n0_ := zA1.mk (Kd.R_lower ho10 (zAc (by repeat (first | (with_reducible first | exact HB.out | apply zA2 | apply zA0 | apply zA3 | refine zA7 ?_ GE107.out | refine zA7 ?_ GE108.out) | exact HB.out))))
 have n1_ := zA1.mk (zBc (g := gb107) (o := .cells #[.int .i64 a0_0, .int .i64 a0_1] 68 (0, 0)) (by (with_reducible repeat (first | refine zAb ?_ _ | refine zAf ?_ | refine zAa ?_ _)); exact BK107.out) hb)
 have n2_ := zA1.mk (zBc (g := gb108) (o := .cells #[.int .i64 a1_0, .int .i64 a1_1] 68 (0, 0)) (by (with_reducible repeat (first | refine zAb ?_ _ | refine zAf ?_ | refine zAa ?_ _)); exact BK108.out) hb)
 have n3_ := zA1.mk (zAm (by repeat (first | (with_reducible first | exact HB.out | apply zA2 | apply zA0 | apply zA3 | refine zA7 ?_ GE107.out | refine zA7 ?_ GE108.out) | exact HB.out)) hb)
 clear BK107
 clear BK108
 clear HB
 have HO113 := n0_
 have BK107 := n1_
 have BK108 := n2_
 have HB := n3_
 clear n0_ n1_ n2_ n3_
 clear hb ho10
 obtain ⟨Ao11, co11, eo11⟩ := Kd.zCe HO113.out
 (first | subst eo11 | (injection eo11 with f1_ f2_ f3_; have f4_ := f1_.symm; have f5_ := f3_.symm; clear f1_ f2_ f3_; subst f4_; subst f5_))
 refine hK.out _ _ ⟨(zA9 BK107.out 0).trans rfl, (zA9 BK107.out 1).trans rfl, (zA9 BK108.out 0).trans rfl, (zA9 BK108.out 1).trans rfl⟩ (fun hHeld => ?_)
 clear hK K
 refine norm_ (a' := ?_) ?_ ?_
 rotate_left
 ·show Act.put _ (some 15) _ = _
  simp only [Act.put, List.setIfInBounds_toArray, List.set_cons_zero, List.set_cons_succ, i64_w, i32_w]
  rfl
 refine one_ (i := 11) (N := some 16) #[true, true, true, true, true, true, true, true, true, true, true, true, false] rfl rfl (one_of HT_.out (by kernel_rfl)) (by decide) (fun K hK => ?_)
 refine goes_ Tryd.func79 (by kernel_rfl) rfl #[.slice Ao11 y111.length co11] (by rfl) rfl rfl (by (try simp only [List.map_toArray, List.map_cons, List.map_nil]); first | done | rfl | (simp only [List.length_drop, List.length_take]; rfl)) ?_
 with_reducible refine (zC0.calls k _ _ y111 t114 _ ?side1 ?side2 A5.out).mono ?_
 (case side1 => repeat (first | exact (Kd.zBd HO113.out).2.2 | (with_reducible refine Kd.zA8 ?_ _) | (with_reducible refine Kd.zAd ?_ _) | (with_reducible refine Kd.zAp ?_)))
 (case side2 => exact (Kd.zBd HO113.out).2.1)
 rintro e w' ⟨rfl, ⟨nd, rfl⟩⟩
 refine ⟨_, rfl, ?_⟩
 refine hK.out _ _ ⟨(zA9 BK107.out 0).trans rfl, (zA9 BK107.out 1).trans rfl, (zA9 BK108.out 0).trans rfl, (zA9 BK108.out 1).trans rfl⟩ (fun hHeld => ?_)
 clear hK K
 refine norm_ (a' := ?_) ?_ ?_
 rotate_left
 ·show Act.put _ (some 16) _ = _
  simp only [Act.put, List.setIfInBounds_toArray, List.set_cons_zero, List.set_cons_succ, i64_w, i32_w]
  rfl
 refine pure_ (i := 12) (N := some 4) (v := ?_) (a' := ?_) #[true, true, true, true, true, true, true, true, true, true, true, true, true] rfl rfl (zAq HT_.out (by kernel_rfl)) (fun _ _ _ h => h) (Or.inl ⟨by rfl, ?_⟩) ?_ ?_
 rotate_left
 ·intro w'
  go_simp
  with_reducible rfl
 rotate_left
 ·simp only [Act.put, List.setIfInBounds_toArray, List.set_cons_zero, List.set_cons_succ, i64_w, i32_w]
  rfl
 refine done_ (done_of HT_.out (by kernel_rfl)) ?_
 try go_wp2
 go_ret
 exact ⟨by first | rfl | (simp [zAx, zAw] <;> rfl) | (simp [*, zAx, zAw] <;> rfl), by repeat (first | (with_reducible first | exact HB.out | apply zA2 | apply zA0 | apply zA3 | refine zA7 ?_ GE107.out | refine zA7 ?_ GE108.out) | exact HB.out), (by repeat (first | (with_reducible first | exact HX.out | apply Gr.alloc | apply Gr.drewN | apply Gr.drew) | exact HX.out))⟩
theorem zBy.calls (k : Nat) (a0_0 : Int) (a0_1 : Int) (a1_0 : Int) (a1_1 : Int) (r : Int) (w : World) (h : zBy.f k a0_0 a0_1 a1_0 a1_1 = some r) :
  Calls Tryd.prog 64 #[.agg #[.int .i64 a0_0, .int .i64 a0_1], .agg #[.int .i64 a1_0, .int .i64 a1_1]] w fun e w' => e = .returned (.int .i64 r) ∧ Below w.heap.size w w' :=
 (zBy.exact k a0_0 a0_1 a1_0 a1_1 r w h).mono fun _ _ h_ => ⟨h_.1, h_.2.1⟩
end
end Go.Proofs.YtbghfbhlbfcloaaDoor.PL
namespace Go.Proofs.YtbghfbhlbfcloaaDoor.PL
section
open Go.RowKit Go.Proofs.YtbghfbhlbfcloaaDoorW.PrintWords Go.Proofs.YtbghfbhlbfcloaaDoorW.PrintLast Go.Proofs.YtbghfbhlbfcloaaDoorW.PrintMore
attribute [local go_sem] zBw zBu zC7 zC6 zBo zBn zBv zBt   -- for this text's walks alone
set_option linter.unusedVariables false
set_option linter.unusedSimpArgs false
def zCd.f (a0 : Int) (a1 : Int) : Option (Bool) := if a1 < 0 then (some true) else (some (decide (a1 ≥ a0)))
set_option maxHeartbeats 8000000 in
set_option maxRecDepth 100000 in
theorem zCd.calls (a0 : Int) (a1 : Int) (r : Bool) (w : World) (h : zCd.f a0 a1 = some r) :
  Calls Tryd.prog 61 #[.int .i64 a0, .int .i64 a1] w fun e w' => e = .returned (.bool r) ∧ zAr w w' := by
 have H : (if a1 < 0 then (some true) else (some (decide (a1 ≥ a0)))) = some r := h
 clear h
 by_cases c3 : a1 < 0
 ·rw [if_pos c3] at H
  have c3b0 : decide (a1 < 0) = true := decide_eq_true c3
  clear c3
  obtain rfl := Option.some.inj H
  go_enter Tryd.func61, Tryd.ntmps61
  go_wp2
  go_ret
  exact ⟨by first | rfl | (simp; done) | (simp [*]; done), by repeat (first | exact zAr.refl _ | apply zAr.step)⟩
 ·rw [if_neg c3] at H
  have c3b0 : decide (a1 < 0) = false := decide_eq_false c3
  clear c3
  obtain rfl := Option.some.inj H
  go_enter Tryd.func61, Tryd.ntmps61
  go_wp2
  go_ret
  exact ⟨by first | rfl | (simp; done) | (simp [*]; done), by repeat (first | exact zAr.refl _ | apply zAr.step)⟩
end
end Go.Proofs.YtbghfbhlbfcloaaDoor.PL
namespace Go.Proofs.YtbghfbhlbfcloaaDoor.PL
section
open Go.RowKit Go.Proofs.YtbghfbhlbfcloaaDoorW.PrintWords Go.Proofs.YtbghfbhlbfcloaaDoorW.PrintLast Go.Proofs.YtbghfbhlbfcloaaDoorW.PrintMore
attribute [local go_sem] zBw zBu zC7 zC6 zBo zBn zBv zBt   -- for this text's walks alone
set_option linter.unusedVariables false
set_option linter.unusedSimpArgs false
mutual
def zB5.j0 : Nat → Bool → Int → List (S68) → Option (Int)
 | 0, _, _, _ => none
 | k + 1, x6, x129000, x129001 => if x6 = true then (some 2) else (if (x129001.length : Int) > (wrap64 (x129000 * x129000)) then (some 6) else (zB5.l0 k x129001 (x129001.length : Int) 0 x129000 x129001))
def zB5.l0 : Nat → List (S68) → Int → Int → Int → List (S68) → Option (Int)
 | 0, _, _, _, _, _ => none
 | k + 1, x26, x27, x28, x129000, x129001 => if x28 < x27 then (if 0 ≤ x28 then (if x28 < (x26.length : Int) then ((zCd.f x129000 ((zB4 x26 x28).f0)).bind fun t131 => (if t131 = true then (some 2) else ((zCd.f x129000 ((zB4 x26 x28).f1)).bind fun t132 => (if t132 = true then (some 2) else (zB5.l0 k x26 x27 (wrap64 (x28 + 1)) x129000 x129001))))) else (none)) else (none)) else (zB5.l1 k 1 x129000 x129001)
def zB5.l1 : Nat → Int → Int → List (S68) → Option (Int)
 | 0, _, _, _ => none
 | k + 1, x5, x129000, x129001 => if x5 < (x129001.length : Int) then (if 0 ≤ (wrap64 (x5 - 1)) then (if (wrap64 (x5 - 1)) < (x129001.length : Int) then (if 0 ≤ x5 then ((zBy.f k ((zB4 x129001 (wrap64 (x5 - 1))).f0) ((zB4 x129001 (wrap64 (x5 - 1))).f1) ((zB4 x129001 x5).f0) ((zB4 x129001 x5).f1)).bind fun t135 => (if t135 ≥ 0 then (some 8) else (zB5.l1 k (wrap64 (x5 + 1)) x129000 x129001))) else (none)) else (none)) else (none)) else (some 0)
end
def zB5.f (k : Nat) (a0_0 : Int) (l0_1 : List (S68)) : Option (Int) := if a0_0 < 0 then (zB5.j0 k true a0_0 l0_1) else (zB5.j0 k (decide (a0_0 > 64)) a0_0 l0_1)
theorem zB5.zBq : ∀ k, (∀ y0 y1 y2, LeO (zB5.j0 k y0 y1 y2) (zB5.j0 (k + 1) y0 y1 y2)) ∧ (∀ y0 y1 y2 y3 y4, LeO (zB5.l0 k y0 y1 y2 y3 y4) (zB5.l0 (k + 1) y0 y1 y2 y3 y4)) ∧ (∀ y0 y1 y2, LeO (zB5.l1 k y0 y1 y2) (zB5.l1 (k + 1) y0 y1 y2))
 | 0 => ⟨fun _ _ _ r h => by simp [zB5.j0] at h, fun _ _ _ _ _ r h => by simp [zB5.l0] at h, fun _ _ _ r h => by simp [zB5.l1] at h⟩
 | k + 1 => by
  obtain ⟨ih0, ih1, ih2⟩ := zB5.zBq k
  refine ⟨?_, ?_, ?_⟩
  ·intro y0 y1 y2
   unfold zB5.j0
   repeat' first
   | (with_reducible exact ih0 _ _ _)
   | (with_reducible exact ih1 _ _ _ _ _)
   | (with_reducible exact ih2 _ _ _)
   | (with_reducible exact zBy.mono _ _ _ _ _)
   | (with_reducible exact LeO.refl _)
   | (with_reducible exact LeO.none _)
   | (with_reducible refine LeO.ite ?_ ?_)
   | (with_reducible refine LeO.bind ?_ (fun _ => ?_))
  ·intro y0 y1 y2 y3 y4
   unfold zB5.l0
   repeat' first
   | (with_reducible exact ih0 _ _ _)
   | (with_reducible exact ih1 _ _ _ _ _)
   | (with_reducible exact ih2 _ _ _)
   | (with_reducible exact zBy.mono _ _ _ _ _)
   | (with_reducible exact LeO.refl _)
   | (with_reducible exact LeO.none _)
   | (with_reducible refine LeO.ite ?_ ?_)
   | (with_reducible refine LeO.bind ?_ (fun _ => ?_))
  ·intro y0 y1 y2
   unfold zB5.l1
   repeat' first
   | (with_reducible exact ih0 _ _ _)
   | (with_reducible exact ih1 _ _ _ _ _)
   | (with_reducible exact ih2 _ _ _)
   | (with_reducible exact zBy.mono _ _ _ _ _)
   | (with_reducible exact LeO.refl _)
   | (with_reducible exact LeO.none _)
   | (with_reducible refine LeO.ite ?_ ?_)
   | (with_reducible refine LeO.bind ?_ (fun _ => ?_))
theorem zB5.mono : ∀ a0 a1 k, LeO (zB5.f k a0 a1) (zB5.f (k + 1) a0 a1) := by
 intro a0 a1 k
 obtain ⟨ih0, ih1, ih2⟩ := zB5.zBq k
 unfold zB5.f
 repeat' first
   | (with_reducible exact ih0 _ _ _)
   | (with_reducible exact ih1 _ _ _ _ _)
   | (with_reducible exact ih2 _ _ _)
   | (with_reducible exact zBy.mono _ _ _ _ _)
   | (with_reducible exact LeO.refl _)
   | (with_reducible exact LeO.none _)
   | (with_reducible refine LeO.ite ?_ ?_)
   | (with_reducible refine LeO.bind ?_ (fun _ => ?_))
def zB5.T14 : Bool × List (List Nat × List Nat) := (true, [([], []), ([0], [0]), ([], []), ([2], [2]), ([1, 3], [1, 3]), ([4], [4]), ([], []), ([6], [6]), ([], []), ([7, 8], [7, 8]), ([9], [9]), ([5, 10], [5, 10]), ([11], [11])])
def zB5.B14 : List Nat := [0, 1, 0, 4, 15, 31, 0, 64, 0, 448, 960, 2047, 4095]
theorem zB5.tab14 : rtab .any (opsOf Tryd.f72 14) = zB5.T14 := by kernel_rfl
theorem zB5.bits14 : waitsOk zB5.T14.2 zB5.B14 = true := by kernel_rfl
set_option maxHeartbeats 8000000 in
set_option maxRecDepth 100000 in
theorem zB5.calls (k : Nat) (a0_0 : Int) (A0_1 : Option Addr) (c0_1 : Nat) (l0_1 : List (S68)) (r : Int) (w : World) (hr0_1 : Kd.C k68 w A0_1 l0_1.length l0_1) (hc0_1 : l0_1.length ≤ c0_1) (h : zB5.f k a0_0 l0_1 = some r) :
  Calls Tryd.prog 72 #[.agg #[.int .i64 a0_0, .slice A0_1 l0_1.length c0_1]] w fun e w' => e = .returned (.int .i64 r) ∧ Below w.heap.size w w' := by
 have hu28 := Tryd.underlying28
 have hu68 := Tryd.underlying68
 have HR0_1 := zA1.mk hr0_1
 have HC0_1 := zA1.mk hc0_1
 clear hr0_1 hc0_1
 have HB := zA1.mk (Below.refl w.heap.size w)
 have H : (if a0_0 < 0 then (zB5.j0 k true a0_0 l0_1) else (zB5.j0 k (decide (a0_0 > 64)) a0_0 l0_1)) = some r := h
 clear h
 have HC2 := zA1.mk H
 clear H
 go_enter Tryd.func72, Tryd.ntmps72
 go_upto_region 1 with (first | ((with_reducible refine zBl (N := 1) rfl ?_); refine zBp ?hg (N := 1) ?hd (cs := #[.int .i64 a0_0, .slice A0_1 l0_1.length c0_1]) (t := 28) ?hr ?_; (case hd => rfl); (case hg => rfl); (case hr => first | (go_simp; done) | (go_simp; rfl)); intro gb128 hg w3 hbox hb; have n0_ := zA1.mk (zAm (by repeat (first | (with_reducible first | exact HB.out | apply zA2 | apply zA0 | apply zA3) | exact HB.out)) hb); have n1_ := zA1.mk (hbox); have n2_ := zA1.mk ((by rw [hg]; exact (zAc (by repeat (first | (with_reducible first | exact HB.out | apply zA2 | apply zA0 | apply zA3) | exact HB.out))) : w.heap.size ≤ gb128)); have n3_ := zA1.mk ((by rw [hg]; exact (zAc (by repeat (first | (with_reducible first | exact HB.out | apply zA2 | apply zA0 | apply zA3) | exact HB.out))) : w.heap.size ≤ gb128)); clear HB; have HB := n0_; have BK128 := n1_; have GW128 := n2_; have GE128 := n3_; clear n0_ n1_ n2_ n3_; clear hb hbox hg))
 (try simp only [Act.put, List.setIfInBounds_toArray, List.set_cons_zero, List.set_cons_succ])
 go_cut [6] (fun v6 wc => ∃ (kq : Nat) (x6_1 : Bool), v6 = .bool x6_1 ∧ zA1 (zB5.j0 kq x6_1 a0_0 l0_1 = some r) ∧ zA1 (kq ≤ k) ∧ zA1 (wc.heap[gb128]? = some (.cells #[.int .i64 a0_0, (.slice A0_1 l0_1.length c0_1)] 28 (0, 0))) ∧ zA1 (Below w.heap.size w wc))
 case first =>
  have H := HC2.out
  clear HC2
  by_cases c4 : a0_0 < 0
  ·rw [if_pos c4] at H
   have c4b0 : decide (a0_0 < 0) = true := decide_eq_true c4
   clear c4
   (first | rw [c4b0] | (simp only [i64_w, i32_w]; rw [c4b0]) | skip)
   have H' := zA1.mk H
   clear H
   have hcz5_0 : w3.cell? ⟨gb128, 0, none⟩ = some (.int .i64 a0_0) := (zA9 BK128.out 0).trans rfl
   have hcz5_1 : w3.cell? ⟨gb128, 1, none⟩ = some (.slice A0_1 l0_1.length c0_1) := (zA9 BK128.out 1).trans rfl
   have hfz5_0 := zAh BK128.out 0
   have hfz5_1 := zAh BK128.out 1
   go_wp2
   go_meet
   case rel => exact ⟨_, (true), (by first | rfl | (simp; done) | (simp [*]; done)), H', ⟨by first | omega | exact Nat.le_refl _⟩, ⟨by (with_reducible repeat (first | refine zAb ?_ _ | refine zAf ?_ | refine zAa ?_ _)); exact BK128.out⟩, ⟨by repeat (first | (with_reducible first | exact HB.out | apply zA2 | apply zA0 | apply zA3 | refine zA7 ?_ GE128.out) | exact HB.out)⟩⟩
  ·rw [if_neg c4] at H
   have c4b0 : decide (a0_0 < 0) = false := decide_eq_false c4
   clear c4
   (first | rw [c4b0] | (simp only [i64_w, i32_w]; rw [c4b0]) | skip)
   have H' := zA1.mk H
   clear H
   have hcz6_0 : w3.cell? ⟨gb128, 0, none⟩ = some (.int .i64 a0_0) := (zA9 BK128.out 0).trans rfl
   have hcz6_1 : w3.cell? ⟨gb128, 1, none⟩ = some (.slice A0_1 l0_1.length c0_1) := (zA9 BK128.out 1).trans rfl
   have hfz6_0 := zAh BK128.out 0
   have hfz6_1 := zAh BK128.out 1
   go_wp2
   go_meet
   case rel => exact ⟨_, (decide (a0_0 > 64)), (by first | rfl | (simp; done) | (simp [*]; done)), H', ⟨by first | omega | exact Nat.le_refl _⟩, ⟨by (with_reducible repeat (first | refine zAb ?_ _ | refine zAf ?_ | refine zAa ?_ _)); exact BK128.out⟩, ⟨by repeat (first | (with_reducible first | exact HB.out | apply zA2 | apply zA0 | apply zA3 | refine zA7 ?_ GE128.out) | exact HB.out)⟩⟩
 case rest =>
  clear HC2
  try clear p2
  try clear c4
  try clear c4b0
  try clear hcz5_0
  try clear hcz5_1
  try clear hcz6_0
  try clear hcz6_1
  try clear hfz5_0
  try clear hfz5_1
  try clear hfz6_0
  try clear hfz6_1
  obtain ⟨kq, x6_1, rfl, HA, HJ1, BK128, HB⟩ := hcut
  cases kq with
  | zero => exact absurd HA.out (by simp [zB5.j0])
  | succ kj1 =>
   have H := HA.out
   clear HA
   simp only [zB5.j0] at H
   by_cases c7 : x6_1 = true
   ·subst c7
    have H1 : (some 2) = some r := by rw [if_pos rfl] at H; exact H
    clear H
    have H := H1
    clear H1
    obtain rfl := Option.some.inj H
    go_wp2
    go_ret
    exact ⟨by first | rfl | (simp [zAx, zAw] <;> rfl) | (simp [*, zAx, zAw] <;> rfl), by repeat (first | (with_reducible first | exact HB.out | apply zA2 | apply zA0 | apply zA3 | refine zA7 ?_ GE128.out) | exact HB.out)⟩
   ·replace c7 := Bool.eq_false_iff.mpr c7
    subst c7
    have H1 : (if (l0_1.length : Int) > (wrap64 (a0_0 * a0_0)) then (some 6) else (zB5.l0 kj1 l0_1 (l0_1.length : Int) 0 a0_0 l0_1)) = some r := by rw [if_neg (show ¬ (false = true) by decide)] at H; exact H
    clear H
    have H := H1
    clear H1
    by_cases c8 : (l0_1.length : Int) > (wrap64 (a0_0 * a0_0))
    ·rw [if_pos c8] at H
     have c8b0 : decide ((wrap64 (a0_0 * a0_0)) < (l0_1.length : Int)) = true := decide_eq_true c8
     clear c8
     obtain rfl := Option.some.inj H
     have hcz9_0 : wc.cell? ⟨gb128, 0, none⟩ = some (.int .i64 a0_0) := (zA9 BK128.out 0).trans rfl
     have hcz9_1 : wc.cell? ⟨gb128, 1, none⟩ = some (.slice A0_1 l0_1.length c0_1) := (zA9 BK128.out 1).trans rfl
     have hfz9_0 := zAh BK128.out 0
     have hfz9_1 := zAh BK128.out 1
     go_wp2
     go_ret
     exact ⟨by first | rfl | (simp [zAx, zAw] <;> rfl) | (simp [*, zAx, zAw] <;> rfl), by repeat (first | (with_reducible first | exact HB.out | apply zA2 | apply zA0 | apply zA3 | refine zA7 ?_ GE128.out) | exact HB.out)⟩
    ·rw [if_neg c8] at H
     have c8b0 : decide ((wrap64 (a0_0 * a0_0)) < (l0_1.length : Int)) = false := decide_eq_false c8
     clear c8
     have H' := zA1.mk H
     clear H
     have hcz10_0 : wc.cell? ⟨gb128, 0, none⟩ = some (.int .i64 a0_0) := (zA9 BK128.out 0).trans rfl
     have hcz10_1 : wc.cell? ⟨gb128, 1, none⟩ = some (.slice A0_1 l0_1.length c0_1) := (zA9 BK128.out 1).trans rfl
     have hfz10_0 := zAh BK128.out 0
     have hfz10_1 := zAh BK128.out 1
     go_wp2
     go_loopg [28] kj1 (fun kq v28 w' => ∃ (x28_2 : Int), v28 = .int .i64 x28_2 ∧ zA1 (zB5.l0 kq l0_1 (l0_1.length : Int) x28_2 a0_0 l0_1 = some r) ∧ zA1 (kq ≤ kj1) ∧ zA1 (w'.heap[gb128]? = some (.cells #[.int .i64 a0_0, (.slice A0_1 l0_1.length c0_1)] 28 (0, 0))) ∧ zA1 (Below w.heap.size w w'))
     case atStart => exact ⟨(0), (by first | rfl | (simp; done) | (simp [*]; done)), H', ⟨Nat.le_refl _⟩, ⟨by (with_reducible repeat (first | refine zAb ?_ _ | refine zAf ?_ | refine zAa ?_ _)); exact BK128.out⟩, ⟨by repeat (first | (with_reducible first | exact HB.out | apply zA2 | apply zA0 | apply zA3 | refine zA7 ?_ GE128.out) | exact HB.out)⟩⟩
     case round =>
      clear H'
      try clear p2
      try clear c4
      try clear c4b0
      try clear p6
      try clear c7
      try clear c8
      try clear c8b0
      try clear hcz10_0
      try clear hcz10_1
      try clear hcz5_0
      try clear hcz5_1
      try clear hcz6_0
      try clear hcz6_1
      try clear hcz9_0
      try clear hcz9_1
      try clear hfz10_0
      try clear hfz10_1
      try clear hfz5_0
      try clear hfz5_1
      try clear hfz6_0
      try clear hfz6_1
      try clear hfz9_0
      try clear hfz9_1
      try clear p2
      obtain ⟨x28_2, rfl, HA, HK2, BK128, HB⟩ := hrel
      cases gk with
      | zero => exact absurd HA.out (by simp [zB5.l0])
      | succ k2 =>
       have H := HA.out
       clear HA
       simp only [zB5.l0] at H
       by_cases c11 : x28_2 < (l0_1.length : Int)
       ·rw [if_pos c11] at H
        have c11b0 : decide (x28_2 < (l0_1.length : Int)) = true := decide_eq_true c11
        clear c11
        by_cases c12 : 0 ≤ x28_2
        rotate_left
        ·rw [if_neg c12] at H
         exact absurd H (by simp)
        rw [if_pos c12] at H
        have c12b0 : decide (0 ≤ x28_2) = true := decide_eq_true c12
        clear c12
        by_cases c13 : x28_2 < (l0_1.length : Int)
        rotate_left
        ·rw [if_neg c13] at H
         exact absurd H (by simp)
        rw [if_pos c13] at H
        have c13b0 : decide (x28_2 < (l0_1.length : Int)) = true := decide_eq_true c13
        clear c13
        replace H := Option.bind_eq_some_iff.mp H
        obtain ⟨t131, A140, H⟩ := H
        replace H : (if t131 = true then (some 2) else ((zCd.f a0_0 ((zB4 l0_1 x28_2).f1)).bind fun t132 => (if t132 = true then (some 2) else (zB5.l0 k2 l0_1 (l0_1.length : Int) (wrap64 (x28_2 + 1)) a0_0 l0_1)))) = some r := H
        have A14 := zA1.mk A140
        clear A140
        by_cases c15 : t131 = true
        ·subst c15
         have H1 : (some 2) = some r := by rw [if_pos rfl] at H; exact H
         clear H
         have H := H1
         clear H1
         obtain rfl := Option.some.inj H
         have p129 : 0 ≤ (x28_2 : Int) := of_decide_eq_true (by first | (with_reducible assumption) | assumption)
         have q129 : x28_2 < (l0_1.length : Int) := of_decide_eq_true (by first | (with_reducible assumption) | assumption)
         obtain ⟨ad129, e129, hx129_0, hx129_1⟩ := at_T68 HR0_1.out x28_2 p129 q129
         cases e129
         replace hx129_0 := (HB.out.cell (World.block_lt_of_cell? w _ hx129_0)).trans hx129_0
         replace hx129_1 := (HB.out.cell (World.block_lt_of_cell? w _ hx129_1)).trans hx129_1
         replace p129 := eq_true p129
         replace q129 := eq_true q129
         go_wp2_with (first | ((with_reducible refine zBl (N := 4) rfl ?_); refine zBp ?hg (N := 4) ?hd (cs := #[.int .i64 0, .int .i64 0]) (t := 68) ?hr ?_; (case hd => rfl); (case hg => rfl); (case hr => first | (go_simp; done) | (go_simp; rfl)); intro gb130 hg w16 hbox hb; have n0_ := zA1.mk (zBc (g := gb128) (o := .cells #[.int .i64 a0_0, .slice (some ad129) l0_1.length c0_1] 28 (0, 0)) (by (with_reducible repeat (first | refine zAb ?_ _ | refine zAf ?_ | refine zAa ?_ _)); exact BK128.out) hb); have n1_ := zA1.mk (zAm (by repeat (first | (with_reducible first | exact HB.out | apply zA2 | apply zA0 | apply zA3 | refine zA7 ?_ GE128.out) | exact HB.out)) hb); have n2_ := zA1.mk (hbox); have n3_ := zA1.mk ((by rw [hg]; exact (zAc (by repeat (first | (with_reducible first | exact HB.out | apply zA2 | apply zA0 | apply zA3 | refine zA7 ?_ GE128.out) | exact HB.out))) : w.heap.size ≤ gb130)); have n4_ := zA1.mk ((by rw [hg]; exact (zAc (by repeat (first | (with_reducible first | exact HB.out | apply zA2 | apply zA0 | apply zA3 | refine zA7 ?_ GE128.out) | exact HB.out))) : w.heap.size ≤ gb130)); have n5_ := zA1.mk ((by rw [hg]; exact Nat.ne_of_lt (blk_lt (g := gb128) (o := .cells #[.int .i64 a0_0, .slice (some ad129) l0_1.length c0_1] 28 (0, 0)) (by (with_reducible repeat (first | refine zAb ?_ _ | refine zAf ?_ | refine zAa ?_ _)); exact BK128.out)) : gb128 ≠ gb130)); have n6_ := zA1.mk ((by rw [hg]; exact Nat.ne_of_gt (blk_lt (g := gb128) (o := .cells #[.int .i64 a0_0, .slice (some ad129) l0_1.length c0_1] 28 (0, 0)) (by (with_reducible repeat (first | refine zAb ?_ _ | refine zAf ?_ | refine zAa ?_ _)); exact BK128.out)) : gb130 ≠ gb128)); clear BK128; clear HB; have BK128 := n0_; have HB := n1_; have BK130 := n2_; have GW130 := n3_; have GE130 := n4_; have NB128_130 := n5_; have NB130_128 := n6_; clear n0_ n1_ n2_ n3_ n4_ n5_ n6_; clear hb hbox hg; have hnb17 := NB130_128.out; have hnc17 := NB128_130.out; have hcz18_0 : w16.cell? ⟨gb130, 0, none⟩ = some (.int .i64 0) := (zA9 BK130.out 0).trans rfl; have hcz18_1 : w16.cell? ⟨gb130, 1, none⟩ = some (.int .i64 0) := (zA9 BK130.out 1).trans rfl; have hfz18_0 := zAh BK130.out 0; have hfz18_1 := zAh BK130.out 1; have hcz19_0 : w16.cell? ⟨gb128, 0, none⟩ = some (.int .i64 a0_0) := (zA9 BK128.out 0).trans rfl; have hcz19_1 : w16.cell? ⟨gb128, 1, none⟩ = some (.slice (some ad129) l0_1.length c0_1) := (zA9 BK128.out 1).trans rfl; have hfz19_0 := zAh BK128.out 0; have hfz19_1 := zAh BK128.out 1) | ((with_reducible refine zB1 (f := 61) rfl ?_); refine zC2 (some 36) rfl rfl Tryd.func61 (by kernel_rfl) rfl #[.int .i64 a0_0, .int .i64 ((zB4 l0_1 x28_2).f0)] rfl (by (try simp only [List.map_toArray, List.map_cons, List.map_nil]); first | done | rfl | (simp only [List.length_drop, List.length_take]; rfl)) ?_; (with_reducible refine (zCd.calls a0_0 ((zB4 l0_1 x28_2).f0) true _ A14.out).mono ?_); rintro e w' ⟨rfl, ⟨nd, rfl⟩⟩; refine ⟨_, rfl, ?_⟩))
         go_ret
         exact ⟨by first | rfl | (simp [zAx, zAw] <;> rfl) | (simp [*, zAx, zAw] <;> rfl), by repeat (first | (with_reducible first | exact HB.out | apply zA2 | apply zA0 | apply zA3 | refine zA7 ?_ GE128.out | refine zA7 ?_ GE130.out) | exact HB.out)⟩
        ·replace c15 := Bool.eq_false_iff.mpr c15
         subst c15
         have H1 : ((zCd.f a0_0 ((zB4 l0_1 x28_2).f1)).bind fun t132 => (if t132 = true then (some 2) else (zB5.l0 k2 l0_1 (l0_1.length : Int) (wrap64 (x28_2 + 1)) a0_0 l0_1))) = some r := by rw [if_neg (show ¬ (false = true) by decide)] at H; exact H
         clear H
         have H := H1
         clear H1
         replace H := Option.bind_eq_some_iff.mp H
         obtain ⟨t132, A200, H⟩ := H
         replace H : (if t132 = true then (some 2) else (zB5.l0 k2 l0_1 (l0_1.length : Int) (wrap64 (x28_2 + 1)) a0_0 l0_1)) = some r := H
         have A20 := zA1.mk A200
         clear A200
         by_cases c21 : t132 = true
         ·subst c21
          have H1 : (some 2) = some r := by rw [if_pos rfl] at H; exact H
          clear H
          have H := H1
          clear H1
          obtain rfl := Option.some.inj H
          have p129 : 0 ≤ (x28_2 : Int) := of_decide_eq_true (by first | (with_reducible assumption) | assumption)
          have q129 : x28_2 < (l0_1.length : Int) := of_decide_eq_true (by first | (with_reducible assumption) | assumption)
          obtain ⟨ad129, e129, hx129_0, hx129_1⟩ := at_T68 HR0_1.out x28_2 p129 q129
          cases e129
          replace hx129_0 := (HB.out.cell (World.block_lt_of_cell? w _ hx129_0)).trans hx129_0
          replace hx129_1 := (HB.out.cell (World.block_lt_of_cell? w _ hx129_1)).trans hx129_1
          replace p129 := eq_true p129
          replace q129 := eq_true q129
          go_wp2_with (first | ((with_reducible refine zBl (N := 4) rfl ?_); refine zBp ?hg (N := 4) ?hd (cs := #[.int .i64 0, .int .i64 0]) (t := 68) ?hr ?_; (case hd => rfl); (case hg => rfl); (case hr => first | (go_simp; done) | (go_simp; rfl)); intro gb130 hg w22 hbox hb; have n0_ := zA1.mk (zBc (g := gb128) (o := .cells #[.int .i64 a0_0, .slice (some ad129) l0_1.length c0_1] 28 (0, 0)) (by (with_reducible repeat (first | refine zAb ?_ _ | refine zAf ?_ | refine zAa ?_ _)); exact BK128.out) hb); have n1_ := zA1.mk (zAm (by repeat (first | (with_reducible first | exact HB.out | apply zA2 | apply zA0 | apply zA3 | refine zA7 ?_ GE128.out) | exact HB.out)) hb); have n2_ := zA1.mk (hbox); have n3_ := zA1.mk ((by rw [hg]; exact (zAc (by repeat (first | (with_reducible first | exact HB.out | apply zA2 | apply zA0 | apply zA3 | refine zA7 ?_ GE128.out) | exact HB.out))) : w.heap.size ≤ gb130)); have n4_ := zA1.mk ((by rw [hg]; exact (zAc (by repeat (first | (with_reducible first | exact HB.out | apply zA2 | apply zA0 | apply zA3 | refine zA7 ?_ GE128.out) | exact HB.out))) : w.heap.size ≤ gb130)); have n5_ := zA1.mk ((by rw [hg]; exact Nat.ne_of_lt (blk_lt (g := gb128) (o := .cells #[.int .i64 a0_0, .slice (some ad129) l0_1.length c0_1] 28 (0, 0)) (by (with_reducible repeat (first | refine zAb ?_ _ | refine zAf ?_ | refine zAa ?_ _)); exact BK128.out)) : gb128 ≠ gb130)); have n6_ := zA1.mk ((by rw [hg]; exact Nat.ne_of_gt (blk_lt (g := gb128) (o := .cells #[.int .i64 a0_0, .slice (some ad129) l0_1.length c0_1] 28 (0, 0)) (by (with_reducible repeat (first | refine zAb ?_ _ | refine zAf ?_ | refine zAa ?_ _)); exact BK128.out)) : gb130 ≠ gb128)); clear BK128; clear HB; have BK128 := n0_; have HB := n1_; have BK130 := n2_; have GW130 := n3_; have GE130 := n4_; have NB128_130 := n5_; have NB130_128 := n6_; clear n0_ n1_ n2_ n3_ n4_ n5_ n6_; clear hb hbox hg; have hnb23 := NB130_128.out; have hnc23 := NB128_130.out; have hcz24_0 : w22.cell? ⟨gb130, 0, none⟩ = some (.int .i64 0) := (zA9 BK130.out 0).trans rfl; have hcz24_1 : w22.cell? ⟨gb130, 1, none⟩ = some (.int .i64 0) := (zA9 BK130.out 1).trans rfl; have hfz24_0 := zAh BK130.out 0; have hfz24_1 := zAh BK130.out 1; have hcz25_0 : w22.cell? ⟨gb128, 0, none⟩ = some (.int .i64 a0_0) := (zA9 BK128.out 0).trans rfl; have hcz25_1 : w22.cell? ⟨gb128, 1, none⟩ = some (.slice (some ad129) l0_1.length c0_1) := (zA9 BK128.out 1).trans rfl; have hfz25_0 := zAh BK128.out 0; have hfz25_1 := zAh BK128.out 1) | ((with_reducible refine zB1 (f := 61) rfl ?_); refine zC2 (some 36) rfl rfl Tryd.func61 (by kernel_rfl) rfl #[.int .i64 a0_0, .int .i64 ((zB4 l0_1 x28_2).f0)] rfl (by (try simp only [List.map_toArray, List.map_cons, List.map_nil]); first | done | rfl | (simp only [List.length_drop, List.length_take]; rfl)) ?_; (with_reducible refine (zCd.calls a0_0 ((zB4 l0_1 x28_2).f0) false _ A14.out).mono ?_); rintro e w' ⟨rfl, ⟨nd, rfl⟩⟩; refine ⟨_, rfl, ?_⟩) | (go_at_call 61; (with_reducible refine (zCd.calls a0_0 ((zB4 l0_1 x28_2).f1) true _ A20.out).mono ?_); rintro e w' ⟨rfl, ⟨nd, rfl⟩⟩))
          go_ret
          exact ⟨by first | rfl | (simp [zAx, zAw] <;> rfl) | (simp [*, zAx, zAw] <;> rfl), by repeat (first | (with_reducible first | exact HB.out | apply zA2 | apply zA0 | apply zA3 | refine zA7 ?_ GE128.out | refine zA7 ?_ GE130.out) | exact HB.out)⟩
         ·replace c21 := Bool.eq_false_iff.mpr c21
          subst c21
          have H1 : (zB5.l0 k2 l0_1 (l0_1.length : Int) (wrap64 (x28_2 + 1)) a0_0 l0_1) = some r := by rw [if_neg (show ¬ (false = true) by decide)] at H; exact H
          clear H
          have H := H1
          clear H1
          have H' := zA1.mk H
          clear H
          have p129 : 0 ≤ (x28_2 : Int) := of_decide_eq_true (by first | (with_reducible assumption) | assumption)
          have q129 : x28_2 < (l0_1.length : Int) := of_decide_eq_true (by first | (with_reducible assumption) | assumption)
          obtain ⟨ad129, e129, hx129_0, hx129_1⟩ := at_T68 HR0_1.out x28_2 p129 q129
          cases e129
          replace hx129_0 := (HB.out.cell (World.block_lt_of_cell? w _ hx129_0)).trans hx129_0
          replace hx129_1 := (HB.out.cell (World.block_lt_of_cell? w _ hx129_1)).trans hx129_1
          replace p129 := eq_true p129
          replace q129 := eq_true q129
          go_wp2_with (first | ((with_reducible refine zBl (N := 4) rfl ?_); refine zBp ?hg (N := 4) ?hd (cs := #[.int .i64 0, .int .i64 0]) (t := 68) ?hr ?_; (case hd => rfl); (case hg => rfl); (case hr => first | (go_simp; done) | (go_simp; rfl)); intro gb130 hg w26 hbox hb; have n0_ := zA1.mk (zBc (g := gb128) (o := .cells #[.int .i64 a0_0, .slice (some ad129) l0_1.length c0_1] 28 (0, 0)) (by (with_reducible repeat (first | refine zAb ?_ _ | refine zAf ?_ | refine zAa ?_ _)); exact BK128.out) hb); have n1_ := zA1.mk (zAm (by repeat (first | (with_reducible first | exact HB.out | apply zA2 | apply zA0 | apply zA3 | refine zA7 ?_ GE128.out) | exact HB.out)) hb); have n2_ := zA1.mk (hbox); have n3_ := zA1.mk ((by rw [hg]; exact (zAc (by repeat (first | (with_reducible first | exact HB.out | apply zA2 | apply zA0 | apply zA3 | refine zA7 ?_ GE128.out) | exact HB.out))) : w.heap.size ≤ gb130)); have n4_ := zA1.mk ((by rw [hg]; exact (zAc (by repeat (first | (with_reducible first | exact HB.out | apply zA2 | apply zA0 | apply zA3 | refine zA7 ?_ GE128.out) | exact HB.out))) : w.heap.size ≤ gb130)); have n5_ := zA1.mk ((by rw [hg]; exact Nat.ne_of_lt (blk_lt (g := gb128) (o := .cells #[.int .i64 a0_0, .slice (some ad129) l0_1.length c0_1] 28 (0, 0)) (by (with_reducible repeat (first | refine zAb ?_ _ | refine zAf ?_ | refine zAa ?_ _)); exact BK128.out)) : gb128 ≠ gb130)); have n6_ := zA1.mk ((by rw [hg]; exact Nat.ne_of_gt (blk_lt (g := gb128) (o := .cells #[.int .i64 a0_0, .slice (some ad129) l0_1.length c0_1] 28 (0, 0)) (by (with_reducible repeat (first | refine zAb ?_ _ | refine zAf ?_ | refine zAa ?_ _)); exact BK128.out)) : gb130 ≠ gb128)); clear BK128; clear HB; have BK128 := n0_; have HB := n1_; have BK130 := n2_; have GW130 := n3_; have GE130 := n4_; have NB128_130 := n5_; have NB130_128 := n6_; clear n0_ n1_ n2_ n3_ n4_ n5_ n6_; clear hb hbox hg; have hnb27 := NB130_128.out; have hnc27 := NB128_130.out; have hcz28_0 : w26.cell? ⟨gb130, 0, none⟩ = some (.int .i64 0) := (zA9 BK130.out 0).trans rfl; have hcz28_1 : w26.cell? ⟨gb130, 1, none⟩ = some (.int .i64 0) := (zA9 BK130.out 1).trans rfl; have hfz28_0 := zAh BK130.out 0; have hfz28_1 := zAh BK130.out 1; have hcz29_0 : w26.cell? ⟨gb128, 0, none⟩ = some (.int .i64 a0_0) := (zA9 BK128.out 0).trans rfl; have hcz29_1 : w26.cell? ⟨gb128, 1, none⟩ = some (.slice (some ad129) l0_1.length c0_1) := (zA9 BK128.out 1).trans rfl; have hfz29_0 := zAh BK128.out 0; have hfz29_1 := zAh BK128.out 1) | ((with_reducible refine zB1 (f := 61) rfl ?_); refine zC2 (some 36) rfl rfl Tryd.func61 (by kernel_rfl) rfl #[.int .i64 a0_0, .int .i64 ((zB4 l0_1 x28_2).f0)] rfl (by (try simp only [List.map_toArray, List.map_cons, List.map_nil]); first | done | rfl | (simp only [List.length_drop, List.length_take]; rfl)) ?_; (with_reducible refine (zCd.calls a0_0 ((zB4 l0_1 x28_2).f0) false _ A14.out).mono ?_); rintro e w' ⟨rfl, ⟨nd, rfl⟩⟩; refine ⟨_, rfl, ?_⟩) | (go_at_call 61; (with_reducible refine (zCd.calls a0_0 ((zB4 l0_1 x28_2).f1) false _ A20.out).mono ?_); rintro e w' ⟨rfl, ⟨nd, rfl⟩⟩))
          go_roundg k2
          case measure => have := HJ1.out; have := HK2.out; omega
          case rel => exact ⟨(wrap64 (x28_2 + 1)), (by first | rfl | (simp; done) | (simp [*]; done)), H', ⟨by have := HJ1.out; have := HK2.out; omega⟩, ⟨by (with_reducible repeat (first | refine zAb ?_ _ | refine zAf ?_ | refine zAa ?_ _)); refine blk_far ?_ NB128_130.out _; (with_reducible repeat (first | refine zAb ?_ _ | refine zAf ?_ | refine zAa ?_ _)); refine blk_far ?_ NB128_130.out _; (with_reducible repeat (first | refine zAb ?_ _ | refine zAf ?_ | refine zAa ?_ _)); exact BK128.out⟩, ⟨by repeat (first | (with_reducible first | exact HB.out | apply zA2 | apply zA0 | apply zA3 | refine zA7 ?_ GE128.out | refine zA7 ?_ GE130.out) | exact HB.out)⟩⟩
       ·rw [if_neg c11] at H
        have c11b0 : decide (x28_2 < (l0_1.length : Int)) = false := decide_eq_false c11
        clear c11
        have H' := zA1.mk H
        clear H
        go_wp2
        go_loopg [5] k2 (fun kq v5 w' => ∃ (x5_3 : Int), v5 = .int .i64 x5_3 ∧ zA1 (zB5.l1 kq x5_3 a0_0 l0_1 = some r) ∧ zA1 (kq ≤ k2) ∧ zA1 (w'.heap[gb128]? = some (.cells #[.int .i64 a0_0, (.slice A0_1 l0_1.length c0_1)] 28 (0, 0))) ∧ zA1 (Below w.heap.size w w'))
        case atStart => exact ⟨(1), (by first | rfl | (simp; done) | (simp [*]; done)), H', ⟨Nat.le_refl _⟩, ⟨by (with_reducible repeat (first | refine zAb ?_ _ | refine zAf ?_ | refine zAa ?_ _)); exact BK128.out⟩, ⟨by repeat (first | (with_reducible first | exact HB.out | apply zA2 | apply zA0 | apply zA3 | refine zA7 ?_ GE128.out) | exact HB.out)⟩⟩
        case round =>
         clear H'
         try clear c1
         try clear p1
         try clear q1
         try clear hx1
         try clear c2
         try clear p2
         try clear c4
         try clear c4b0
         try clear c6
         try clear p6
         try clear c7
         try clear c8
         try clear c8b0
         try clear c11
         try clear c11b0
         try clear c12
         try clear c12b0
         try clear p12
         try clear q12
         try clear hx12
         try clear c13
         try clear c13b0
         try clear c15
         try clear c17
         try clear c21
         try clear c23
         try clear c27
         try clear hcz10_0
         try clear hcz10_1
         try clear hcz18_0
         try clear hcz18_1
         try clear hcz19_0
         try clear hcz19_1
         try clear hcz24_0
         try clear hcz24_1
         try clear hcz25_0
         try clear hcz25_1
         try clear hcz28_0
         try clear hcz28_1
         try clear hcz29_0
         try clear hcz29_1
         try clear hcz5_0
         try clear hcz5_1
         try clear hcz6_0
         try clear hcz6_1
         try clear hcz9_0
         try clear hcz9_1
         try clear hfz10_0
         try clear hfz10_1
         try clear hfz18_0
         try clear hfz18_1
         try clear hfz19_0
         try clear hfz19_1
         try clear hfz24_0
         try clear hfz24_1
         try clear hfz25_0
         try clear hfz25_1
         try clear hfz28_0
         try clear hfz28_1
         try clear hfz29_0
         try clear hfz29_1
         try clear hfz5_0
         try clear hfz5_1
         try clear hfz6_0
         try clear hfz6_1
         try clear hfz9_0
         try clear hfz9_1
         try clear hx129_0
         try clear hx129_1
         try clear p129
         try clear p2
         try clear p6
         try clear q129
         obtain ⟨x5_3, rfl, HA, HK3, BK128, HB⟩ := hrel
         cases gk with
         | zero => exact absurd HA.out (by simp [zB5.l1])
         | succ k3 =>
          have H := HA.out
          clear HA
          simp only [zB5.l1] at H
          by_cases c30 : x5_3 < (l0_1.length : Int)
          ·rw [if_pos c30] at H
           have c30b0 : decide (x5_3 < (l0_1.length : Int)) = true := decide_eq_true c30
           clear c30
           obtain ⟨ji31, hji31⟩ : ∃ j_ : Int, (wrap64 (x5_3 - 1)) = j_ := ⟨_, rfl⟩
           replace H : (if 0 ≤ (ji31) then (if (ji31) < (l0_1.length : Int) then (if 0 ≤ x5_3 then ((zBy.f k3 ((zB4 l0_1 (ji31)).f0) ((zB4 l0_1 (ji31)).f1) ((zB4 l0_1 x5_3).f0) ((zB4 l0_1 x5_3).f1)).bind fun t135 => (if t135 ≥ 0 then (some 8) else (zB5.l1 k3 (wrap64 (x5_3 + 1)) a0_0 l0_1))) else (none)) else (none)) else (none)) = some r := by first | (rw [hji31] at H; exact H) | (simp only [hji31] at H ⊢; exact H)
           have hji31w : (IntKind.i64.wrap (x5_3 - 1)) = ji31 := (i64_w _).trans hji31
           by_cases c32 : 0 ≤ (ji31)
           rotate_left
           ·rw [if_neg c32] at H
            exact absurd H (by simp)
           rw [if_pos c32] at H
           have c32b0 : decide (0 ≤ (ji31)) = true := decide_eq_true c32
           clear c32
           by_cases c33 : (ji31) < (l0_1.length : Int)
           rotate_left
           ·rw [if_neg c33] at H
            exact absurd H (by simp)
           rw [if_pos c33] at H
           have c33b0 : decide ((ji31) < (l0_1.length : Int)) = true := decide_eq_true c33
           clear c33
           by_cases c34 : 0 ≤ x5_3
           rotate_left
           ·rw [if_neg c34] at H
            exact absurd H (by simp)
           rw [if_pos c34] at H
           have c34b0 : decide (0 ≤ x5_3) = true := decide_eq_true c34
           clear c34
           replace H := Option.bind_eq_some_iff.mp H
           obtain ⟨t135, A350, H⟩ := H
           replace H : (if t135 ≥ 0 then (some 8) else (zB5.l1 k3 (wrap64 (x5_3 + 1)) a0_0 l0_1)) = some r := H
           have A35 := zA1.mk A350
           clear A350
           by_cases c36 : t135 ≥ 0
           ·rw [if_pos c36] at H
            have c36b0 : decide (0 ≤ t135) = true := decide_eq_true c36
            clear c36
            obtain rfl := Option.some.inj H
            have hcz37_0 : wr.cell? ⟨gb128, 0, none⟩ = some (.int .i64 a0_0) := (zA9 BK128.out 0).trans rfl
            have hcz37_1 : wr.cell? ⟨gb128, 1, none⟩ = some (.slice A0_1 l0_1.length c0_1) := (zA9 BK128.out 1).trans rfl
            have hfz37_0 := zAh BK128.out 0
            have hfz37_1 := zAh BK128.out 1
            try go_wp2
            have n0_ := zA1.mk (zAf BK128.out)
            have n1_ := zA1.mk (zA3 HB.out)
            clear BK128
            clear HB
            have BK128 := n0_
            have HB := n1_
            clear n0_ n1_
            have p133 : 0 ≤ ((ji31) : Int) := of_decide_eq_true (by first | (with_reducible assumption) | assumption)
            have q133 : (ji31) < (l0_1.length : Int) := of_decide_eq_true (by first | (with_reducible assumption) | assumption)
            obtain ⟨ad133, e133, hx133_0, hx133_1⟩ := at_T68 HR0_1.out (ji31) p133 q133
            have hw133_1 := hx133_1
            have hw133_0 := hx133_0
            cases e133
            replace hx133_0 := (HB.out.cell (World.block_lt_of_cell? w _ hx133_0)).trans hx133_0
            replace hx133_1 := (HB.out.cell (World.block_lt_of_cell? w _ hx133_1)).trans hx133_1
            replace p133 := eq_true p133
            replace q133 := eq_true q133
            have p134 : 0 ≤ (x5_3 : Int) := of_decide_eq_true (by first | (with_reducible assumption) | assumption)
            have q134 : x5_3 < (l0_1.length : Int) := of_decide_eq_true (by first | (with_reducible assumption) | assumption)
            obtain ⟨ad134, e134, hx134_0, hx134_1⟩ := at_T68 HR0_1.out x5_3 p134 q134
            have hw134_1 := hx134_1
            have hw134_0 := hx134_0
            obtain rfl : ad133 = ad134 := (by injection e134)
            replace hx134_0 := (HB.out.cell (World.block_lt_of_cell? w _ hx134_0)).trans hx134_0
            replace hx134_1 := (HB.out.cell (World.block_lt_of_cell? w _ hx134_1)).trans hx134_1
            replace p134 := eq_true p134
            replace q134 := eq_true q134
            refine start_ (n := 13) (S := fun w' => w'.cell? ⟨gb128, 0, none⟩ = some (.int .i64 a0_0) ∧ w'.cell? ⟨gb128, 1, none⟩ = some (.slice (some ad133) l0_1.length c0_1) ∧ w'.cell? (ad133.add (((ji31)).toNat * 2)) = some (.int .i64 ((zB4 l0_1 (ji31)).f0)) ∧ w'.cell? ⟨(ad133.add (((ji31)).toNat * 2)).block, (ad133.add (((ji31)).toNat * 2)).off + 1, none⟩ = some (.int .i64 ((zB4 l0_1 (ji31)).f1)) ∧ w'.cell? (ad133.add ((x5_3).toNat * 2)) = some (.int .i64 ((zB4 l0_1 x5_3).f0)) ∧ w'.cell? ⟨(ad133.add ((x5_3).toNat * 2)).block, (ad133.add ((x5_3).toNat * 2)).off + 1, none⟩ = some (.int .i64 ((zB4 l0_1 x5_3).f1))) (ds := []) #[false, false, false, false, false, false, false, false, false, false, false, false, false] (by kernel_rfl) rfl rfl ⟨(zA9 BK128.out 0).trans rfl, (zA9 BK128.out 1).trans rfl, ((HB.out.cell (World.block_lt_of_cell? w _ hw133_0)).trans hw133_0), ((HB.out.cell (World.block_lt_of_cell? w _ hw133_1)).trans hw133_1), ((HB.out.cell (World.block_lt_of_cell? w _ hw134_0)).trans hw134_0), ((HB.out.cell (World.block_lt_of_cell? w _ hw134_1)).trans hw134_1)⟩ (fun hHeld => ?_); refine with_tabW zB5.tab14 zB5.bits14 (fun HT_ HW_ => ?_)
            generalize wr.drew = w38 at BK128 HB hx133_0 hx133_1 hx134_0 hx134_1 hHeld ⊢
            refine pure_ (i := 0) (N := some 52) (v := ?_) (a' := ?_) #[true, false, false, false, false, false, false, false, false, false, false, false, false] rfl rfl (zAq HT_.out (by kernel_rfl)) (fun _ _ _ h => h) (Or.inl ⟨by rfl, ?_⟩) ?_ ?_
            rotate_left
            ·intro w'
             go_simp
             with_reducible rfl
            rotate_left
            ·simp only [Act.put, List.setIfInBounds_toArray, List.set_cons_zero, List.set_cons_succ, i64_w, i32_w]
             rfl
            refine pure_ (i := 2) (N := some 54) (v := ?_) (a' := ?_) #[true, false, true, false, false, false, false, false, false, false, false, false, false] rfl rfl (zAq HT_.out (by kernel_rfl)) (fun _ _ _ h => h) (Or.inl ⟨by rfl, ?_⟩) ?_ ?_
            rotate_left
            ·intro w'
             go_simp
             with_reducible rfl
            rotate_left
            ·simp only [Act.put, List.setIfInBounds_toArray, List.set_cons_zero, List.set_cons_succ, i64_w, i32_w]
             rfl
            refine pure_ (i := 3) (N := some 55) (v := ?_) (a' := ?_) #[true, false, true, true, false, false, false, false, false, false, false, false, false] rfl rfl (zAq HT_.out (by kernel_rfl)) (fun _ _ _ h => h) (Or.inl ⟨by rfl, ?_⟩) ?_ ?_
            rotate_left
            ·intro w'
             go_simp
             with_reducible rfl
            rotate_left
            ·simp only [Act.put, List.setIfInBounds_toArray, List.set_cons_zero, List.set_cons_succ, i64_w, i32_w]
             rfl
            refine pure_ (i := 6) (N := some 58) (v := ?_) (a' := ?_) #[true, false, true, true, false, false, true, false, false, false, false, false, false] rfl rfl (zAq HT_.out (by kernel_rfl)) (fun _ _ _ h => h) (Or.inl ⟨by rfl, ?_⟩) ?_ ?_
            rotate_left
            ·intro w'
             go_simp
             with_reducible rfl
            rotate_left
            ·simp only [Act.put, List.setIfInBounds_toArray, List.set_cons_zero, List.set_cons_succ, i64_w, i32_w]
             rfl
            refine pure_ (i := 8) (N := some 60) (v := ?_) (a' := ?_) #[true, false, true, true, false, false, true, false, true, false, false, false, false] rfl rfl (zAq HT_.out (by kernel_rfl)) (fun _ _ _ h => h) (Or.inl ⟨by rfl, ?_⟩) ?_ ?_
            rotate_left
            ·intro w'
             go_simp
             with_reducible rfl
            rotate_left
            ·simp only [Act.put, List.setIfInBounds_toArray, List.set_cons_zero, List.set_cons_succ, i64_w, i32_w]
             rfl
            refine take_ (i := 1) (N := some 53) (v := ?_) (a' := ?_) #[true, true, true, true, false, false, true, false, true, false, false, false, false] rfl rfl (zC3 HT_.out HW_.out (by kernel_rfl)) (fun _ _ _ h => h) (Or.inl ⟨by rfl, ?_⟩) hHeld ?_ ?_
            rotate_left
            ·rintro w' ⟨s0, s1, s2, s3, s4, s5⟩
             go_simp
             with_reducible rfl
            rotate_left
            ·simp only [Act.put, List.setIfInBounds_toArray, List.set_cons_zero, List.set_cons_succ, i64_w, i32_w]
             rfl
            refine pure_ (i := 4) (N := some 56) (v := ?_) (a' := ?_) #[true, true, true, true, true, false, true, false, true, false, false, false, false] rfl rfl (zAq HT_.out (by kernel_rfl)) (fun _ _ _ h => h) (Or.inl ⟨by rfl, ?_⟩) ?_ ?_
            rotate_left
            ·intro w'
             go_simp
             with_reducible rfl
            rotate_left
            ·simp only [Act.put, List.setIfInBounds_toArray, List.set_cons_zero, List.set_cons_succ, i64_w, i32_w]
             rfl
            refine take_ (i := 5) (N := some 57) (v := ?_) (a' := ?_) #[true, true, true, true, true, true, true, false, true, false, false, false, false] rfl rfl (zC3 HT_.out HW_.out (by kernel_rfl)) (fun _ _ _ h => h) (Or.inl ⟨by rfl, ?_⟩) hHeld ?_ ?_
            rotate_left
            ·rintro w' ⟨s0, s1, s2, s3, s4, s5⟩
             go_simp
             with_reducible rfl
            rotate_left
            ·simp only [Act.put, List.setIfInBounds_toArray, List.set_cons_zero, List.set_cons_succ, i64_w, i32_w]
             rfl
            refine take_ (i := 7) (N := some 59) (v := ?_) (a' := ?_) #[true, true, true, true, true, true, true, true, true, false, false, false, false] rfl rfl (zC3 HT_.out HW_.out (by kernel_rfl)) (fun _ _ _ h => h) (Or.inl ⟨by rfl, ?_⟩) hHeld ?_ ?_
            rotate_left
            ·rintro w' ⟨s0, s1, s2, s3, s4, s5⟩
             go_simp
             with_reducible rfl
            rotate_left
            ·simp only [Act.put, List.setIfInBounds_toArray, List.set_cons_zero, List.set_cons_succ, i64_w, i32_w]
             rfl
            refine pure_ (i := 9) (N := some 61) (v := ?_) (a' := ?_) #[true, true, true, true, true, true, true, true, true, true, false, false, false] rfl rfl (zAq HT_.out (by kernel_rfl)) (fun _ _ _ h => h) (Or.inl ⟨by rfl, ?_⟩) ?_ ?_
            rotate_left
            ·intro w'
             go_simp
             with_reducible rfl
            rotate_left
            ·simp only [Act.put, List.setIfInBounds_toArray, List.set_cons_zero, List.set_cons_succ, i64_w, i32_w]
             rfl
            refine take_ (i := 10) (N := some 62) (v := ?_) (a' := ?_) #[true, true, true, true, true, true, true, true, true, true, true, false, false] rfl rfl (zC3 HT_.out HW_.out (by kernel_rfl)) (fun _ _ _ h => h) (Or.inl ⟨by rfl, ?_⟩) hHeld ?_ ?_
            rotate_left
            ·rintro w' ⟨s0, s1, s2, s3, s4, s5⟩
             go_simp
             with_reducible rfl
            rotate_left
            ·simp only [Act.put, List.setIfInBounds_toArray, List.set_cons_zero, List.set_cons_succ, i64_w, i32_w]
             rfl
            refine one_ (i := 11) (N := some 63) #[true, true, true, true, true, true, true, true, true, true, true, true, false] rfl rfl (one_of HT_.out (by kernel_rfl)) (by decide) (fun K hK => ?_)
            refine goes_ Tryd.func64 (by kernel_rfl) rfl #[.agg #[.int .i64 ((zB4 l0_1 (ji31)).f0), .int .i64 ((zB4 l0_1 (ji31)).f1)], .agg #[.int .i64 ((zB4 l0_1 x5_3).f0), .int .i64 ((zB4 l0_1 x5_3).f1)]] (by rfl) rfl rfl (by (try simp only [List.map_toArray, List.map_cons, List.map_nil]); first | done | (simp only [hji31]; rfl) | rfl | (simp only [List.length_drop, List.length_take]; rfl)) ?_
            with_reducible refine (zBy.calls k3 ((zB4 l0_1 (ji31)).f0) ((zB4 l0_1 (ji31)).f1) ((zB4 l0_1 x5_3).f0) ((zB4 l0_1 x5_3).f1) t135 _ A35.out).mono ?_
            rintro e w39 ⟨rfl, hb⟩
            refine ⟨_, rfl, ?_⟩
            have n0_ := zA1.mk (zBc (g := gb128) (o := .cells #[.int .i64 a0_0, .slice (some ad133) l0_1.length c0_1] 28 (0, 0)) (by (with_reducible repeat (first | refine zAb ?_ _ | refine zAf ?_ | refine zAa ?_ _)); exact BK128.out) hb)
            have n1_ := zA1.mk (zAm (by repeat (first | (with_reducible first | exact HB.out | apply zA2 | apply zA0 | apply zA3 | refine zA7 ?_ GE128.out) | exact HB.out)) hb)
            clear BK128
            clear HB
            have BK128 := n0_
            have HB := n1_
            clear n0_ n1_
            (try clear hb)
            (try clear hb2)
            (try clear hk)
            (try clear hi)
            refine hK.out _ _ ⟨(zA9 BK128.out 0).trans rfl, (zA9 BK128.out 1).trans rfl, ((HB.out.cell (World.block_lt_of_cell? w _ hw133_0)).trans hw133_0), ((HB.out.cell (World.block_lt_of_cell? w _ hw133_1)).trans hw133_1), ((HB.out.cell (World.block_lt_of_cell? w _ hw134_0)).trans hw134_0), ((HB.out.cell (World.block_lt_of_cell? w _ hw134_1)).trans hw134_1)⟩ (fun hHeld => ?_)
            clear hK K
            refine norm_ (a' := ?_) ?_ ?_
            rotate_left
            ·show Act.put _ (some 63) _ = _
             simp only [Act.put, List.setIfInBounds_toArray, List.set_cons_zero, List.set_cons_succ, i64_w, i32_w]
             rfl
            refine pure_ (i := 12) (N := some 64) (v := ?_) (a' := ?_) #[true, true, true, true, true, true, true, true, true, true, true, true, true] rfl rfl (zAq HT_.out (by kernel_rfl)) (fun _ _ _ h => h) (Or.inl ⟨by rfl, ?_⟩) ?_ ?_
            rotate_left
            ·intro w'
             go_simp
             with_reducible rfl
            rotate_left
            ·simp only [Act.put, List.setIfInBounds_toArray, List.set_cons_zero, List.set_cons_succ, i64_w, i32_w]
             rfl
            refine done_ (done_of HT_.out (by kernel_rfl)) ?_
            try go_wp2
            go_ret
            exact ⟨by first | rfl | (simp [zAx, zAw] <;> rfl) | (simp only [← hji31]; first | rfl | (simp [zAx, zAw] <;> rfl)) | (simp [*, zAx, zAw] <;> rfl), by repeat (first | (with_reducible first | exact HB.out | apply zA2 | apply zA0 | apply zA3 | refine zA7 ?_ GE128.out) | exact HB.out)⟩
           ·rw [if_neg c36] at H
            have c36b0 : decide (0 ≤ t135) = false := decide_eq_false c36
            clear c36
            have H' := zA1.mk H
            clear H
            have hcz40_0 : wr.cell? ⟨gb128, 0, none⟩ = some (.int .i64 a0_0) := (zA9 BK128.out 0).trans rfl
            have hcz40_1 : wr.cell? ⟨gb128, 1, none⟩ = some (.slice A0_1 l0_1.length c0_1) := (zA9 BK128.out 1).trans rfl
            have hfz40_0 := zAh BK128.out 0
            have hfz40_1 := zAh BK128.out 1
            try go_wp2
            have n0_ := zA1.mk (zAf BK128.out)
            have n1_ := zA1.mk (zA3 HB.out)
            clear BK128
            clear HB
            have BK128 := n0_
            have HB := n1_
            clear n0_ n1_
            have p133 : 0 ≤ ((ji31) : Int) := of_decide_eq_true (by first | (with_reducible assumption) | assumption)
            have q133 : (ji31) < (l0_1.length : Int) := of_decide_eq_true (by first | (with_reducible assumption) | assumption)
            obtain ⟨ad133, e133, hx133_0, hx133_1⟩ := at_T68 HR0_1.out (ji31) p133 q133
            have hw133_1 := hx133_1
            have hw133_0 := hx133_0
            cases e133
            replace hx133_0 := (HB.out.cell (World.block_lt_of_cell? w _ hx133_0)).trans hx133_0
            replace hx133_1 := (HB.out.cell (World.block_lt_of_cell? w _ hx133_1)).trans hx133_1
            replace p133 := eq_true p133
            replace q133 := eq_true q133
            have p134 : 0 ≤ (x5_3 : Int) := of_decide_eq_true (by first | (with_reducible assumption) | assumption)
            have q134 : x5_3 < (l0_1.length : Int) := of_decide_eq_true (by first | (with_reducible assumption) | assumption)
            obtain ⟨ad134, e134, hx134_0, hx134_1⟩ := at_T68 HR0_1.out x5_3 p134 q134
            have hw134_1 := hx134_1
            have hw134_0 := hx134_0
            obtain rfl : ad133 = ad134 := (by injection e134)
            replace hx134_0 := (HB.out.cell (World.block_lt_of_cell? w _ hx134_0)).trans hx134_0
            replace hx134_1 := (HB.out.cell (World.block_lt_of_cell? w _ hx134_1)).trans hx134_1
            replace p134 := eq_true p134
            replace q134 := eq_true q134
            refine start_ (n := 13) (S := fun w' => w'.cell? ⟨gb128, 0, none⟩ = some (.int .i64 a0_0) ∧ w'.cell? ⟨gb128, 1, none⟩ = some (.slice (some ad133) l0_1.length c0_1) ∧ w'.cell? (ad133.add (((ji31)).toNat * 2)) = some (.int .i64 ((zB4 l0_1 (ji31)).f0)) ∧ w'.cell? ⟨(ad133.add (((ji31)).toNat * 2)).block, (ad133.add (((ji31)).toNat * 2)).off + 1, none⟩ = some (.int .i64 ((zB4 l0_1 (ji31)).f1)) ∧ w'.cell? (ad133.add ((x5_3).toNat * 2)) = some (.int .i64 ((zB4 l0_1 x5_3).f0)) ∧ w'.cell? ⟨(ad133.add ((x5_3).toNat * 2)).block, (ad133.add ((x5_3).toNat * 2)).off + 1, none⟩ = some (.int .i64 ((zB4 l0_1 x5_3).f1))) (ds := []) #[false, false, false, false, false, false, false, false, false, false, false, false, false] (by kernel_rfl) rfl rfl ⟨(zA9 BK128.out 0).trans rfl, (zA9 BK128.out 1).trans rfl, ((HB.out.cell (World.block_lt_of_cell? w _ hw133_0)).trans hw133_0), ((HB.out.cell (World.block_lt_of_cell? w _ hw133_1)).trans hw133_1), ((HB.out.cell (World.block_lt_of_cell? w _ hw134_0)).trans hw134_0), ((HB.out.cell (World.block_lt_of_cell? w _ hw134_1)).trans hw134_1)⟩ (fun hHeld => ?_); refine with_tabW zB5.tab14 zB5.bits14 (fun HT_ HW_ => ?_)
            generalize wr.drew = w41 at BK128 HB hx133_0 hx133_1 hx134_0 hx134_1 hHeld ⊢
            refine pure_ (i := 0) (N := some 52) (v := ?_) (a' := ?_) #[true, false, false, false, false, false, false, false, false, false, false, false, false] rfl rfl (zAq HT_.out (by kernel_rfl)) (fun _ _ _ h => h) (Or.inl ⟨by rfl, ?_⟩) ?_ ?_
            rotate_left
            ·intro w'
             go_simp
             with_reducible rfl
            rotate_left
            ·simp only [Act.put, List.setIfInBounds_toArray, List.set_cons_zero, List.set_cons_succ, i64_w, i32_w]
             rfl
            refine pure_ (i := 2) (N := some 54) (v := ?_) (a' := ?_) #[true, false, true, false, false, false, false, false, false, false, false, false, false] rfl rfl (zAq HT_.out (by kernel_rfl)) (fun _ _ _ h => h) (Or.inl ⟨by rfl, ?_⟩) ?_ ?_
            rotate_left
            ·intro w'
             go_simp
             with_reducible rfl
            rotate_left
            ·simp only [Act.put, List.setIfInBounds_toArray, List.set_cons_zero, List.set_cons_succ, i64_w, i32_w]
             rfl
            refine pure_ (i := 3) (N := some 55) (v := ?_) (a' := ?_) #[true, false, true, true, false, false, false, false, false, false, false, false, false] rfl rfl (zAq HT_.out (by kernel_rfl)) (fun _ _ _ h => h) (Or.inl ⟨by rfl, ?_⟩) ?_ ?_
            rotate_left
            ·intro w'
             go_simp
             with_reducible rfl
            rotate_left
            ·simp only [Act.put, List.setIfInBounds_toArray, List.set_cons_zero, List.set_cons_succ, i64_w, i32_w]
             rfl
            refine pure_ (i := 6) (N := some 58) (v := ?_) (a' := ?_) #[true, false, true, true, false, false, true, false, false, false, false, false, false] rfl rfl (zAq HT_.out (by kernel_rfl)) (fun _ _ _ h => h) (Or.inl ⟨by rfl, ?_⟩) ?_ ?_
            rotate_left
            ·intro w'
             go_simp
             with_reducible rfl
            rotate_left
            ·simp only [Act.put, List.setIfInBounds_toArray, List.set_cons_zero, List.set_cons_succ, i64_w, i32_w]
             rfl
            refine pure_ (i := 8) (N := some 60) (v := ?_) (a' := ?_) #[true, false, true, true, false, false, true, false, true, false, false, false, false] rfl rfl (zAq HT_.out (by kernel_rfl)) (fun _ _ _ h => h) (Or.inl ⟨by rfl, ?_⟩) ?_ ?_
            rotate_left
            ·intro w'
             go_simp
             with_reducible rfl
            rotate_left
            ·simp only [Act.put, List.setIfInBounds_toArray, List.set_cons_zero, List.set_cons_succ, i64_w, i32_w]
             rfl
            refine take_ (i := 1) (N := some 53) (v := ?_) (a' := ?_) #[true, true, true, true, false, false, true, false, true, false, false, false, false] rfl rfl (zC3 HT_.out HW_.out (by kernel_rfl)) (fun _ _ _ h => h) (Or.inl ⟨by rfl, ?_⟩) hHeld ?_ ?_
            rotate_left
            ·rintro w' ⟨s0, s1, s2, s3, s4, s5⟩
             go_simp
             with_reducible rfl
            rotate_left
            ·simp only [Act.put, List.setIfInBounds_toArray, List.set_cons_zero, List.set_cons_succ, i64_w, i32_w]
             rfl
            refine pure_ (i := 4) (N := some 56) (v := ?_) (a' := ?_) #[true, true, true, true, true, false, true, false, true, false, false, false, false] rfl rfl (zAq HT_.out (by kernel_rfl)) (fun _ _ _ h => h) (Or.inl ⟨by rfl, ?_⟩) ?_ ?_
            rotate_left
            ·intro w'
             go_simp
             with_reducible rfl
            rotate_left
            ·simp only [Act.put, List.setIfInBounds_toArray, List.set_cons_zero, List.set_cons_succ, i64_w, i32_w]
             rfl
            refine take_ (i := 5) (N := some 57) (v := ?_) (a' := ?_) #[true, true, true, true, true, true, true, false, true, false, false, false, false] rfl rfl (zC3 HT_.out HW_.out (by kernel_rfl)) (fun _ _ _ h => h) (Or.inl ⟨by rfl, ?_⟩) hHeld ?_ ?_
            rotate_left
            ·rintro w' ⟨s0, s1, s2, s3, s4, s5⟩
             go_simp
             with_reducible rfl
            rotate_left
            ·simp only [Act.put, List.setIfInBounds_toArray, List.set_cons_zero, List.set_cons_succ, i64_w, i32_w]
             rfl
            refine take_ (i := 7) (N := some 59) (v := ?_) (a' := ?_) #[true, true, true, true, true, true, true, true, true, false, false, false, false] rfl rfl (zC3 HT_.out HW_.out (by kernel_rfl)) (fun _ _ _ h => h) (Or.inl ⟨by rfl, ?_⟩) hHeld ?_ ?_
            rotate_left
            ·rintro w' ⟨s0, s1, s2, s3, s4, s5⟩
             go_simp
             with_reducible rfl
            rotate_left
            ·simp only [Act.put, List.setIfInBounds_toArray, List.set_cons_zero, List.set_cons_succ, i64_w, i32_w]
             rfl
            refine pure_ (i := 9) (N := some 61) (v := ?_) (a' := ?_) #[true, true, true, true, true, true, true, true, true, true, false, false, false] rfl rfl (zAq HT_.out (by kernel_rfl)) (fun _ _ _ h => h) (Or.inl ⟨by rfl, ?_⟩) ?_ ?_
            rotate_left
            ·intro w'
             go_simp
             with_reducible rfl
            rotate_left
            ·simp only [Act.put, List.setIfInBounds_toArray, List.set_cons_zero, List.set_cons_succ, i64_w, i32_w]
             rfl
            refine take_ (i := 10) (N := some 62) (v := ?_) (a' := ?_) #[true, true, true, true, true, true, true, true, true, true, true, false, false] rfl rfl (zC3 HT_.out HW_.out (by kernel_rfl)) (fun _ _ _ h => h) (Or.inl ⟨by rfl, ?_⟩) hHeld ?_ ?_
            rotate_left
            ·rintro w' ⟨s0, s1, s2, s3, s4, s5⟩
             go_simp
             with_reducible rfl
            rotate_left
            ·simp only [Act.put, List.setIfInBounds_toArray, List.set_cons_zero, List.set_cons_succ, i64_w, i32_w]
             rfl
            refine one_ (i := 11) (N := some 63) #[true, true, true, true, true, true, true, true, true, true, true, true, false] rfl rfl (one_of HT_.out (by kernel_rfl)) (by decide) (fun K hK => ?_)
            refine goes_ Tryd.func64 (by kernel_rfl) rfl #[.agg #[.int .i64 ((zB4 l0_1 (ji31)).f0), .int .i64 ((zB4 l0_1 (ji31)).f1)], .agg #[.int .i64 ((zB4 l0_1 x5_3).f0), .int .i64 ((zB4 l0_1 x5_3).f1)]] (by rfl) rfl rfl (by (try simp only [List.map_toArray, List.map_cons, List.map_nil]); first | done | (simp only [hji31]; rfl) | rfl | (simp only [List.length_drop, List.length_take]; rfl)) ?_
            with_reducible refine (zBy.calls k3 ((zB4 l0_1 (ji31)).f0) ((zB4 l0_1 (ji31)).f1) ((zB4 l0_1 x5_3).f0) ((zB4 l0_1 x5_3).f1) t135 _ A35.out).mono ?_
            rintro e w42 ⟨rfl, hb⟩
            refine ⟨_, rfl, ?_⟩
            have n0_ := zA1.mk (zBc (g := gb128) (o := .cells #[.int .i64 a0_0, .slice (some ad133) l0_1.length c0_1] 28 (0, 0)) (by (with_reducible repeat (first | refine zAb ?_ _ | refine zAf ?_ | refine zAa ?_ _)); exact BK128.out) hb)
            have n1_ := zA1.mk (zAm (by repeat (first | (with_reducible first | exact HB.out | apply zA2 | apply zA0 | apply zA3 | refine zA7 ?_ GE128.out) | exact HB.out)) hb)
            clear BK128
            clear HB
            have BK128 := n0_
            have HB := n1_
            clear n0_ n1_
            (try clear hb)
            (try clear hb2)
            (try clear hk)
            (try clear hi)
            refine hK.out _ _ ⟨(zA9 BK128.out 0).trans rfl, (zA9 BK128.out 1).trans rfl, ((HB.out.cell (World.block_lt_of_cell? w _ hw133_0)).trans hw133_0), ((HB.out.cell (World.block_lt_of_cell? w _ hw133_1)).trans hw133_1), ((HB.out.cell (World.block_lt_of_cell? w _ hw134_0)).trans hw134_0), ((HB.out.cell (World.block_lt_of_cell? w _ hw134_1)).trans hw134_1)⟩ (fun hHeld => ?_)
            clear hK K
            refine norm_ (a' := ?_) ?_ ?_
            rotate_left
            ·show Act.put _ (some 63) _ = _
             simp only [Act.put, List.setIfInBounds_toArray, List.set_cons_zero, List.set_cons_succ, i64_w, i32_w]
             rfl
            refine pure_ (i := 12) (N := some 64) (v := ?_) (a' := ?_) #[true, true, true, true, true, true, true, true, true, true, true, true, true] rfl rfl (zAq HT_.out (by kernel_rfl)) (fun _ _ _ h => h) (Or.inl ⟨by rfl, ?_⟩) ?_ ?_
            rotate_left
            ·intro w'
             go_simp
             with_reducible rfl
            rotate_left
            ·simp only [Act.put, List.setIfInBounds_toArray, List.set_cons_zero, List.set_cons_succ, i64_w, i32_w]
             rfl
            refine done_ (done_of HT_.out (by kernel_rfl)) ?_
            try go_wp2
            go_roundg k3
            case measure => have := HJ1.out; have := HK2.out; have := HK3.out; omega
            case rel => exact ⟨(wrap64 (x5_3 + 1)), (by first | rfl | (simp; done) | (simp [*]; done)), H', ⟨by have := HJ1.out; have := HK2.out; have := HK3.out; omega⟩, ⟨by (with_reducible repeat (first | refine zAb ?_ _ | refine zAf ?_ | refine zAa ?_ _)); exact BK128.out⟩, ⟨by repeat (first | (with_reducible first | exact HB.out | apply zA2 | apply zA0 | apply zA3 | refine zA7 ?_ GE128.out) | exact HB.out)⟩⟩
          ·rw [if_neg c30] at H
           have c30b0 : decide (x5_3 < (l0_1.length : Int)) = false := decide_eq_false c30
           clear c30
           obtain rfl := Option.some.inj H
           have hcz43_0 : wr.cell? ⟨gb128, 0, none⟩ = some (.int .i64 a0_0) := (zA9 BK128.out 0).trans rfl
           have hcz43_1 : wr.cell? ⟨gb128, 1, none⟩ = some (.slice A0_1 l0_1.length c0_1) := (zA9 BK128.out 1).trans rfl
           have hfz43_0 := zAh BK128.out 0
           have hfz43_1 := zAh BK128.out 1
           go_wp2
           go_ret
           exact ⟨by first | rfl | (simp [zAx, zAw] <;> rfl) | (simp [*, zAx, zAw] <;> rfl), by repeat (first | (with_reducible first | exact HB.out | apply zA2 | apply zA0 | apply zA3 | refine zA7 ?_ GE128.out) | exact HB.out)⟩
end
end Go.Proofs.YtbghfbhlbfcloaaDoor.PL
namespace Go.Proofs.YtbghfbhlbfcloaaDoor.PL
section
open Go.RowKit Go.Proofs.YtbghfbhlbfcloaaDoorW.PrintWords Go.Proofs.YtbghfbhlbfcloaaDoorW.PrintLast Go.Proofs.YtbghfbhlbfcloaaDoorW.PrintMore
attribute [local go_sem] zBw zBu zC7 zC6 zBo zBn zBv zBt   -- for this text's walks alone
set_option linter.unusedVariables false
set_option linter.unusedSimpArgs false
attribute [local go_sem high] eqA68
def zBk.l0 : Nat → List (S68) → Int → Int → Int → List (S68) → Option (Int)
 | 0, _, _, _, _, _ => none
 | k + 1, x15, x16, x17, x141000, x141001 => if x17 < x16 then (if 0 ≤ x17 then (if x17 < (x15.length : Int) then (if ((zB4 x15 x17).f0) = ((zB4 x15 x17).f1) then (some 17) else ((graph_Edge_73.f k x141001 ((zB4 x15 x17).f1) ((zB4 x15 x17).f0)).bind fun t144 => (if t144 = true then (zBk.l0 k x15 x16 (wrap64 (x17 + 1)) x141000 x141001) else (some 10)))) else (none)) else (none)) else (some 0)
def zBk.f (k : Nat) (a0_0 : Int) (l0_1 : List (S68)) : Option (Int) := (zB5.f k a0_0 l0_1).bind fun t141 => (if t141 = 0 then (if a0_0 > 12 then (some 6) else (zBk.l0 k l0_1 (l0_1.length : Int) 0 a0_0 l0_1)) else (some t141))
theorem zBk.zBq : ∀ k, (∀ y0 y1 y2 y3 y4, LeO (zBk.l0 k y0 y1 y2 y3 y4) (zBk.l0 (k + 1) y0 y1 y2 y3 y4))
 | 0 => fun _ _ _ _ _ r h => by simp [zBk.l0] at h
 | k + 1 => by
  have ih0 := zBk.zBq k
  ·intro y0 y1 y2 y3 y4
   unfold zBk.l0
   repeat' first
   | (with_reducible exact ih0 _ _ _ _ _)
   | (with_reducible exact zB5.mono _ _ _)
   | (with_reducible exact graph_Edge_73.mono _ _ _ _)
   | (with_reducible exact LeO.refl _)
   | (with_reducible exact LeO.none _)
   | (with_reducible refine LeO.ite ?_ ?_)
   | (with_reducible refine LeO.bind ?_ (fun _ => ?_))
theorem zBk.mono : ∀ a0 a1 k, LeO (zBk.f k a0 a1) (zBk.f (k + 1) a0 a1) := by
 intro a0 a1 k
 have ih0 := zBk.zBq k
 unfold zBk.f
 repeat' first
   | (with_reducible exact ih0 _ _ _ _ _)
   | (with_reducible exact zB5.mono _ _ _)
   | (with_reducible exact graph_Edge_73.mono _ _ _ _)
   | (with_reducible exact LeO.refl _)
   | (with_reducible exact LeO.none _)
   | (with_reducible refine LeO.ite ?_ ?_)
   | (with_reducible refine LeO.bind ?_ (fun _ => ?_))
set_option maxHeartbeats 8000000 in
set_option maxRecDepth 100000 in
theorem zBk.calls (k : Nat) (a0_0 : Int) (A0_1 : Option Addr) (c0_1 : Nat) (l0_1 : List (S68)) (r : Int) (w : World) (hr0_1 : Kd.C k68 w A0_1 l0_1.length l0_1) (hc0_1 : l0_1.length ≤ c0_1) (h : zBk.f k a0_0 l0_1 = some r) :
  Calls Tryd.prog 45 #[.agg #[.int .i64 a0_0, .slice A0_1 l0_1.length c0_1]] w fun e w' => e = .returned (.int .i64 r) ∧ Below w.heap.size w w' := by
 have hu28 := Tryd.underlying28
 have hu68 := Tryd.underlying68
 have HR0_1 := zA1.mk hr0_1
 have HC0_1 := zA1.mk hc0_1
 clear hr0_1 hc0_1
 have HB := zA1.mk (Below.refl w.heap.size w)
 have H : ((zB5.f k a0_0 l0_1).bind fun t141 => (if t141 = 0 then (if a0_0 > 12 then (some 6) else (zBk.l0 k l0_1 (l0_1.length : Int) 0 a0_0 l0_1)) else (some t141))) = some r := h
 clear h
 replace H := Option.bind_eq_some_iff.mp H
 obtain ⟨t141, A20, H⟩ := H
 replace H : (if t141 = 0 then (if a0_0 > 12 then (some 6) else (zBk.l0 k l0_1 (l0_1.length : Int) 0 a0_0 l0_1)) else (some t141)) = some r := H
 have A2 := zA1.mk A20
 clear A20
 by_cases c3 : t141 = 0
 ·rw [if_pos c3] at H
  have c3b0 : (t141 == 0) = true := beq_iff_eq.mpr c3
  have c3b1 : (t141 != 0) = false := bne_eq_false_iff_eq.mpr c3
  clear c3
  by_cases c4 : a0_0 > 12
  ·rw [if_pos c4] at H
   have c4b0 : decide (12 < a0_0) = true := decide_eq_true c4
   clear c4
   obtain rfl := Option.some.inj H
   go_enter Tryd.func45, Tryd.ntmps45
   go_wp2_with (first | ((with_reducible refine zBl (N := 1) rfl ?_); refine zBp ?hg (N := 1) ?hd (cs := #[.int .i64 a0_0, .slice A0_1 l0_1.length c0_1]) (t := 28) ?hr ?_; (case hd => rfl); (case hg => rfl); (case hr => first | (go_simp; done) | (go_simp; rfl)); intro gb140 hg w5 hbox hb; have n0_ := zA1.mk (zAm (by repeat (first | (with_reducible first | exact HB.out | apply zA2 | apply zA0 | apply zA3) | exact HB.out)) hb); have n1_ := zA1.mk (hbox); have n2_ := zA1.mk ((by rw [hg]; exact (zAc (by repeat (first | (with_reducible first | exact HB.out | apply zA2 | apply zA0 | apply zA3) | exact HB.out))) : w.heap.size ≤ gb140)); have n3_ := zA1.mk ((by rw [hg]; exact (zAc (by repeat (first | (with_reducible first | exact HB.out | apply zA2 | apply zA0 | apply zA3) | exact HB.out))) : w.heap.size ≤ gb140)); clear HB; have HB := n0_; have BK140 := n1_; have GW140 := n2_; have GE140 := n3_; clear n0_ n1_ n2_ n3_; clear hb hbox hg; have hcz6_0 : w5.cell? ⟨gb140, 0, none⟩ = some (.int .i64 a0_0) := (zA9 BK140.out 0).trans rfl; have hcz6_1 : w5.cell? ⟨gb140, 1, none⟩ = some (.slice A0_1 l0_1.length c0_1) := (zA9 BK140.out 1).trans rfl; have hfz6_0 := zAh BK140.out 0; have hfz6_1 := zAh BK140.out 1) | ((with_reducible refine zB1 (f := 72) rfl ?_); refine zC2 (some 7) rfl rfl Tryd.func72 (by kernel_rfl) rfl #[.agg #[.int .i64 a0_0, .slice A0_1 l0_1.length c0_1]] rfl (by (try simp only [List.map_toArray, List.map_cons, List.map_nil]); first | done | rfl | (simp only [List.length_drop, List.length_take]; rfl)) ?_; (with_reducible refine (zB5.calls k a0_0 _ _ l0_1 t141 _ ?side1 ?side2 A2.out).mono ?_); (case side1 => repeat (first | exact (Kd.zAy HR0_1.out HB.out) | (with_reducible refine Kd.zA8 ?_ _) | (with_reducible refine Kd.zAd ?_ _) | (with_reducible refine Kd.zAp ?_))); (case side2 => exact HC0_1.out); rintro e w7 ⟨rfl, hb⟩; refine ⟨_, rfl, ?_⟩; have n0_ := zA1.mk (zBc (g := gb140) (o := .cells #[.int .i64 a0_0, .slice A0_1 l0_1.length c0_1] 28 (0, 0)) (by (with_reducible repeat (first | refine zAb ?_ _ | refine zAf ?_ | refine zAa ?_ _)); exact BK140.out) hb); have n1_ := zA1.mk (zAm (by repeat (first | (with_reducible first | exact HB.out | apply zA2 | apply zA0 | apply zA3 | refine zA7 ?_ GE140.out) | exact HB.out)) hb); clear BK140; clear HB; have BK140 := n0_; have HB := n1_; clear n0_ n1_; (try clear hb); (try clear hb2); (try clear hk); (try clear hi); have hcz8_0 : w7.cell? ⟨gb140, 0, none⟩ = some (.int .i64 a0_0) := (zA9 BK140.out 0).trans rfl; have hcz8_1 : w7.cell? ⟨gb140, 1, none⟩ = some (.slice A0_1 l0_1.length c0_1) := (zA9 BK140.out 1).trans rfl; have hfz8_0 := zAh BK140.out 0; have hfz8_1 := zAh BK140.out 1))
   go_ret
   exact ⟨by first | rfl | (simp [zAx, zAw] <;> rfl) | (simp [*, zAx, zAw] <;> rfl), by repeat (first | (with_reducible first | exact HB.out | apply zA2 | apply zA0 | apply zA3 | refine zA7 ?_ GE140.out) | exact HB.out)⟩
  ·rw [if_neg c4] at H
   have c4b0 : decide (12 < a0_0) = false := decide_eq_false c4
   clear c4
   have H' := zA1.mk H
   clear H
   go_enter Tryd.func45, Tryd.ntmps45
   go_wp2_with (first | ((with_reducible refine zBl (N := 1) rfl ?_); refine zBp ?hg (N := 1) ?hd (cs := #[.int .i64 a0_0, .slice A0_1 l0_1.length c0_1]) (t := 28) ?hr ?_; (case hd => rfl); (case hg => rfl); (case hr => first | (go_simp; done) | (go_simp; rfl)); intro gb140 hg w9 hbox hb; have n0_ := zA1.mk (zAm (by repeat (first | (with_reducible first | exact HB.out | apply zA2 | apply zA0 | apply zA3) | exact HB.out)) hb); have n1_ := zA1.mk (hbox); have n2_ := zA1.mk ((by rw [hg]; exact (zAc (by repeat (first | (with_reducible first | exact HB.out | apply zA2 | apply zA0 | apply zA3) | exact HB.out))) : w.heap.size ≤ gb140)); have n3_ := zA1.mk ((by rw [hg]; exact (zAc (by repeat (first | (with_reducible first | exact HB.out | apply zA2 | apply zA0 | apply zA3) | exact HB.out))) : w.heap.size ≤ gb140)); clear HB; have HB := n0_; have BK140 := n1_; have GW140 := n2_; have GE140 := n3_; clear n0_ n1_ n2_ n3_; clear hb hbox hg; have hcz10_0 : w9.cell? ⟨gb140, 0, none⟩ = some (.int .i64 a0_0) := (zA9 BK140.out 0).trans rfl; have hcz10_1 : w9.cell? ⟨gb140, 1, none⟩ = some (.slice A0_1 l0_1.length c0_1) := (zA9 BK140.out 1).trans rfl; have hfz10_0 := zAh BK140.out 0; have hfz10_1 := zAh BK140.out 1) | ((with_reducible refine zB1 (f := 72) rfl ?_); refine zC2 (some 7) rfl rfl Tryd.func72 (by kernel_rfl) rfl #[.agg #[.int .i64 a0_0, .slice A0_1 l0_1.length c0_1]] rfl (by (try simp only [List.map_toArray, List.map_cons, List.map_nil]); first | done | rfl | (simp only [List.length_drop, List.length_take]; rfl)) ?_; (with_reducible refine (zB5.calls k a0_0 _ _ l0_1 t141 _ ?side1 ?side2 A2.out).mono ?_); (case side1 => repeat (first | exact (Kd.zAy HR0_1.out HB.out) | (with_reducible refine Kd.zA8 ?_ _) | (with_reducible refine Kd.zAd ?_ _) | (with_reducible refine Kd.zAp ?_))); (case side2 => exact HC0_1.out); rintro e w11 ⟨rfl, hb⟩; refine ⟨_, rfl, ?_⟩; have n0_ := zA1.mk (zBc (g := gb140) (o := .cells #[.int .i64 a0_0, .slice A0_1 l0_1.length c0_1] 28 (0, 0)) (by (with_reducible repeat (first | refine zAb ?_ _ | refine zAf ?_ | refine zAa ?_ _)); exact BK140.out) hb); have n1_ := zA1.mk (zAm (by repeat (first | (with_reducible first | exact HB.out | apply zA2 | apply zA0 | apply zA3 | refine zA7 ?_ GE140.out) | exact HB.out)) hb); clear BK140; clear HB; have BK140 := n0_; have HB := n1_; clear n0_ n1_; (try clear hb); (try clear hb2); (try clear hk); (try clear hi); have hcz12_0 : w11.cell? ⟨gb140, 0, none⟩ = some (.int .i64 a0_0) := (zA9 BK140.out 0).trans rfl; have hcz12_1 : w11.cell? ⟨gb140, 1, none⟩ = some (.slice A0_1 l0_1.length c0_1) := (zA9 BK140.out 1).trans rfl; have hfz12_0 := zAh BK140.out 0; have hfz12_1 := zAh BK140.out 1))
   go_loopg [17] k (fun kq v17 w' => ∃ (x17_1 : Int), v17 = .int .i64 x17_1 ∧ zA1 (zBk.l0 kq l0_1 (l0_1.length : Int) x17_1 a0_0 l0_1 = some r) ∧ zA1 (kq ≤ k) ∧ zA1 (w'.heap[gb140]? = some (.cells #[.int .i64 a0_0, (.slice A0_1 l0_1.length c0_1)] 28 (0, 0))) ∧ zA1 (Below w.heap.size w w'))
   case atStart => exact ⟨(0), (by first | rfl | (simp; done) | (simp [*]; done)), H', ⟨Nat.le_refl _⟩, ⟨by (with_reducible repeat (first | refine zAb ?_ _ | refine zAf ?_ | refine zAa ?_ _)); exact BK140.out⟩, ⟨by repeat (first | (with_reducible first | exact HB.out | apply zA2 | apply zA0 | apply zA3 | refine zA7 ?_ GE140.out) | exact HB.out)⟩⟩
   case round =>
    clear H'
    try clear p2
    try clear c3
    try clear c3b0
    try clear c3b1
    try clear c4
    try clear c4b0
    try clear c7
    try clear hcz10_0
    try clear hcz10_1
    try clear hcz12_0
    try clear hcz12_1
    try clear hcz6_0
    try clear hcz6_1
    try clear hcz8_0
    try clear hcz8_1
    try clear hfz10_0
    try clear hfz10_1
    try clear hfz12_0
    try clear hfz12_1
    try clear hfz6_0
    try clear hfz6_1
    try clear hfz8_0
    try clear hfz8_1
    obtain ⟨x17_1, rfl, HA, HK1, BK140, HB⟩ := hrel
    cases gk with
    | zero => exact absurd HA.out (by simp [zBk.l0])
    | succ k1 =>
     have H := HA.out
     clear HA
     simp only [zBk.l0] at H
     by_cases c13 : x17_1 < (l0_1.length : Int)
     ·rw [if_pos c13] at H
      have c13b0 : decide (x17_1 < (l0_1.length : Int)) = true := decide_eq_true c13
      clear c13
      by_cases c14 : 0 ≤ x17_1
      rotate_left
      ·rw [if_neg c14] at H
       exact absurd H (by simp)
      rw [if_pos c14] at H
      have c14b0 : decide (0 ≤ x17_1) = true := decide_eq_true c14
      clear c14
      by_cases c15 : x17_1 < (l0_1.length : Int)
      rotate_left
      ·rw [if_neg c15] at H
       exact absurd H (by simp)
      rw [if_pos c15] at H
      have c15b0 : decide (x17_1 < (l0_1.length : Int)) = true := decide_eq_true c15
      clear c15
      by_cases c16 : ((zB4 l0_1 x17_1).f0) = ((zB4 l0_1 x17_1).f1)
      ·rw [if_pos c16] at H
       have c16b0 : (((zB4 l0_1 x17_1).f0) == ((zB4 l0_1 x17_1).f1)) = true := beq_iff_eq.mpr c16
       have c16b1 : (((zB4 l0_1 x17_1).f0) != ((zB4 l0_1 x17_1).f1)) = false := bne_eq_false_iff_eq.mpr c16
       clear c16
       obtain rfl := Option.some.inj H
       have p142 : 0 ≤ (x17_1 : Int) := of_decide_eq_true (by first | (with_reducible assumption) | assumption)
       have q142 : x17_1 < (l0_1.length : Int) := of_decide_eq_true (by first | (with_reducible assumption) | assumption)
       obtain ⟨ad142, e142, hx142_0, hx142_1⟩ := at_T68 HR0_1.out x17_1 p142 q142
       cases e142
       replace hx142_0 := (HB.out.cell (World.block_lt_of_cell? w _ hx142_0)).trans hx142_0
       replace hx142_1 := (HB.out.cell (World.block_lt_of_cell? w _ hx142_1)).trans hx142_1
       replace p142 := eq_true p142
       replace q142 := eq_true q142
       go_wp2_with (first | ((with_reducible refine zBl (N := 5) rfl ?_); refine zBp ?hg (N := 5) ?hd (cs := #[.int .i64 0, .int .i64 0]) (t := 68) ?hr ?_; (case hd => rfl); (case hg => rfl); (case hr => first | (go_simp; done) | (go_simp; rfl)); intro gb143 hg w17 hbox hb; have n0_ := zA1.mk (zBc (g := gb140) (o := .cells #[.int .i64 a0_0, .slice (some ad142) l0_1.length c0_1] 28 (0, 0)) (by (with_reducible repeat (first | refine zAb ?_ _ | refine zAf ?_ | refine zAa ?_ _)); exact BK140.out) hb); have n1_ := zA1.mk (zAm (by repeat (first | (with_reducible first | exact HB.out | apply zA2 | apply zA0 | apply zA3 | refine zA7 ?_ GE140.out) | exact HB.out)) hb); have n2_ := zA1.mk (hbox); have n3_ := zA1.mk ((by rw [hg]; exact (zAc (by repeat (first | (with_reducible first | exact HB.out | apply zA2 | apply zA0 | apply zA3 | refine zA7 ?_ GE140.out) | exact HB.out))) : w.heap.size ≤ gb143)); have n4_ := zA1.mk ((by rw [hg]; exact (zAc (by repeat (first | (with_reducible first | exact HB.out | apply zA2 | apply zA0 | apply zA3 | refine zA7 ?_ GE140.out) | exact HB.out))) : w.heap.size ≤ gb143)); have n5_ := zA1.mk ((by rw [hg]; exact Nat.ne_of_lt (blk_lt (g := gb140) (o := .cells #[.int .i64 a0_0, .slice (some ad142) l0_1.length c0_1] 28 (0, 0)) (by (with_reducible repeat (first | refine zAb ?_ _ | refine zAf ?_ | refine zAa ?_ _)); exact BK140.out)) : gb140 ≠ gb143)); have n6_ := zA1.mk ((by rw [hg]; exact Nat.ne_of_gt (blk_lt (g := gb140) (o := .cells #[.int .i64 a0_0, .slice (some ad142) l0_1.length c0_1] 28 (0, 0)) (by (with_reducible repeat (first | refine zAb ?_ _ | refine zAf ?_ | refine zAa ?_ _)); exact BK140.out)) : gb143 ≠ gb140)); clear BK140; clear HB; have BK140 := n0_; have HB := n1_; have BK143 := n2_; have GW143 := n3_; have GE143 := n4_; have NB140_143 := n5_; have NB143_140 := n6_; clear n0_ n1_ n2_ n3_ n4_ n5_ n6_; clear hb hbox hg; have hnb18 := NB143_140.out; have hnc18 := NB140_143.out; have hcz19_0 : w17.cell? ⟨gb143, 0, none⟩ = some (.int .i64 0) := (zA9 BK143.out 0).trans rfl; have hcz19_1 : w17.cell? ⟨gb143, 1, none⟩ = some (.int .i64 0) := (zA9 BK143.out 1).trans rfl; have hfz19_0 := zAh BK143.out 0; have hfz19_1 := zAh BK143.out 1))
       go_ret
       exact ⟨by first | rfl | (simp [zAx, zAw] <;> rfl) | (simp [*, zAx, zAw] <;> rfl), by repeat (first | (with_reducible first | exact HB.out | apply zA2 | apply zA0 | apply zA3 | refine zA7 ?_ GE140.out | refine zA7 ?_ GE143.out) | exact HB.out)⟩
      ·rw [if_neg c16] at H
       have c16b0 : (((zB4 l0_1 x17_1).f0) == ((zB4 l0_1 x17_1).f1)) = false := beq_eq_false_iff_ne.mpr c16
       have c16b1 : (((zB4 l0_1 x17_1).f0) != ((zB4 l0_1 x17_1).f1)) = true := bne_iff_ne.mpr c16
       replace H := Option.bind_eq_some_iff.mp H
       obtain ⟨t144, A200, H⟩ := H
       replace H : (if t144 = true then (zBk.l0 k1 l0_1 (l0_1.length : Int) (wrap64 (x17_1 + 1)) a0_0 l0_1) else (some 10)) = some r := H
       have A20 := zA1.mk A200
       clear A200
       by_cases c21 : t144 = true
       ·subst c21
        have H1 : (zBk.l0 k1 l0_1 (l0_1.length : Int) (wrap64 (x17_1 + 1)) a0_0 l0_1) = some r := by rw [if_pos rfl] at H; exact H
        clear H
        have H := H1
        clear H1
        have H' := zA1.mk H
        clear H
        have p142 : 0 ≤ (x17_1 : Int) := of_decide_eq_true (by first | (with_reducible assumption) | assumption)
        have q142 : x17_1 < (l0_1.length : Int) := of_decide_eq_true (by first | (with_reducible assumption) | assumption)
        obtain ⟨ad142, e142, hx142_0, hx142_1⟩ := at_T68 HR0_1.out x17_1 p142 q142
        cases e142
        replace hx142_0 := (HB.out.cell (World.block_lt_of_cell? w _ hx142_0)).trans hx142_0
        replace hx142_1 := (HB.out.cell (World.block_lt_of_cell? w _ hx142_1)).trans hx142_1
        replace p142 := eq_true p142
        replace q142 := eq_true q142
        go_wp2_with (first | ((with_reducible refine zBl (N := 5) rfl ?_); refine zBp ?hg (N := 5) ?hd (cs := #[.int .i64 0, .int .i64 0]) (t := 68) ?hr ?_; (case hd => rfl); (case hg => rfl); (case hr => first | (go_simp; done) | (go_simp; rfl)); intro gb143 hg w22 hbox hb; have n0_ := zA1.mk (zBc (g := gb140) (o := .cells #[.int .i64 a0_0, .slice (some ad142) l0_1.length c0_1] 28 (0, 0)) (by (with_reducible repeat (first | refine zAb ?_ _ | refine zAf ?_ | refine zAa ?_ _)); exact BK140.out) hb); have n1_ := zA1.mk (zAm (by repeat (first | (with_reducible first | exact HB.out | apply zA2 | apply zA0 | apply zA3 | refine zA7 ?_ GE140.out) | exact HB.out)) hb); have n2_ := zA1.mk (hbox); have n3_ := zA1.mk ((by rw [hg]; exact (zAc (by repeat (first | (with_reducible first | exact HB.out | apply zA2 | apply zA0 | apply zA3 | refine zA7 ?_ GE140.out) | exact HB.out))) : w.heap.size ≤ gb143)); have n4_ := zA1.mk ((by rw [hg]; exact (zAc (by repeat (first | (with_reducible first | exact HB.out | apply zA2 | apply zA0 | apply zA3 | refine zA7 ?_ GE140.out) | exact HB.out))) : w.heap.size ≤ gb143)); have n5_ := zA1.mk ((by rw [hg]; exact Nat.ne_of_lt (blk_lt (g := gb140) (o := .cells #[.int .i64 a0_0, .slice (some ad142) l0_1.length c0_1] 28 (0, 0)) (by (with_reducible repeat (first | refine zAb ?_ _ | refine zAf ?_ | refine zAa ?_ _)); exact BK140.out)) : gb140 ≠ gb143)); have n6_ := zA1.mk ((by rw [hg]; exact Nat.ne_of_gt (blk_lt (g := gb140) (o := .cells #[.int .i64 a0_0, .slice (some ad142) l0_1.length c0_1] 28 (0, 0)) (by (with_reducible repeat (first | refine zAb ?_ _ | refine zAf ?_ | refine zAa ?_ _)); exact BK140.out)) : gb143 ≠ gb140)); clear BK140; clear HB; have BK140 := n0_; have HB := n1_; have BK143 := n2_; have GW143 := n3_; have GE143 := n4_; have NB140_143 := n5_; have NB143_140 := n6_; clear n0_ n1_ n2_ n3_ n4_ n5_ n6_; clear hb hbox hg; have hnb23 := NB143_140.out; have hnc23 := NB140_143.out; have hcz24_0 : w22.cell? ⟨gb143, 0, none⟩ = some (.int .i64 0) := (zA9 BK143.out 0).trans rfl; have hcz24_1 : w22.cell? ⟨gb143, 1, none⟩ = some (.int .i64 0) := (zA9 BK143.out 1).trans rfl; have hfz24_0 := zAh BK143.out 0; have hfz24_1 := zAh BK143.out 1; have hcz25_0 : w22.cell? ⟨gb140, 0, none⟩ = some (.int .i64 a0_0) := (zA9 BK140.out 0).trans rfl; have hcz25_1 : w22.cell? ⟨gb140, 1, none⟩ = some (.slice (some ad142) l0_1.length c0_1) := (zA9 BK140.out 1).trans rfl; have hfz25_0 := zAh BK140.out 0; have hfz25_1 := zAh BK140.out 1) | ((with_reducible refine zB1 (f := 73) rfl ?_); refine zC2 (some 33) rfl rfl Tryd.func73 (by kernel_rfl) rfl #[.slice (some ad142) l0_1.length c0_1, .agg #[.int .i64 ((zB4 l0_1 x17_1).f1), .int .i64 ((zB4 l0_1 x17_1).f0)]] rfl (by (try simp only [List.map_toArray, List.map_cons, List.map_nil]); first | done | rfl | (simp only [List.length_drop, List.length_take]; rfl)) ?_; (with_reducible refine (graph_Edge_73.calls k1 _ _ l0_1 ((zB4 l0_1 x17_1).f1) ((zB4 l0_1 x17_1).f0) true _ ?side1 ?side2 A20.out).mono ?_); (case side1 => exact Kd.zAy HR0_1.out (by repeat (first | (with_reducible first | exact HB.out | apply zA2 | apply zA0 | apply zA3 | refine zA7 ?_ GE140.out | refine zA7 ?_ GE143.out) | exact HB.out))); (case side2 => exact HC0_1.out); rintro e w26 ⟨rfl, hb⟩; refine ⟨_, rfl, ?_⟩; have n0_ := zA1.mk (zBc (g := gb140) (o := .cells #[.int .i64 a0_0, .slice (some ad142) l0_1.length c0_1] 28 (0, 0)) (by (with_reducible repeat (first | refine zAb ?_ _ | refine zAf ?_ | refine zAa ?_ _)); refine blk_far ?_ NB140_143.out _; (with_reducible repeat (first | refine zAb ?_ _ | refine zAf ?_ | refine zAa ?_ _)); refine blk_far ?_ NB140_143.out _; (with_reducible repeat (first | refine zAb ?_ _ | refine zAf ?_ | refine zAa ?_ _)); exact BK140.out) hb); have n1_ := zA1.mk (zBc (g := gb143) (o := .cells #[.int .i64 ((zB4 l0_1 x17_1).f0), .int .i64 ((zB4 l0_1 x17_1).f1)] 68 (0, 0)) (by (with_reducible repeat (first | refine zAb ?_ _ | refine zAf ?_ | refine zAa ?_ _)); refine blk_put (cs := #[.int .i64 ((zB4 l0_1 x17_1).f0), .int .i64 0]) ?_ 1 _ rfl; (with_reducible repeat (first | refine zAb ?_ _ | refine zAf ?_ | refine zAa ?_ _)); refine blk_put (cs := #[.int .i64 0, .int .i64 0]) ?_ 0 _ rfl; (with_reducible repeat (first | refine zAb ?_ _ | refine zAf ?_ | refine zAa ?_ _)); exact BK143.out) hb); have n2_ := zA1.mk (zAm (by repeat (first | (with_reducible first | exact HB.out | apply zA2 | apply zA0 | apply zA3 | refine zA7 ?_ GE140.out | refine zA7 ?_ GE143.out) | exact HB.out)) hb); clear BK140; clear BK143; clear HB; have BK140 := n0_; have BK143 := n1_; have HB := n2_; clear n0_ n1_ n2_; (try clear hb); (try clear hb2); (try clear hk); (try clear hi)))
        go_roundg k1
        case measure => have := HK1.out; omega
        case rel => exact ⟨(wrap64 (x17_1 + 1)), (by first | rfl | (simp; done) | (simp [*]; done)), H', ⟨by have := HK1.out; omega⟩, ⟨by (with_reducible repeat (first | refine zAb ?_ _ | refine zAf ?_ | refine zAa ?_ _)); exact BK140.out⟩, ⟨by repeat (first | (with_reducible first | exact HB.out | apply zA2 | apply zA0 | apply zA3 | refine zA7 ?_ GE140.out | refine zA7 ?_ GE143.out) | exact HB.out)⟩⟩
       ·replace c21 := Bool.eq_false_iff.mpr c21
        subst c21
        have H1 : (some 10) = some r := by rw [if_neg (show ¬ (false = true) by decide)] at H; exact H
        clear H
        have H := H1
        clear H1
        obtain rfl := Option.some.inj H
        have p142 : 0 ≤ (x17_1 : Int) := of_decide_eq_true (by first | (with_reducible assumption) | assumption)
        have q142 : x17_1 < (l0_1.length : Int) := of_decide_eq_true (by first | (with_reducible assumption) | assumption)
        obtain ⟨ad142, e142, hx142_0, hx142_1⟩ := at_T68 HR0_1.out x17_1 p142 q142
        cases e142
        replace hx142_0 := (HB.out.cell (World.block_lt_of_cell? w _ hx142_0)).trans hx142_0
        replace hx142_1 := (HB.out.cell (World.block_lt_of_cell? w _ hx142_1)).trans hx142_1
        replace p142 := eq_true p142
        replace q142 := eq_true q142
        go_wp2_with (first | ((with_reducible refine zBl (N := 5) rfl ?_); refine zBp ?hg (N := 5) ?hd (cs := #[.int .i64 0, .int .i64 0]) (t := 68) ?hr ?_; (case hd => rfl); (case hg => rfl); (case hr => first | (go_simp; done) | (go_simp; rfl)); intro gb143 hg w27 hbox hb; have n0_ := zA1.mk (zBc (g := gb140) (o := .cells #[.int .i64 a0_0, .slice (some ad142) l0_1.length c0_1] 28 (0, 0)) (by (with_reducible repeat (first | refine zAb ?_ _ | refine zAf ?_ | refine zAa ?_ _)); exact BK140.out) hb); have n1_ := zA1.mk (zAm (by repeat (first | (with_reducible first | exact HB.out | apply zA2 | apply zA0 | apply zA3 | refine zA7 ?_ GE140.out) | exact HB.out)) hb); have n2_ := zA1.mk (hbox); have n3_ := zA1.mk ((by rw [hg]; exact (zAc (by repeat (first | (with_reducible first | exact HB.out | apply zA2 | apply zA0 | apply zA3 | refine zA7 ?_ GE140.out) | exact HB.out))) : w.heap.size ≤ gb143)); have n4_ := zA1.mk ((by rw [hg]; exact (zAc (by repeat (first | (with_reducible first | exact HB.out | apply zA2 | apply zA0 | apply zA3 | refine zA7 ?_ GE140.out) | exact HB.out))) : w.heap.size ≤ gb143)); have n5_ := zA1.mk ((by rw [hg]; exact Nat.ne_of_lt (blk_lt (g := gb140) (o := .cells #[.int .i64 a0_0, .slice (some ad142) l0_1.length c0_1] 28 (0, 0)) (by (with_reducible repeat (first | refine zAb ?_ _ | refine zAf ?_ | refine zAa ?_ _)); exact BK140.out)) : gb140 ≠ gb143)); have n6_ := zA1.mk ((by rw [hg]; exact Nat.ne_of_gt (blk_lt (g := gb140) (o := .cells #[.int .i64 a0_0, .slice (some ad142) l0_1.length c0_1] 28 (0, 0)) (by (with_reducible repeat (first | refine zAb ?_ _ | refine zAf ?_ | refine zAa ?_ _)); exact BK140.out)) : gb143 ≠ gb140)); clear BK140; clear HB; have BK140 := n0_; have HB := n1_; have BK143 := n2_; have GW143 := n3_; have GE143 := n4_; have NB140_143 := n5_; have NB143_140 := n6_; clear n0_ n1_ n2_ n3_ n4_ n5_ n6_; clear hb hbox hg; have hnb28 := NB143_140.out; have hnc28 := NB140_143.out; have hcz29_0 : w27.cell? ⟨gb143, 0, none⟩ = some (.int .i64 0) := (zA9 BK143.out 0).trans rfl; have hcz29_1 : w27.cell? ⟨gb143, 1, none⟩ = some (.int .i64 0) := (zA9 BK143.out 1).trans rfl; have hfz29_0 := zAh BK143.out 0; have hfz29_1 := zAh BK143.out 1; have hcz30_0 : w27.cell? ⟨gb140, 0, none⟩ = some (.int .i64 a0_0) := (zA9 BK140.out 0).trans rfl; have hcz30_1 : w27.cell? ⟨gb140, 1, none⟩ = some (.slice (some ad142) l0_1.length c0_1) := (zA9 BK140.out 1).trans rfl; have hfz30_0 := zAh BK140.out 0; have hfz30_1 := zAh BK140.out 1) | ((with_reducible refine zB1 (f := 73) rfl ?_); refine zC2 (some 33) rfl rfl Tryd.func73 (by kernel_rfl) rfl #[.slice (some ad142) l0_1.length c0_1, .agg #[.int .i64 ((zB4 l0_1 x17_1).f1), .int .i64 ((zB4 l0_1 x17_1).f0)]] rfl (by (try simp only [List.map_toArray, List.map_cons, List.map_nil]); first | done | rfl | (simp only [List.length_drop, List.length_take]; rfl)) ?_; (with_reducible refine (graph_Edge_73.calls k1 _ _ l0_1 ((zB4 l0_1 x17_1).f1) ((zB4 l0_1 x17_1).f0) false _ ?side1 ?side2 A20.out).mono ?_); (case side1 => exact Kd.zAy HR0_1.out (by repeat (first | (with_reducible first | exact HB.out | apply zA2 | apply zA0 | apply zA3 | refine zA7 ?_ GE140.out | refine zA7 ?_ GE143.out) | exact HB.out))); (case side2 => exact HC0_1.out); rintro e w31 ⟨rfl, hb⟩; refine ⟨_, rfl, ?_⟩; have n0_ := zA1.mk (zBc (g := gb140) (o := .cells #[.int .i64 a0_0, .slice (some ad142) l0_1.length c0_1] 28 (0, 0)) (by (with_reducible repeat (first | refine zAb ?_ _ | refine zAf ?_ | refine zAa ?_ _)); refine blk_far ?_ NB140_143.out _; (with_reducible repeat (first | refine zAb ?_ _ | refine zAf ?_ | refine zAa ?_ _)); refine blk_far ?_ NB140_143.out _; (with_reducible repeat (first | refine zAb ?_ _ | refine zAf ?_ | refine zAa ?_ _)); exact BK140.out) hb); have n1_ := zA1.mk (zBc (g := gb143) (o := .cells #[.int .i64 ((zB4 l0_1 x17_1).f0), .int .i64 ((zB4 l0_1 x17_1).f1)] 68 (0, 0)) (by (with_reducible repeat (first | refine zAb ?_ _ | refine zAf ?_ | refine zAa ?_ _)); refine blk_put (cs := #[.int .i64 ((zB4 l0_1 x17_1).f0), .int .i64 0]) ?_ 1 _ rfl; (with_reducible repeat (first | refine zAb ?_ _ | refine zAf ?_ | refine zAa ?_ _)); refine blk_put (cs := #[.int .i64 0, .int .i64 0]) ?_ 0 _ rfl; (with_reducible repeat (first | refine zAb ?_ _ | refine zAf ?_ | refine zAa ?_ _)); exact BK143.out) hb); have n2_ := zA1.mk (zAm (by repeat (first | (with_reducible first | exact HB.out | apply zA2 | apply zA0 | apply zA3 | refine zA7 ?_ GE140.out | refine zA7 ?_ GE143.out) | exact HB.out)) hb); clear BK140; clear BK143; clear HB; have BK140 := n0_; have BK143 := n1_; have HB := n2_; clear n0_ n1_ n2_; (try clear hb); (try clear hb2); (try clear hk); (try clear hi)))
        go_ret
        exact ⟨by first | rfl | (simp [zAx, zAw] <;> rfl) | (simp [*, zAx, zAw] <;> rfl), by repeat (first | (with_reducible first | exact HB.out | apply zA2 | apply zA0 | apply zA3 | refine zA7 ?_ GE140.out | refine zA7 ?_ GE143.out) | exact HB.out)⟩
     ·rw [if_neg c13] at H
      have c13b0 : decide (x17_1 < (l0_1.length : Int)) = false := decide_eq_false c13
      clear c13
      obtain rfl := Option.some.inj H
      go_wp2
      go_ret
      exact ⟨by first | rfl | (simp [zAx, zAw] <;> rfl) | (simp [*, zAx, zAw] <;> rfl), by repeat (first | (with_reducible first | exact HB.out | apply zA2 | apply zA0 | apply zA3 | refine zA7 ?_ GE140.out) | exact HB.out)⟩
 ·rw [if_neg c3] at H
  have c3b0 : (t141 == 0) = false := beq_eq_false_iff_ne.mpr c3
  have c3b1 : (t141 != 0) = true := bne_iff_ne.mpr c3
  obtain rfl := Option.some.inj H
  go_enter Tryd.func45, Tryd.ntmps45
  go_wp2_with (first | ((with_reducible refine zBl (N := 1) rfl ?_); refine zBp ?hg (N := 1) ?hd (cs := #[.int .i64 a0_0, .slice A0_1 l0_1.length c0_1]) (t := 28) ?hr ?_; (case hd => rfl); (case hg => rfl); (case hr => first | (go_simp; done) | (go_simp; rfl)); intro gb140 hg w32 hbox hb; have n0_ := zA1.mk (zAm (by repeat (first | (with_reducible first | exact HB.out | apply zA2 | apply zA0 | apply zA3) | exact HB.out)) hb); have n1_ := zA1.mk (hbox); have n2_ := zA1.mk ((by rw [hg]; exact (zAc (by repeat (first | (with_reducible first | exact HB.out | apply zA2 | apply zA0 | apply zA3) | exact HB.out))) : w.heap.size ≤ gb140)); have n3_ := zA1.mk ((by rw [hg]; exact (zAc (by repeat (first | (with_reducible first | exact HB.out | apply zA2 | apply zA0 | apply zA3) | exact HB.out))) : w.heap.size ≤ gb140)); clear HB; have HB := n0_; have BK140 := n1_; have GW140 := n2_; have GE140 := n3_; clear n0_ n1_ n2_ n3_; clear hb hbox hg; have hcz33_0 : w32.cell? ⟨gb140, 0, none⟩ = some (.int .i64 a0_0) := (zA9 BK140.out 0).trans rfl; have hcz33_1 : w32.cell? ⟨gb140, 1, none⟩ = some (.slice A0_1 l0_1.length c0_1) := (zA9 BK140.out 1).trans rfl; have hfz33_0 := zAh BK140.out 0; have hfz33_1 := zAh BK140.out 1) | ((with_reducible refine zB1 (f := 72) rfl ?_); refine zC2 (some 7) rfl rfl Tryd.func72 (by kernel_rfl) rfl #[.agg #[.int .i64 a0_0, .slice A0_1 l0_1.length c0_1]] rfl (by (try simp only [List.map_toArray, List.map_cons, List.map_nil]); first | done | rfl | (simp only [List.length_drop, List.length_take]; rfl)) ?_; (with_reducible refine (zB5.calls k a0_0 _ _ l0_1 t141 _ ?side1 ?side2 A2.out).mono ?_); (case side1 => repeat (first | exact (Kd.zAy HR0_1.out HB.out) | (with_reducible refine Kd.zA8 ?_ _) | (with_reducible refine Kd.zAd ?_ _) | (with_reducible refine Kd.zAp ?_))); (case side2 => exact HC0_1.out); rintro e w34 ⟨rfl, hb⟩; refine ⟨_, rfl, ?_⟩; have n0_ := zA1.mk (zBc (g := gb140) (o := .cells #[.int .i64 a0_0, .slice A0_1 l0_1.length c0_1] 28 (0, 0)) (by (with_reducible repeat (first | refine zAb ?_ _ | refine zAf ?_ | refine zAa ?_ _)); exact BK140.out) hb); have n1_ := zA1.mk (zAm (by repeat (first | (with_reducible first | exact HB.out | apply zA2 | apply zA0 | apply zA3 | refine zA7 ?_ GE140.out) | exact HB.out)) hb); clear BK140; clear HB; have BK140 := n0_; have HB := n1_; clear n0_ n1_; (try clear hb); (try clear hb2); (try clear hk); (try clear hi)))
  go_ret
  exact ⟨by first | rfl | (simp [zAx, zAw] <;> rfl) | (simp [*, zAx, zAw] <;> rfl), by repeat (first | (with_reducible first | exact HB.out | apply zA2 | apply zA0 | apply zA3 | refine zA7 ?_ GE140.out) | exact HB.out)⟩
end
end Go.Proofs.YtbghfbhlbfcloaaDoor.PL
namespace Go.Proofs.YtbghfbhlbfcloaaDoor.PL
section
open Go.RowKit Go.Proofs.YtbghfbhlbfcloaaDoorW.PrintWords Go.Proofs.YtbghfbhlbfcloaaDoorW.PrintLast Go.Proofs.YtbghfbhlbfcloaaDoorW.PrintMore
attribute [local go_sem] zBw zBu zC7 zC6 zBo zBn zBv zBt   -- for this text's walks alone
set_option linter.unusedVariables false
set_option linter.unusedSimpArgs false
attribute [local go_sem high] eqA68
def zBh.l0 : Nat → List Int → List (S68) → Int → Int → Option (List Int)
 | 0, _, _, _, _ => none
 | k + 1, x3, x10, x11, x12 => if x12 < x11 then (if 0 ≤ x12 then (if x12 < (x10.length : Int) then (if 0 ≤ ((zB4 x10 x12).f0) then (if ((zB4 x10 x12).f0) < (x3.length : Int) then (if 0 ≤ ((zB4 x10 x12).f1) then (zBh.l0 k (x3.set (((zB4 x10 x12).f0) : Int).toNat (Go.bits .or .u64 (rd x3 ((zB4 x10 x12).f0)) (shl .u64 1 ((zB4 x10 x12).f1)))) x10 x11 (wrap64 (x12 + 1))) else (none)) else (none)) else (none)) else (none)) else (none)) else (some x3)
def zBh.f (k : Nat) (a0_0 : Int) (l0_1 : List (S68)) : Option (List Int) := if 0 ≤ a0_0 then (if (a0_0 : Int).toNat ≤ 35184372088832 then (zBh.l0 k (List.replicate (a0_0 : Int).toNat 0) l0_1 (l0_1.length : Int) 0) else (none)) else (none)
theorem zBh.zBq : ∀ k, (∀ y0 y1 y2 y3, LeO (zBh.l0 k y0 y1 y2 y3) (zBh.l0 (k + 1) y0 y1 y2 y3))
 | 0 => fun _ _ _ _ r h => by simp [zBh.l0] at h
 | k + 1 => by
  have ih0 := zBh.zBq k
  ·intro y0 y1 y2 y3
   unfold zBh.l0
   repeat' first
   | (with_reducible exact ih0 _ _ _ _)
   | (with_reducible exact LeO.refl _)
   | (with_reducible exact LeO.none _)
   | (with_reducible refine LeO.ite ?_ ?_)
   | (with_reducible refine LeO.bind ?_ (fun _ => ?_))
theorem zBh.mono : ∀ a0 a1 k, LeO (zBh.f k a0 a1) (zBh.f (k + 1) a0 a1) := by
 intro a0 a1 k
 have ih0 := zBh.zBq k
 unfold zBh.f
 repeat' first
   | (with_reducible exact ih0 _ _ _ _)
   | (with_reducible exact LeO.refl _)
   | (with_reducible exact LeO.none _)
   | (with_reducible refine LeO.ite ?_ ?_)
   | (with_reducible refine LeO.bind ?_ (fun _ => ?_))
def zBh.T5 : Bool × List (List Nat × List Nat) := (true, [([], []), ([], []), ([1], [1]), ([0, 2], [0, 2]), ([3], [3]), ([], []), ([5], [5]), ([6], [6]), ([4, 7], [4, 7]), ([0, 2, 0, 1, 2, 3, 4, 5, 6, 7, 8], [0, 2]), ([9, 8, 0, 1, 2, 3, 4, 5, 6, 7, 8], [8, 9])])
def zBh.B5 : List Nat := [0, 0, 2, 7, 15, 0, 32, 96, 255, 511, 1023]
theorem zBh.tab5 : rtab .any (opsOf Tryd.f46 5) = zBh.T5 := by kernel_rfl
theorem zBh.bits5 : waitsOk zBh.T5.2 zBh.B5 = true := by kernel_rfl
set_option maxHeartbeats 8000000 in
set_option maxRecDepth 100000 in
theorem zBh.calls (k : Nat) (a0_0 : Int) (A0_1 : Option Addr) (c0_1 : Nat) (l0_1 : List (S68)) (r : List Int) (w : World) (hr0_1 : Kd.C k68 w A0_1 l0_1.length l0_1) (hc0_1 : l0_1.length ≤ c0_1) (h : zBh.f k a0_0 l0_1 = some r) :
  Calls Tryd.prog 46 #[.agg #[.int .i64 a0_0, .slice A0_1 l0_1.length c0_1]] w fun e w' => ∃ v0_ : Value, e = .returned (v0_) ∧ Kd.R (Kd.int .u64) 71 w' w.heap.size (fun _ => True) v0_ r ∧ Below w.heap.size w w' := by
 have hu28 := Tryd.underlying28
 have hu68 := Tryd.underlying68
 have HR0_1 := zA1.mk hr0_1
 have HC0_1 := zA1.mk hc0_1
 clear hr0_1 hc0_1
 have HB := zA1.mk (Below.refl w.heap.size w)
 have H : (if 0 ≤ a0_0 then (if (a0_0 : Int).toNat ≤ 35184372088832 then (zBh.l0 k (List.replicate (a0_0 : Int).toNat 0) l0_1 (l0_1.length : Int) 0) else (none)) else (none)) = some r := h
 clear h
 by_cases c2 : 0 ≤ a0_0
 rotate_left
 ·rw [if_neg c2] at H
  exact absurd H (by simp)
 rw [if_pos c2] at H
 have c2b0 := eq_true c2
 have c2b1 : decide (0 ≤ a0_0) = true := decide_eq_true c2
 clear c2
 by_cases c3 : (a0_0 : Int).toNat ≤ 35184372088832
 rotate_left
 ·rw [if_neg c3] at H
  exact absurd H (by simp)
 rw [if_pos c3] at H
 have c3b0 := eq_true c3
 have c3b1 : decide ((a0_0 : Int).toNat ≤ 35184372088832) = true := decide_eq_true c3
 clear c3
 obtain ⟨y146, hy146⟩ : ∃ y_ : List Int, y_ = (List.replicate (a0_0 : Int).toNat 0) := ⟨_, rfl⟩
 replace H : (zBh.l0 k y146 l0_1 (l0_1.length : Int) 0) = some r := by first | (rw [hy146]; with_reducible exact H) | (have H2_ := (Option.bind_some _ _).symm.trans H; rw [hy146]; with_reducible exact H2_) | (have H2_ := (Option.bind_some _ _).symm.trans H; with_reducible exact H2_) | with_reducible exact H | (rw [hy146]; exact H) | exact H
 have Ny146 := zA1.mk hy146
 clear hy146
 have H' := zA1.mk H
 clear H
 go_enter Tryd.func46, Tryd.ntmps46
 go_wp2_with (first | ((with_reducible refine zBl (N := 1) rfl ?_); refine zBp ?hg (N := 1) ?hd (cs := #[.int .i64 a0_0, .slice A0_1 l0_1.length c0_1]) (t := 28) ?hr ?_; (case hd => rfl); (case hg => rfl); (case hr => first | (go_simp; done) | (go_simp; rfl)); intro gb145 hg w4 hbox hb; have n0_ := zA1.mk (zAm (by repeat (first | (with_reducible first | exact HB.out | apply zA2 | apply zA0 | apply zA3) | exact HB.out)) hb); have n1_ := zA1.mk (hbox); have n2_ := zA1.mk ((by rw [hg]; exact (zAc (by repeat (first | (with_reducible first | exact HB.out | apply zA2 | apply zA0 | apply zA3) | exact HB.out))) : w.heap.size ≤ gb145)); have n3_ := zA1.mk ((by rw [hg]; exact (zAc (by repeat (first | (with_reducible first | exact HB.out | apply zA2 | apply zA0 | apply zA3) | exact HB.out))) : w.heap.size ≤ gb145)); clear HB; have HB := n0_; have BK145 := n1_; have GW145 := n2_; have GE145 := n3_; clear n0_ n1_ n2_ n3_; clear hb hbox hg; have hcz5_0 : w4.cell? ⟨gb145, 0, none⟩ = some (.int .i64 a0_0) := (zA9 BK145.out 0).trans rfl; have hcz5_1 : w4.cell? ⟨gb145, 1, none⟩ = some (.slice A0_1 l0_1.length c0_1) := (zA9 BK145.out 1).trans rfl; have hfz5_0 := zAh BK145.out 0; have hfz5_1 := zAh BK145.out 1) | ((with_reducible refine zBl (N := 8) rfl ?_); refine Kd.R_make (Kd.int .u64) _ 71 rfl (N := 8) rfl 70 _ _ rfl a0_0 rfl rfl Tryd.underlying70 (.int .u64 0) 8 info71 rfl (by decide) (by omega) 0 (ok := fun _ => True) (okp := fun _ => True) rfl (fun _ hk => hk) trivial (of_decide_eq_true (by first | (with_reducible assumption) | assumption)) (Nat.le_trans (Nat.mul_le_mul_right _ (of_decide_eq_true (by first | (with_reducible assumption) | assumption) : a0_0.toNat ≤ 35184372088832)) (by omega)) (Below.refl _ _) (Nat.le_refl _) ?_; intro v147 w6 ho7 hb hg_ hnew_; clear hg_ hnew_; (first | rw [← Ny146.out] at ho7 | (simp only [Int.reduceToNat] at ho7; rw [← Ny146.out] at ho7)); have n0_ := zA1.mk (Kd.R_lower ho7 (zAc (by repeat (first | (with_reducible first | exact HB.out | apply zA2 | apply zA0 | apply zA3 | refine zA7 ?_ GE145.out) | exact HB.out)))); have n1_ := zA1.mk (zBc (g := gb145) (o := .cells #[.int .i64 a0_0, .slice A0_1 l0_1.length c0_1] 28 (0, 0)) (by (with_reducible repeat (first | refine zAb ?_ _ | refine zAf ?_ | refine zAa ?_ _)); exact BK145.out) hb); have n2_ := zA1.mk (zAm (by repeat (first | (with_reducible first | exact HB.out | apply zA2 | apply zA0 | apply zA3 | refine zA7 ?_ GE145.out) | exact HB.out)) hb); clear BK145; clear HB; have HO148 := n0_; have BK145 := n1_; have HB := n2_; clear n0_ n1_ n2_; clear hb ho7; have hcz8_0 : w6.cell? ⟨gb145, 0, none⟩ = some (.int .i64 a0_0) := (zA9 BK145.out 0).trans rfl; have hcz8_1 : w6.cell? ⟨gb145, 1, none⟩ = some (.slice A0_1 l0_1.length c0_1) := (zA9 BK145.out 1).trans rfl; have hfz8_0 := zAh BK145.out 0; have hfz8_1 := zAh BK145.out 1))
 go_loopg [12] k (fun kq v12 w' => ∃ (x3_1 : List Int) (x12_1 : Int), v12 = .int .i64 x12_1 ∧ zA1 (zBh.l0 kq x3_1 l0_1 (l0_1.length : Int) x12_1 = some r) ∧ zA1 (kq ≤ k) ∧ zA1 (Kd.R (Kd.int .u64) 71 w' w.heap.size (fun _ => True) v147 x3_1) ∧ zA1 (w'.heap[gb145]? = some (.cells #[.int .i64 a0_0, (.slice A0_1 l0_1.length c0_1)] 28 (0, 0))) ∧ zA1 (Below w.heap.size w w'))
 case atStart => exact ⟨(y146), (0), (by first | rfl | (simp; done) | (simp [*]; done)), H', ⟨Nat.le_refl _⟩, ⟨by (with_reducible repeat (first | apply Kd.zAk | apply Kd.zAj | apply Kd.zAt)); exact HO148.out⟩, ⟨by (with_reducible repeat (first | refine zAb ?_ _ | refine zAf ?_ | refine zAa ?_ _)); exact BK145.out⟩, ⟨by repeat (first | (with_reducible first | exact HB.out | apply zA2 | apply zA0 | apply zA3 | refine zA7 ?_ GE145.out) | exact HB.out)⟩⟩
 case round =>
  clear H'
  try clear c2
  try clear c2b0
  try clear c2b1
  try clear p2
  try clear c3
  try clear c3b0
  try clear c3b1
  try clear c4
  try clear hcz5_0
  try clear hcz5_1
  try clear hcz8_0
  try clear hcz8_1
  try clear hfz5_0
  try clear hfz5_1
  try clear hfz8_0
  try clear hfz8_1
  obtain ⟨x3_1, x12_1, rfl, HA, HK1, HO_3, BK145, HB⟩ := hrel
  cases gk with
  | zero => exact absurd HA.out (by simp [zBh.l0])
  | succ k1 =>
   have H := HA.out
   clear HA
   simp only [zBh.l0] at H
   by_cases c9 : x12_1 < (l0_1.length : Int)
   ·rw [if_pos c9] at H
    have c9b0 : decide (x12_1 < (l0_1.length : Int)) = true := decide_eq_true c9
    clear c9
    by_cases c10 : 0 ≤ x12_1
    rotate_left
    ·rw [if_neg c10] at H
     exact absurd H (by simp)
    rw [if_pos c10] at H
    have c10b0 : decide (0 ≤ x12_1) = true := decide_eq_true c10
    clear c10
    by_cases c11 : x12_1 < (l0_1.length : Int)
    rotate_left
    ·rw [if_neg c11] at H
     exact absurd H (by simp)
    rw [if_pos c11] at H
    have c11b0 : decide (x12_1 < (l0_1.length : Int)) = true := decide_eq_true c11
    clear c11
    by_cases c12 : 0 ≤ ((zB4 l0_1 x12_1).f0)
    rotate_left
    ·rw [if_neg c12] at H
     exact absurd H (by simp)
    rw [if_pos c12] at H
    have c12b0 : decide (0 ≤ ((zB4 l0_1 x12_1).f0)) = true := decide_eq_true c12
    clear c12
    by_cases c13 : ((zB4 l0_1 x12_1).f0) < (x3_1.length : Int)
    rotate_left
    ·rw [if_neg c13] at H
     exact absurd H (by simp)
    rw [if_pos c13] at H
    have c13b0 : decide (((zB4 l0_1 x12_1).f0) < (x3_1.length : Int)) = true := decide_eq_true c13
    clear c13
    by_cases c14 : 0 ≤ ((zB4 l0_1 x12_1).f1)
    rotate_left
    ·rw [if_neg c14] at H
     exact absurd H (by simp)
    rw [if_pos c14] at H
    have c14b0 := eq_true c14
    have c14b1 : decide (0 ≤ ((zB4 l0_1 x12_1).f1)) = true := decide_eq_true c14
    clear c14
    obtain ⟨ji15, hji15⟩ : ∃ j_ : Int, (shl .u64 1 ((zB4 l0_1 x12_1).f1)) = j_ := ⟨_, rfl⟩
    replace H : (zBh.l0 k1 (x3_1.set (((zB4 l0_1 x12_1).f0) : Int).toNat (Go.bits .or .u64 (rd x3_1 ((zB4 l0_1 x12_1).f0)) (ji15))) l0_1 (l0_1.length : Int) (wrap64 (x12_1 + 1))) = some r := by first | (rw [hji15] at H; exact H) | (simp only [hji15] at H ⊢; exact H)
    have hji15_ : (IntKind.u64.wrap (1 * 2 ^ min ((zB4 l0_1 x12_1).f1).toNat 64)) = ji15 := hji15
    have hji15z : ((zB4 l0_1 x12_1).f1) ≤ 64 → (IntKind.u64.wrap (1 * 2 ^ ((zB4 l0_1 x12_1).f1).toNat)) = ji15 := shl_small hji15
    have hji15u : (IntKind.u64.wrap (2 ^ min ((zB4 l0_1 x12_1).f1).toNat 64)) = ji15 := by have h_ := hji15_; rw [Int.one_mul] at h_; exact h_
    have hji15v : ((zB4 l0_1 x12_1).f1) ≤ 64 → (IntKind.u64.wrap (2 ^ ((zB4 l0_1 x12_1).f1).toNat)) = ji15 := fun hle_ => by have h_ := hji15z hle_; rw [Int.one_mul] at h_; exact h_
    obtain ⟨y152, hy152⟩ : ∃ y_ : List Int, y_ = (x3_1.set (((zB4 l0_1 x12_1).f0) : Int).toNat (Go.bits .or .u64 (rd x3_1 ((zB4 l0_1 x12_1).f0)) (ji15))) := ⟨_, rfl⟩
    replace H : (zBh.l0 k1 y152 l0_1 (l0_1.length : Int) (wrap64 (x12_1 + 1))) = some r := by first | (rw [hy152]; with_reducible exact H) | (have H2_ := (Option.bind_some _ _).symm.trans H; rw [hy152]; with_reducible exact H2_) | (have H2_ := (Option.bind_some _ _).symm.trans H; with_reducible exact H2_) | with_reducible exact H | (rw [hy152]; exact H) | exact H
    have Ny152 := zA1.mk hy152
    clear hy152
    have H' := zA1.mk H
    clear H
    have p149 : 0 ≤ (x12_1 : Int) := of_decide_eq_true (by first | (with_reducible assumption) | assumption)
    have q149 : x12_1 < (l0_1.length : Int) := of_decide_eq_true (by first | (with_reducible assumption) | assumption)
    obtain ⟨ad149, e149, hx149_0, hx149_1⟩ := at_T68 HR0_1.out x12_1 p149 q149
    cases e149
    replace hx149_0 := (HB.out.cell (World.block_lt_of_cell? w _ hx149_0)).trans hx149_0
    replace hx149_1 := (HB.out.cell (World.block_lt_of_cell? w _ hx149_1)).trans hx149_1
    replace p149 := eq_true p149
    replace q149 := eq_true q149
    try go_wp2_with (first | ((with_reducible refine zBl (N := 5) rfl ?_); refine zBp ?hg (N := 5) ?hd (cs := #[.int .i64 0, .int .i64 0]) (t := 68) ?hr ?_; (case hd => rfl); (case hg => rfl); (case hr => first | (go_simp; done) | (go_simp; rfl)); intro gb150 hg w17 hbox hb; have n0_ := zA1.mk (Kd.zCa (by (with_reducible repeat (first | apply Kd.zAk | apply Kd.zAj | apply Kd.zAt)); exact HO_3.out) hb); have n1_ := zA1.mk (zBc (g := gb145) (o := .cells #[.int .i64 a0_0, .slice (some ad149) l0_1.length c0_1] 28 (0, 0)) (by (with_reducible repeat (first | refine zAb ?_ _ | refine zAf ?_ | refine zAa ?_ _)); exact BK145.out) hb); have n2_ := zA1.mk (zAm (by repeat (first | (with_reducible first | exact HB.out | apply zA2 | apply zA0 | apply zA3 | refine zA7 ?_ GE145.out) | exact HB.out)) hb); have n3_ := zA1.mk (hbox); have n4_ := zA1.mk ((by rw [hg]; exact (zAc (by repeat (first | (with_reducible first | exact HB.out | apply zA2 | apply zA0 | apply zA3 | refine zA7 ?_ GE145.out) | exact HB.out))) : w.heap.size ≤ gb150)); have n5_ := zA1.mk ((by rw [hg]; exact (zAc (by repeat (first | (with_reducible first | exact HB.out | apply zA2 | apply zA0 | apply zA3 | refine zA7 ?_ GE145.out) | exact HB.out))) : w.heap.size ≤ gb150)); have n6_ := zA1.mk ((by rw [hg]; exact Nat.ne_of_lt (blk_lt (g := gb145) (o := .cells #[.int .i64 a0_0, .slice (some ad149) l0_1.length c0_1] 28 (0, 0)) (by (with_reducible repeat (first | refine zAb ?_ _ | refine zAf ?_ | refine zAa ?_ _)); exact BK145.out)) : gb145 ≠ gb150)); have n7_ := zA1.mk ((by rw [hg]; exact Nat.ne_of_gt (blk_lt (g := gb145) (o := .cells #[.int .i64 a0_0, .slice (some ad149) l0_1.length c0_1] 28 (0, 0)) (by (with_reducible repeat (first | refine zAb ?_ _ | refine zAf ?_ | refine zAa ?_ _)); exact BK145.out)) : gb150 ≠ gb145)); clear HO_3; clear BK145; clear HB; have HO_3 := n0_; have BK145 := n1_; have HB := n2_; have BK150 := n3_; have GW150 := n4_; have GE150 := n5_; have NB145_150 := n6_; have NB150_145 := n7_; clear n0_ n1_ n2_ n3_ n4_ n5_ n6_ n7_; clear hb hbox hg; have hnb18 := NB150_145.out; have hnc18 := NB145_150.out; have hcz19_0 : w17.cell? ⟨gb150, 0, none⟩ = some (.int .i64 0) := (zA9 BK150.out 0).trans rfl; have hcz19_1 : w17.cell? ⟨gb150, 1, none⟩ = some (.int .i64 0) := (zA9 BK150.out 1).trans rfl; have hfz19_0 := zAh BK150.out 0; have hfz19_1 := zAh BK150.out 1))
    have n0_ : zA1 (Kd.R (Kd.int .u64) 71 ((w17.setCell ⟨gb150, 0, none⟩ (.int .i64 ((zB4 l0_1 x12_1).f0))).setCell ⟨gb150, 1, none⟩ (.int .i64 ((zB4 l0_1 x12_1).f1))) w.heap.size (fun _ => True) v147 x3_1) := ⟨by (with_reducible repeat (first | apply Kd.zAk | apply Kd.zAj | apply Kd.zAt)); exact Kd.zCc (Kd.R_far (p := ⟨gb150, 1, none⟩) (Kd.R_far (p := ⟨gb150, 0, none⟩) (Kd.R_types HO_3.out BK150.out (by decide)) (fun _ hk => hk.2) (.int .i64 ((zB4 l0_1 x12_1).f0))) (fun _ hk => hk.2) (.int .i64 ((zB4 l0_1 x12_1).f1))) (fun _ hk => trivial)⟩
    have n1_ : zA1 (((w17.setCell ⟨gb150, 0, none⟩ (.int .i64 ((zB4 l0_1 x12_1).f0))).setCell ⟨gb150, 1, none⟩ (.int .i64 ((zB4 l0_1 x12_1).f1))).heap[gb145]? = some (.cells #[.int .i64 a0_0, .slice (some ad149) l0_1.length c0_1] 28 (0, 0))) := ⟨by (with_reducible repeat (first | refine zAb ?_ _ | refine zAf ?_ | refine zAa ?_ _)); refine blk_far ?_ NB145_150.out _; (with_reducible repeat (first | refine zAb ?_ _ | refine zAf ?_ | refine zAa ?_ _)); refine blk_far ?_ NB145_150.out _; (with_reducible repeat (first | refine zAb ?_ _ | refine zAf ?_ | refine zAa ?_ _)); exact BK145.out⟩
    have n2_ : zA1 (((w17.setCell ⟨gb150, 0, none⟩ (.int .i64 ((zB4 l0_1 x12_1).f0))).setCell ⟨gb150, 1, none⟩ (.int .i64 ((zB4 l0_1 x12_1).f1))).heap[gb150]? = some (.cells #[.int .i64 ((zB4 l0_1 x12_1).f0), .int .i64 ((zB4 l0_1 x12_1).f1)] 68 (0, 0))) := ⟨by (with_reducible repeat (first | refine zAb ?_ _ | refine zAf ?_ | refine zAa ?_ _)); refine blk_put (cs := #[.int .i64 ((zB4 l0_1 x12_1).f0), .int .i64 0]) ?_ 1 _ rfl; (with_reducible repeat (first | refine zAb ?_ _ | refine zAf ?_ | refine zAa ?_ _)); refine blk_put (cs := #[.int .i64 0, .int .i64 0]) ?_ 0 _ rfl; (with_reducible repeat (first | refine zAb ?_ _ | refine zAf ?_ | refine zAa ?_ _)); exact BK150.out⟩
    have n3_ : zA1 (Below w.heap.size w ((w17.setCell ⟨gb150, 0, none⟩ (.int .i64 ((zB4 l0_1 x12_1).f0))).setCell ⟨gb150, 1, none⟩ (.int .i64 ((zB4 l0_1 x12_1).f1)))) := ⟨by repeat (first | (with_reducible first | exact HB.out | apply zA2 | apply zA0 | apply zA3 | refine zA7 ?_ GE145.out | refine zA7 ?_ GE150.out) | exact HB.out)⟩
    (try clear HO_3)
    (try clear BK145)
    (try clear BK150)
    (try clear HB)
    generalize ((w17.setCell ⟨gb150, 0, none⟩ (.int .i64 ((zB4 l0_1 x12_1).f0))).setCell ⟨gb150, 1, none⟩ (.int .i64 ((zB4 l0_1 x12_1).f1))) = w20 at n0_ n1_ n2_ n3_ ⊢
    have HO_3 := n0_
    have BK145 := n1_
    have BK150 := n2_
    have HB := n3_
    clear n0_ n1_ n2_ n3_
    have n0_ := zA1.mk (Kd.zAt HO_3.out)
    have n1_ := zA1.mk (zAf BK145.out)
    have n2_ := zA1.mk (zAf BK150.out)
    have n3_ := zA1.mk (zA3 HB.out)
    clear HO_3
    clear BK145
    clear BK150
    clear HB
    have HO_3 := n0_
    have BK145 := n1_
    have BK150 := n2_
    have HB := n3_
    clear n0_ n1_ n2_ n3_
    obtain ⟨Ao22, co22, eo22⟩ := Kd.zCe HO_3.out
    (first | subst eo22 | (injection eo22 with f1_ f2_ f3_; have f4_ := f1_.symm; have f5_ := f3_.symm; clear f1_ f2_ f3_; subst f4_; subst f5_))
    have p151 : 0 ≤ (((zB4 l0_1 x12_1).f0) : Int) := of_decide_eq_true (by first | (with_reducible assumption) | assumption)
    have q151 : ((zB4 l0_1 x12_1).f0) < (x3_1.length : Int) := of_decide_eq_true (by first | (with_reducible assumption) | assumption)
    obtain ⟨ad151, e151, hx151_0⟩ := Kd.at_int (Kd.zBd HO_3.out).2.2 ((zB4 l0_1 x12_1).f0) p151 q151
    cases e151
    replace p151 := eq_true p151
    replace q151 := eq_true q151
    have p16 : 0 ≤ (((zB4 l0_1 x12_1).f0) : Int) := of_decide_eq_true (by first | (with_reducible assumption) | assumption)
    have q16 : (((zB4 l0_1 x12_1).f0) : Int) < ((x3_1.length : Int) : Int) := of_decide_eq_true (by first | (with_reducible assumption) | assumption)
    obtain ⟨go16, co16, eo16, gb16, gl16, cl16, HG16⟩ := Kd.R_form HO_3.out (by omega)
    (first | cases eo16 | (injection eo16 with ea_ en_ ec_; (first | subst ea_ | (injection ea_ with ea_; subst ea_)); subst ec_; clear en_))
    have GB16 := zA1.mk gb16
    have GG16 := zA1.mk HG16
    clear gb16 gl16 HG16
    (first | simp only [add_plain] at hx151_0 | skip)
    obtain ⟨hx16_0, hf16_0⟩ := Kd.R_celln 0 HO_3.out (((zB4 l0_1 x12_1).f0) : Int) p16 q16
    replace p16 := eq_true p16
    replace q16 := eq_true q16
    have HP23 := Kd.R_putn HO_3.out (((zB4 l0_1 x12_1).f0) : Int) (Go.bits .or .u64 (rd x3_1 ((zB4 l0_1 x12_1).f0)) (ji15))
    rw [← Ny152.out] at HP23
    have HQ23 := zA1.mk HP23
    clear HP23
    refine start_ (n := 11) (S := fun w' => w'.cell? ⟨gb150, 0, none⟩ = some (.int .i64 ((zB4 l0_1 x12_1).f0)) ∧ w'.cell? ⟨gb150, 1, none⟩ = some (.int .i64 ((zB4 l0_1 x12_1).f1)) ∧ w'.cell? ⟨go16, (((zB4 l0_1 x12_1).f0)).toNat, none⟩ = some (.int .u64 (rd x3_1 ((zB4 l0_1 x12_1).f0)))) (ds := [10]) #[false, false, false, false, false, false, false, false, false, false, false] (by kernel_rfl) rfl rfl ⟨(zA9 BK150.out 0).trans rfl, (zA9 BK150.out 1).trans rfl, hx151_0⟩ (fun hHeld => ?_); refine with_tabW zBh.tab5 zBh.bits5 (fun HT_ HW_ => ?_)
    generalize w20.drew = w21 at HO_3 BK145 BK150 HB GG16 HQ23 hf16_0 hx151_0 hx16_0 hHeld ⊢
    refine pure_ (i := 0) (N := some 16) (v := ?_) (a' := ?_) #[true, false, false, false, false, false, false, false, false, false, false] rfl rfl (zAq HT_.out (by kernel_rfl)) (fun _ _ _ h => h) (Or.inl ⟨by rfl, ?_⟩) ?_ ?_
    rotate_left
    ·intro w'
     go_simp
     with_reducible rfl
    rotate_left
    ·simp only [Act.put, List.setIfInBounds_toArray, List.set_cons_zero, List.set_cons_succ, i64_w, i32_w]
     rfl
    refine pure_ (i := 1) (N := some 17) (v := ?_) (a' := ?_) #[true, true, false, false, false, false, false, false, false, false, false] rfl rfl (zAq HT_.out (by kernel_rfl)) (fun _ _ _ h => h) (Or.inl ⟨by rfl, ?_⟩) ?_ ?_
    rotate_left
    ·intro w'
     go_simp
     with_reducible rfl
    rotate_left
    ·simp only [Act.put, List.setIfInBounds_toArray, List.set_cons_zero, List.set_cons_succ, i64_w, i32_w]
     rfl
    refine pure_ (i := 5) (N := some 21) (v := ?_) (a' := ?_) #[true, true, false, false, false, true, false, false, false, false, false] rfl rfl (zAq HT_.out (by kernel_rfl)) (fun _ _ _ h => h) (Or.inl ⟨by rfl, ?_⟩) ?_ ?_
    rotate_left
    ·intro w'
     go_simp
     with_reducible rfl
    rotate_left
    ·simp only [Act.put, List.setIfInBounds_toArray, List.set_cons_zero, List.set_cons_succ, i64_w, i32_w]
     rfl
    refine take_ (i := 2) (N := some 18) (v := ?_) (a' := ?_) #[true, true, true, false, false, true, false, false, false, false, false] rfl rfl (zC3 HT_.out HW_.out (by kernel_rfl)) (fun _ _ _ h => h) (Or.inl ⟨by rfl, ?_⟩) hHeld ?_ ?_
    rotate_left
    ·rintro w' ⟨s0, s1, s2⟩
     go_simp
     with_reducible rfl
    rotate_left
    ·simp only [Act.put, List.setIfInBounds_toArray, List.set_cons_zero, List.set_cons_succ, i64_w, i32_w]
     rfl
    refine pure_ (i := 3) (N := some 19) (v := ?_) (a' := ?_) #[true, true, true, true, false, true, false, false, false, false, false] rfl rfl (zAq HT_.out (by kernel_rfl)) (fun _ _ _ h => h) (Or.inl ⟨by rfl, ?_⟩) ?_ ?_
    rotate_left
    ·intro w'
     go_simp
     with_reducible rfl
    rotate_left
    ·simp only [Act.put, List.setIfInBounds_toArray, List.set_cons_zero, List.set_cons_succ, i64_w, i32_w]
     rfl
    refine take_ (i := 4) (N := some 20) (v := ?_) (a' := ?_) #[true, true, true, true, true, true, false, false, false, false, false] rfl rfl (zC3 HT_.out HW_.out (by kernel_rfl)) (fun _ _ _ h => h) (Or.inl ⟨by rfl, ?_⟩) hHeld ?_ ?_
    rotate_left
    ·rintro w' ⟨s0, s1, s2⟩
     go_simp
     with_reducible rfl
    rotate_left
    ·simp only [Act.put, List.setIfInBounds_toArray, List.set_cons_zero, List.set_cons_succ, i64_w, i32_w]
     rfl
    refine take_ (i := 6) (N := some 22) (v := ?_) (a' := ?_) #[true, true, true, true, true, true, true, false, false, false, false] rfl rfl (zC3 HT_.out HW_.out (by kernel_rfl)) (fun _ _ _ h => h) (Or.inl ⟨by rfl, ?_⟩) hHeld ?_ ?_
    rotate_left
    ·rintro w' ⟨s0, s1, s2⟩
     go_simp
     with_reducible rfl
    rotate_left
    ·simp only [Act.put, List.setIfInBounds_toArray, List.set_cons_zero, List.set_cons_succ, i64_w, i32_w]
     rfl
    refine pure_ (i := 7) (N := some 23) (v := ?_) (a' := ?_) #[true, true, true, true, true, true, true, true, false, false, false] rfl rfl (zAq HT_.out (by kernel_rfl)) (fun _ _ _ h => h) (Or.inl ⟨by rfl, ?_⟩) ?_ ?_
    rotate_left
    ·intro w'
     go_simp
     with_reducible rfl
    rotate_left
    ·simp only [Act.put, List.setIfInBounds_toArray, List.set_cons_zero, List.set_cons_succ, i64_w, i32_w]
     rfl
    refine pure_ (i := 8) (N := some 24) (v := ?_) (a' := ?_) #[true, true, true, true, true, true, true, true, true, false, false] rfl rfl (zAq HT_.out (by kernel_rfl)) (fun _ _ _ h => h) (Or.inl ⟨by rfl, ?_⟩) ?_ ?_
    rotate_left
    ·intro w'
     go_simp
     with_reducible rfl
    rotate_left
    ·simp only [Act.put, List.setIfInBounds_toArray, List.set_cons_zero, List.set_cons_succ, i64_w, i32_w]
     rfl
    refine pure_ (i := 9) (N := some 25) (v := ?_) (a' := ?_) #[true, true, true, true, true, true, true, true, true, true, false] rfl rfl (zAq HT_.out (by kernel_rfl)) (fun _ _ _ h => h) (Or.inl ⟨by rfl, ?_⟩) ?_ ?_
    rotate_left
    ·intro w'
     go_simp
     with_reducible rfl
    rotate_left
    ·simp only [Act.put, List.setIfInBounds_toArray, List.set_cons_zero, List.set_cons_succ, i64_w, i32_w]
     rfl
    refine last_ (i := 10) (N := none) #[true, true, true, true, true, true, true, true, true, true, true] rfl rfl (one_of HT_.out (by kernel_rfl)) (by decide) (fun K hK => ?_)
    refine skip_ (w1 := ?_) (by rfl) rfl ?_ ?_
    rotate_left
    ·go_simp
     rfl
    refine hK.out _ _ ?_
    clear hK K
    refine done_ (done_of HT_.out (by kernel_rfl)) ?_
    try go_wp2
    go_roundg k1
    case measure => have := HK1.out; omega
    case rel => exact ⟨(y152), (wrap64 (x12_1 + 1)), (by first | rfl | (simp; done) | (simp [*]; done)), H', ⟨by have := HK1.out; omega⟩, ⟨by (with_reducible repeat (first | apply Kd.zAk | apply Kd.zAj | apply Kd.zAt)); exact HQ23.out⟩, ⟨by (with_reducible repeat (first | refine zAb ?_ _ | refine zAf ?_ | refine zAa ?_ _)); refine blk_far ?_ (by have h_ := Kd.R_ne HO_3.out BK145.out (by decide); intro e_; exact h_ (by rw [e_]; rfl)) _; (with_reducible repeat (first | refine zAb ?_ _ | refine zAf ?_ | refine zAa ?_ _)); exact BK145.out⟩, ⟨by repeat (first | (with_reducible first | exact HB.out | apply zA2 | apply zA0 | apply zA3 | refine zA7 ?_ GB16.out | refine zA7 ?_ GE145.out | refine zA7 ?_ GE150.out) | exact HB.out)⟩⟩
   ·rw [if_neg c9] at H
    have c9b0 : decide (x12_1 < (l0_1.length : Int)) = false := decide_eq_false c9
    clear c9
    obtain rfl := Option.some.inj H
    go_wp2
    go_ret
    exact ⟨_, by first | rfl | (simp [zAx, zAw] <;> rfl) | (simp [*, zAx, zAw] <;> rfl), by (with_reducible repeat (first | apply Kd.zAk | apply Kd.zAj | apply Kd.zAt)); exact HO_3.out, by repeat (first | (with_reducible first | exact HB.out | apply zA2 | apply zA0 | apply zA3 | refine zA7 ?_ GE145.out) | exact HB.out)⟩
end
end Go.Proofs.YtbghfbhlbfcloaaDoor.PL
namespace Go.Proofs.YtbghfbhlbfcloaaDoor.PL
section
open Go.RowKit Go.Proofs.YtbghfbhlbfcloaaDoorW.PrintWords Go.Proofs.YtbghfbhlbfcloaaDoorW.PrintLast Go.Proofs.YtbghfbhlbfcloaaDoorW.PrintMore
attribute [local go_sem] zBw zBu zC7 zC6 zBo zBn zBv zBt   -- for this text's walks alone
set_option linter.unusedVariables false
set_option linter.unusedSimpArgs false
def zBx.f (k : Nat) (a0_0 : Int) (l0_1 : List (S68)) (l1 : List Int) : Option (List Int × Int × Int) := (zBk.f k a0_0 l0_1).bind fun t157 => (if t157 = 0 then (if (l1.length : Int) = 0 then (some (([] : List Int), 0, 7)) else ((zAu.f k l1 a0_0).bind fun t158 => (if t158 = 0 then ((zBh.f k a0_0 l0_1).bind fun t159 => ((zAs.f k l1).bind fun t162 => (some (t159, t162, 0)))) else (some (([] : List Int), 0, t158))))) else (some (([] : List Int), 0, t157)))
theorem zBx.mono : ∀ a0 a1 a2 k, LeO (zBx.f k a0 a1 a2) (zBx.f (k + 1) a0 a1 a2) := by
 intro a0 a1 a2 k
 unfold zBx.f
 repeat' first
   | (with_reducible exact zBk.mono _ _ _)
   | (with_reducible exact zBh.mono _ _ _)
   | (with_reducible exact zAs.mono _ _)
   | (with_reducible exact zAu.mono _ _ _)
   | (with_reducible exact LeO.refl _)
   | (with_reducible exact LeO.none _)
   | (with_reducible refine LeO.ite ?_ ?_)
   | (with_reducible refine LeO.bind ?_ (fun _ => ?_))
set_option maxHeartbeats 8000000 in
set_option maxRecDepth 100000 in
theorem zBx.calls (k : Nat) (a0_0 : Int) (A0_1 : Option Addr) (c0_1 : Nat) (l0_1 : List (S68)) (A1 : Option Addr) (c1 : Nat) (l1 : List Int) (r1 : List Int) (r2 : Int) (r3 : Int) (w : World) (hr0_1 : Kd.C k68 w A0_1 l0_1.length l0_1) (hc0_1 : l0_1.length ≤ c0_1) (hr1 : Kd.C (Kd.int .i64) w A1 l1.length l1) (hc1 : l1.length ≤ c1) (h : zBx.f k a0_0 l0_1 l1 = some (r1, r2, r3)) :
  Calls Tryd.prog 34 #[.agg #[.int .i64 a0_0, .slice A0_1 l0_1.length c0_1], .slice A1 l1.length c1] w fun e w' => ∃ v0_ : Value, e = .returned (.tuple #[v0_, .int .u64 r2, .int .i64 r3]) ∧ Kd.R (Kd.int .u64) 71 w' w.heap.size (fun _ => True) v0_ r1 ∧ Below w.heap.size w w' := by
 have hu28 := Tryd.underlying28
 have HR0_1 := zA1.mk hr0_1
 have HC0_1 := zA1.mk hc0_1
 clear hr0_1 hc0_1
 have HR1 := zA1.mk hr1
 have HC1 := zA1.mk hc1
 clear hr1 hc1
 have HB := zA1.mk (Below.refl w.heap.size w)
 have H : ((zBk.f k a0_0 l0_1).bind fun t157 => (if t157 = 0 then (if (l1.length : Int) = 0 then (some (([] : List Int), 0, 7)) else ((zAu.f k l1 a0_0).bind fun t158 => (if t158 = 0 then ((zBh.f k a0_0 l0_1).bind fun t159 => ((zAs.f k l1).bind fun t162 => (some (t159, t162, 0)))) else (some (([] : List Int), 0, t158))))) else (some (([] : List Int), 0, t157)))) = some (r1, r2, r3) := h
 clear h
 replace H := Option.bind_eq_some_iff.mp H
 obtain ⟨t157, A30, H⟩ := H
 replace H : (if t157 = 0 then (if (l1.length : Int) = 0 then (some (([] : List Int), 0, 7)) else ((zAu.f k l1 a0_0).bind fun t158 => (if t158 = 0 then ((zBh.f k a0_0 l0_1).bind fun t159 => ((zAs.f k l1).bind fun t162 => (some (t159, t162, 0)))) else (some (([] : List Int), 0, t158))))) else (some (([] : List Int), 0, t157))) = some (r1, r2, r3) := H
 have A3 := zA1.mk A30
 clear A30
 by_cases c4 : t157 = 0
 ·rw [if_pos c4] at H
  have c4b0 : (t157 == 0) = true := beq_iff_eq.mpr c4
  have c4b1 : (t157 != 0) = false := bne_eq_false_iff_eq.mpr c4
  clear c4
  by_cases c5 : (l1.length : Int) = 0
  ·rw [if_pos c5] at H
   have c5b0 : ((l1.length : Int) == 0) = true := beq_iff_eq.mpr c5
   have c5b1 : ((l1.length : Int) != 0) = false := bne_eq_false_iff_eq.mpr c5
   clear c5
   simp only [Option.some.injEq, Prod.mk.injEq] at H
   obtain ⟨rfl, rfl, rfl⟩ := H
   go_enter Tryd.func34, Tryd.ntmps34
   go_wp2_with (first | ((with_reducible refine zBl (N := 2) rfl ?_); refine zBp ?hg (N := 2) ?hd (cs := #[.int .i64 a0_0, .slice A0_1 l0_1.length c0_1]) (t := 28) ?hr ?_; (case hd => rfl); (case hg => rfl); (case hr => first | (go_simp; done) | (go_simp; rfl)); intro gb156 hg w6 hbox hb; have n0_ := zA1.mk (zAm (by repeat (first | (with_reducible first | exact HB.out | apply zA2 | apply zA0 | apply zA3) | exact HB.out)) hb); have n1_ := zA1.mk (hbox); have n2_ := zA1.mk ((by rw [hg]; exact (zAc (by repeat (first | (with_reducible first | exact HB.out | apply zA2 | apply zA0 | apply zA3) | exact HB.out))) : w.heap.size ≤ gb156)); have n3_ := zA1.mk ((by rw [hg]; exact (zAc (by repeat (first | (with_reducible first | exact HB.out | apply zA2 | apply zA0 | apply zA3) | exact HB.out))) : w.heap.size ≤ gb156)); clear HB; have HB := n0_; have BK156 := n1_; have GW156 := n2_; have GE156 := n3_; clear n0_ n1_ n2_ n3_; clear hb hbox hg; have hcz7_0 : w6.cell? ⟨gb156, 0, none⟩ = some (.int .i64 a0_0) := (zA9 BK156.out 0).trans rfl; have hcz7_1 : w6.cell? ⟨gb156, 1, none⟩ = some (.slice A0_1 l0_1.length c0_1) := (zA9 BK156.out 1).trans rfl; have hfz7_0 := zAh BK156.out 0; have hfz7_1 := zAh BK156.out 1) | ((with_reducible refine zB1 (f := 45) rfl ?_); refine zC2 (some 10) rfl rfl Tryd.func45 (by kernel_rfl) rfl #[.agg #[.int .i64 a0_0, .slice A0_1 l0_1.length c0_1]] rfl (by (try simp only [List.map_toArray, List.map_cons, List.map_nil]); first | done | rfl | (simp only [List.length_drop, List.length_take]; rfl)) ?_; (with_reducible refine (zBk.calls k a0_0 _ _ l0_1 t157 _ ?side1 ?side2 A3.out).mono ?_); (case side1 => repeat (first | exact (Kd.zAy HR0_1.out HB.out) | (with_reducible refine Kd.zA8 ?_ _) | (with_reducible refine Kd.zAd ?_ _) | (with_reducible refine Kd.zAp ?_))); (case side2 => exact HC0_1.out); rintro e w8 ⟨rfl, hb⟩; refine ⟨_, rfl, ?_⟩; have n0_ := zA1.mk (zBc (g := gb156) (o := .cells #[.int .i64 a0_0, .slice A0_1 l0_1.length c0_1] 28 (0, 0)) (by (with_reducible repeat (first | refine zAb ?_ _ | refine zAf ?_ | refine zAa ?_ _)); exact BK156.out) hb); have n1_ := zA1.mk (zAm (by repeat (first | (with_reducible first | exact HB.out | apply zA2 | apply zA0 | apply zA3 | refine zA7 ?_ GE156.out) | exact HB.out)) hb); clear BK156; clear HB; have BK156 := n0_; have HB := n1_; clear n0_ n1_; (try clear hb); (try clear hb2); (try clear hk); (try clear hi)))
   go_ret3
   exact ⟨_, by first | rfl | (simp [zAx, zAw] <;> rfl) | (simp [*, zAx, zAw] <;> rfl), by first | exact Kd.R_nil _ _ _ _ _ | exact Kd.N_nil _ _ _ _ _ | exact Kd.V_nil _ _ _ _ _ | exact Kd.Q_nil _ _ _ _ _ | exact Kd.S_nil _ _ _ _ _, by repeat (first | (with_reducible first | exact HB.out | apply zA2 | apply zA0 | apply zA3 | refine zA7 ?_ GE156.out) | exact HB.out)⟩
  ·rw [if_neg c5] at H
   have c5b0 : ((l1.length : Int) == 0) = false := beq_eq_false_iff_ne.mpr c5
   have c5b1 : ((l1.length : Int) != 0) = true := bne_iff_ne.mpr c5
   have c5b2 : ¬ (l1 = []) := fun h_ => c5 (by rw [h_]; rfl)
   replace H := Option.bind_eq_some_iff.mp H
   obtain ⟨t158, A90, H⟩ := H
   replace H : (if t158 = 0 then ((zBh.f k a0_0 l0_1).bind fun t159 => ((zAs.f k l1).bind fun t162 => (some (t159, t162, 0)))) else (some (([] : List Int), 0, t158))) = some (r1, r2, r3) := H
   have A9 := zA1.mk A90
   clear A90
   by_cases c10 : t158 = 0
   ·rw [if_pos c10] at H
    have c10b0 : (t158 == 0) = true := beq_iff_eq.mpr c10
    have c10b1 : (t158 != 0) = false := bne_eq_false_iff_eq.mpr c10
    clear c10
    replace H := Option.bind_eq_some_iff.mp H
    obtain ⟨t159, A110, H⟩ := H
    replace H : ((zAs.f k l1).bind fun t162 => (some (t159, t162, 0))) = some (r1, r2, r3) := H
    have A11 := zA1.mk A110
    clear A110
    replace H := Option.bind_eq_some_iff.mp H
    obtain ⟨t162, A120, H⟩ := H
    replace H : (some (t159, t162, 0)) = some (r1, r2, r3) := H
    have A12 := zA1.mk A120
    clear A120
    simp only [Option.some.injEq, Prod.mk.injEq] at H
    obtain ⟨rfl, rfl, rfl⟩ := H
    go_enter Tryd.func34, Tryd.ntmps34
    go_wp2_with (first | ((with_reducible refine zBl (N := 2) rfl ?_); refine zBp ?hg (N := 2) ?hd (cs := #[.int .i64 a0_0, .slice A0_1 l0_1.length c0_1]) (t := 28) ?hr ?_; (case hd => rfl); (case hg => rfl); (case hr => first | (go_simp; done) | (go_simp; rfl)); intro gb156 hg w13 hbox hb; have n0_ := zA1.mk (zAm (by repeat (first | (with_reducible first | exact HB.out | apply zA2 | apply zA0 | apply zA3) | exact HB.out)) hb); have n1_ := zA1.mk (hbox); have n2_ := zA1.mk ((by rw [hg]; exact (zAc (by repeat (first | (with_reducible first | exact HB.out | apply zA2 | apply zA0 | apply zA3) | exact HB.out))) : w.heap.size ≤ gb156)); have n3_ := zA1.mk ((by rw [hg]; exact (zAc (by repeat (first | (with_reducible first | exact HB.out | apply zA2 | apply zA0 | apply zA3) | exact HB.out))) : w.heap.size ≤ gb156)); clear HB; have HB := n0_; have BK156 := n1_; have GW156 := n2_; have GE156 := n3_; clear n0_ n1_ n2_ n3_; clear hb hbox hg; have hcz14_0 : w13.cell? ⟨gb156, 0, none⟩ = some (.int .i64 a0_0) := (zA9 BK156.out 0).trans rfl; have hcz14_1 : w13.cell? ⟨gb156, 1, none⟩ = some (.slice A0_1 l0_1.length c0_1) := (zA9 BK156.out 1).trans rfl; have hfz14_0 := zAh BK156.out 0; have hfz14_1 := zAh BK156.out 1) | ((with_reducible refine zB1 (f := 45) rfl ?_); refine zC2 (some 10) rfl rfl Tryd.func45 (by kernel_rfl) rfl #[.agg #[.int .i64 a0_0, .slice A0_1 l0_1.length c0_1]] rfl (by (try simp only [List.map_toArray, List.map_cons, List.map_nil]); first | done | rfl | (simp only [List.length_drop, List.length_take]; rfl)) ?_; (with_reducible refine (zBk.calls k a0_0 _ _ l0_1 t157 _ ?side1 ?side2 A3.out).mono ?_); (case side1 => repeat (first | exact (Kd.zAy HR0_1.out HB.out) | (with_reducible refine Kd.zA8 ?_ _) | (with_reducible refine Kd.zAd ?_ _) | (with_reducible refine Kd.zAp ?_))); (case side2 => exact HC0_1.out); rintro e w15 ⟨rfl, hb⟩; refine ⟨_, rfl, ?_⟩; have n0_ := zA1.mk (zBc (g := gb156) (o := .cells #[.int .i64 a0_0, .slice A0_1 l0_1.length c0_1] 28 (0, 0)) (by (with_reducible repeat (first | refine zAb ?_ _ | refine zAf ?_ | refine zAa ?_ _)); exact BK156.out) hb); have n1_ := zA1.mk (zAm (by repeat (first | (with_reducible first | exact HB.out | apply zA2 | apply zA0 | apply zA3 | refine zA7 ?_ GE156.out) | exact HB.out)) hb); clear BK156; clear HB; have BK156 := n0_; have HB := n1_; clear n0_ n1_; (try clear hb); (try clear hb2); (try clear hk); (try clear hi); have hcz16_0 : w15.cell? ⟨gb156, 0, none⟩ = some (.int .i64 a0_0) := (zA9 BK156.out 0).trans rfl; have hcz16_1 : w15.cell? ⟨gb156, 1, none⟩ = some (.slice A0_1 l0_1.length c0_1) := (zA9 BK156.out 1).trans rfl; have hfz16_0 := zAh BK156.out 0; have hfz16_1 := zAh BK156.out 1) | ((with_reducible refine zB1 (f := 58) rfl ?_); refine zC2 (some 20) rfl rfl Tryd.func58 (by kernel_rfl) rfl #[.slice A1 l1.length c1, .int .i64 a0_0] rfl (by (try simp only [List.map_toArray, List.map_cons, List.map_nil]); first | done | rfl | (simp only [List.length_drop, List.length_take]; rfl)) ?_; (with_reducible refine (zAu.calls k _ _ l1 a0_0 t158 _ ?side1 ?side2 A9.out).mono ?_); (case side1 => repeat (first | exact (Kd.zAy HR1.out HB.out) | (with_reducible refine Kd.zA8 ?_ _) | (with_reducible refine Kd.zAd ?_ _) | (with_reducible refine Kd.zAp ?_))); (case side2 => exact HC1.out); rintro e w' ⟨rfl, ⟨nd, rfl⟩⟩; refine ⟨_, rfl, ?_⟩) | ((with_reducible refine zB1 (f := 46) rfl ?_); refine zC2 (some 25) rfl rfl Tryd.func46 (by kernel_rfl) rfl #[.agg #[.int .i64 a0_0, .slice A0_1 l0_1.length c0_1]] rfl (by (try simp only [List.map_toArray, List.map_cons, List.map_nil]); first | done | rfl | (simp only [List.length_drop, List.length_take]; rfl)) ?_; (with_reducible refine (zBh.calls k a0_0 _ _ l0_1 t159 _ ?side1 ?side2 A11.out).mono ?_); (case side1 => repeat (first | exact (Kd.zAy HR0_1.out (by repeat (first | (with_reducible first | exact HB.out | apply zA2 | apply zA0 | apply zA3 | refine zA7 ?_ GE156.out) | exact HB.out))) | (with_reducible refine Kd.zA8 ?_ _) | (with_reducible refine Kd.zAd ?_ _) | (with_reducible refine Kd.zAp ?_))); (case side2 => exact HC0_1.out); rintro e w17 ⟨v160, rfl, ho0, hb⟩; refine ⟨_, rfl, ?_⟩; have n0_ := zA1.mk (Kd.R_lower ho0 (zAc (by repeat (first | (with_reducible first | exact HB.out | apply zA2 | apply zA0 | apply zA3 | refine zA7 ?_ GE156.out) | exact HB.out)))); have n1_ := zA1.mk (zBc (g := gb156) (o := .cells #[.int .i64 a0_0, .slice A0_1 l0_1.length c0_1] 28 (0, 0)) (by (with_reducible repeat (first | refine zAb ?_ _ | refine zAf ?_ | refine zAa ?_ _)); exact BK156.out) hb); have n2_ := zA1.mk (zAm (by repeat (first | (with_reducible first | exact HB.out | apply zA2 | apply zA0 | apply zA3 | refine zA7 ?_ GE156.out) | exact HB.out)) hb); clear BK156; clear HB; have HO161 := n0_; have BK156 := n1_; have HB := n2_; clear n0_ n1_ n2_; (try clear hb); (try clear hb2); (try clear hk); (try clear hi); (try clear ho0)) | ((with_reducible refine zB1 (f := 47) rfl ?_); refine zC2 (some 27) rfl rfl Tryd.func47 (by kernel_rfl) rfl #[.slice A1 l1.length c1] rfl (by (try simp only [List.map_toArray, List.map_cons, List.map_nil]); first | done | rfl | (simp only [List.length_drop, List.length_take]; rfl)) ?_; (with_reducible refine (zAs.calls k _ _ l1 t162 _ ?side1 ?side2 A12.out).mono ?_); (case side1 => repeat (first | exact (Kd.zAy HR1.out HB.out) | (with_reducible refine Kd.zA8 ?_ _) | (with_reducible refine Kd.zAd ?_ _) | (with_reducible refine Kd.zAp ?_))); (case side2 => exact HC1.out); rintro e w' ⟨rfl, ⟨nd, rfl⟩⟩; refine ⟨_, rfl, ?_⟩))
    go_ret3
    exact ⟨_, by first | rfl | (simp [zAx, zAw] <;> rfl) | (simp [*, zAx, zAw] <;> rfl), by (with_reducible repeat (first | apply Kd.zAk | apply Kd.zAj | apply Kd.zAt)); exact HO161.out, by repeat (first | (with_reducible first | exact HB.out | apply zA2 | apply zA0 | apply zA3 | refine zA7 ?_ GE156.out) | exact HB.out)⟩
   ·rw [if_neg c10] at H
    have c10b0 : (t158 == 0) = false := beq_eq_false_iff_ne.mpr c10
    have c10b1 : (t158 != 0) = true := bne_iff_ne.mpr c10
    simp only [Option.some.injEq, Prod.mk.injEq] at H
    obtain ⟨rfl, rfl, rfl⟩ := H
    go_enter Tryd.func34, Tryd.ntmps34
    go_wp2_with (first | ((with_reducible refine zBl (N := 2) rfl ?_); refine zBp ?hg (N := 2) ?hd (cs := #[.int .i64 a0_0, .slice A0_1 l0_1.length c0_1]) (t := 28) ?hr ?_; (case hd => rfl); (case hg => rfl); (case hr => first | (go_simp; done) | (go_simp; rfl)); intro gb156 hg w18 hbox hb; have n0_ := zA1.mk (zAm (by repeat (first | (with_reducible first | exact HB.out | apply zA2 | apply zA0 | apply zA3) | exact HB.out)) hb); have n1_ := zA1.mk (hbox); have n2_ := zA1.mk ((by rw [hg]; exact (zAc (by repeat (first | (with_reducible first | exact HB.out | apply zA2 | apply zA0 | apply zA3) | exact HB.out))) : w.heap.size ≤ gb156)); have n3_ := zA1.mk ((by rw [hg]; exact (zAc (by repeat (first | (with_reducible first | exact HB.out | apply zA2 | apply zA0 | apply zA3) | exact HB.out))) : w.heap.size ≤ gb156)); clear HB; have HB := n0_; have BK156 := n1_; have GW156 := n2_; have GE156 := n3_; clear n0_ n1_ n2_ n3_; clear hb hbox hg; have hcz19_0 : w18.cell? ⟨gb156, 0, none⟩ = some (.int .i64 a0_0) := (zA9 BK156.out 0).trans rfl; have hcz19_1 : w18.cell? ⟨gb156, 1, none⟩ = some (.slice A0_1 l0_1.length c0_1) := (zA9 BK156.out 1).trans rfl; have hfz19_0 := zAh BK156.out 0; have hfz19_1 := zAh BK156.out 1) | ((with_reducible refine zB1 (f := 45) rfl ?_); refine zC2 (some 10) rfl rfl Tryd.func45 (by kernel_rfl) rfl #[.agg #[.int .i64 a0_0, .slice A0_1 l0_1.length c0_1]] rfl (by (try simp only [List.map_toArray, List.map_cons, List.map_nil]); first | done | rfl | (simp only [List.length_drop, List.length_take]; rfl)) ?_; (with_reducible refine (zBk.calls k a0_0 _ _ l0_1 t157 _ ?side1 ?side2 A3.out).mono ?_); (case side1 => repeat (first | exact (Kd.zAy HR0_1.out HB.out) | (with_reducible refine Kd.zA8 ?_ _) | (with_reducible refine Kd.zAd ?_ _) | (with_reducible refine Kd.zAp ?_))); (case side2 => exact HC0_1.out); rintro e w20 ⟨rfl, hb⟩; refine ⟨_, rfl, ?_⟩; have n0_ := zA1.mk (zBc (g := gb156) (o := .cells #[.int .i64 a0_0, .slice A0_1 l0_1.length c0_1] 28 (0, 0)) (by (with_reducible repeat (first | refine zAb ?_ _ | refine zAf ?_ | refine zAa ?_ _)); exact BK156.out) hb); have n1_ := zA1.mk (zAm (by repeat (first | (with_reducible first | exact HB.out | apply zA2 | apply zA0 | apply zA3 | refine zA7 ?_ GE156.out) | exact HB.out)) hb); clear BK156; clear HB; have BK156 := n0_; have HB := n1_; clear n0_ n1_; (try clear hb); (try clear hb2); (try clear hk); (try clear hi); have hcz21_0 : w20.cell? ⟨gb156, 0, none⟩ = some (.int .i64 a0_0) := (zA9 BK156.out 0).trans rfl; have hcz21_1 : w20.cell? ⟨gb156, 1, none⟩ = some (.slice A0_1 l0_1.length c0_1) := (zA9 BK156.out 1).trans rfl; have hfz21_0 := zAh BK156.out 0; have hfz21_1 := zAh BK156.out 1) | ((with_reducible refine zB1 (f := 58) rfl ?_); refine zC2 (some 20) rfl rfl Tryd.func58 (by kernel_rfl) rfl #[.slice A1 l1.length c1, .int .i64 a0_0] rfl (by (try simp only [List.map_toArray, List.map_cons, List.map_nil]); first | done | rfl | (simp only [List.length_drop, List.length_take]; rfl)) ?_; (with_reducible refine (zAu.calls k _ _ l1 a0_0 t158 _ ?side1 ?side2 A9.out).mono ?_); (case side1 => repeat (first | exact (Kd.zAy HR1.out HB.out) | (with_reducible refine Kd.zA8 ?_ _) | (with_reducible refine Kd.zAd ?_ _) | (with_reducible refine Kd.zAp ?_))); (case side2 => exact HC1.out); rintro e w' ⟨rfl, ⟨nd, rfl⟩⟩; refine ⟨_, rfl, ?_⟩))
    go_ret3
    exact ⟨_, by first | rfl | (simp [zAx, zAw] <;> rfl) | (simp [*, zAx, zAw] <;> rfl), by first | exact Kd.R_nil _ _ _ _ _ | exact Kd.N_nil _ _ _ _ _ | exact Kd.V_nil _ _ _ _ _ | exact Kd.Q_nil _ _ _ _ _ | exact Kd.S_nil _ _ _ _ _, by repeat (first | (with_reducible first | exact HB.out | apply zA2 | apply zA0 | apply zA3 | refine zA7 ?_ GE156.out) | exact HB.out)⟩
 ·rw [if_neg c4] at H
  have c4b0 : (t157 == 0) = false := beq_eq_false_iff_ne.mpr c4
  have c4b1 : (t157 != 0) = true := bne_iff_ne.mpr c4
  simp only [Option.some.injEq, Prod.mk.injEq] at H
  obtain ⟨rfl, rfl, rfl⟩ := H
  go_enter Tryd.func34, Tryd.ntmps34
  go_wp2_with (first | ((with_reducible refine zBl (N := 2) rfl ?_); refine zBp ?hg (N := 2) ?hd (cs := #[.int .i64 a0_0, .slice A0_1 l0_1.length c0_1]) (t := 28) ?hr ?_; (case hd => rfl); (case hg => rfl); (case hr => first | (go_simp; done) | (go_simp; rfl)); intro gb156 hg w22 hbox hb; have n0_ := zA1.mk (zAm (by repeat (first | (with_reducible first | exact HB.out | apply zA2 | apply zA0 | apply zA3) | exact HB.out)) hb); have n1_ := zA1.mk (hbox); have n2_ := zA1.mk ((by rw [hg]; exact (zAc (by repeat (first | (with_reducible first | exact HB.out | apply zA2 | apply zA0 | apply zA3) | exact HB.out))) : w.heap.size ≤ gb156)); have n3_ := zA1.mk ((by rw [hg]; exact (zAc (by repeat (first | (with_reducible first | exact HB.out | apply zA2 | apply zA0 | apply zA3) | exact HB.out))) : w.heap.size ≤ gb156)); clear HB; have HB := n0_; have BK156 := n1_; have GW156 := n2_; have GE156 := n3_; clear n0_ n1_ n2_ n3_; clear hb hbox hg; have hcz23_0 : w22.cell? ⟨gb156, 0, none⟩ = some (.int .i64 a0_0) := (zA9 BK156.out 0).trans rfl; have hcz23_1 : w22.cell? ⟨gb156, 1, none⟩ = some (.slice A0_1 l0_1.length c0_1) := (zA9 BK156.out 1).trans rfl; have hfz23_0 := zAh BK156.out 0; have hfz23_1 := zAh BK156.out 1) | ((with_reducible refine zB1 (f := 45) rfl ?_); refine zC2 (some 10) rfl rfl Tryd.func45 (by kernel_rfl) rfl #[.agg #[.int .i64 a0_0, .slice A0_1 l0_1.length c0_1]] rfl (by (try simp only [List.map_toArray, List.map_cons, List.map_nil]); first | done | rfl | (simp only [List.length_drop, List.length_take]; rfl)) ?_; (with_reducible refine (zBk.calls k a0_0 _ _ l0_1 t157 _ ?side1 ?side2 A3.out).mono ?_); (case side1 => repeat (first | exact (Kd.zAy HR0_1.out HB.out) | (with_reducible refine Kd.zA8 ?_ _) | (with_reducible refine Kd.zAd ?_ _) | (with_reducible refine Kd.zAp ?_))); (case side2 => exact HC0_1.out); rintro e w24 ⟨rfl, hb⟩; refine ⟨_, rfl, ?_⟩; have n0_ := zA1.mk (zBc (g := gb156) (o := .cells #[.int .i64 a0_0, .slice A0_1 l0_1.length c0_1] 28 (0, 0)) (by (with_reducible repeat (first | refine zAb ?_ _ | refine zAf ?_ | refine zAa ?_ _)); exact BK156.out) hb); have n1_ := zA1.mk (zAm (by repeat (first | (with_reducible first | exact HB.out | apply zA2 | apply zA0 | apply zA3 | refine zA7 ?_ GE156.out) | exact HB.out)) hb); clear BK156; clear HB; have BK156 := n0_; have HB := n1_; clear n0_ n1_; (try clear hb); (try clear hb2); (try clear hk); (try clear hi)))
  go_ret3
  exact ⟨_, by first | rfl | (simp [zAx, zAw] <;> rfl) | (simp [*, zAx, zAw] <;> rfl), by first | exact Kd.R_nil _ _ _ _ _ | exact Kd.N_nil _ _ _ _ _ | exact Kd.V_nil _ _ _ _ _ | exact Kd.Q_nil _ _ _ _ _ | exact Kd.S_nil _ _ _ _ _, by repeat (first | (with_reducible first | exact HB.out | apply zA2 | apply zA0 | apply zA3 | refine zA7 ?_ GE156.out) | exact HB.out)⟩
end
end Go.Proofs.YtbghfbhlbfcloaaDoor.PL
namespace Go.Proofs.YtbghfbhlbfcloaaDoor.PL
section
open Go.RowKit Go.Proofs.YtbghfbhlbfcloaaDoorW.PrintWords Go.Proofs.YtbghfbhlbfcloaaDoorW.PrintLast Go.Proofs.YtbghfbhlbfcloaaDoorW.PrintMore
attribute [local go_sem] zBw zBu zC7 zC6 zBo zBn zBv zBt   -- for this text's walks alone
set_option linter.unusedVariables false
set_option linter.unusedSimpArgs false
def zBm.l0 : Nat → List Int → Int → List (List Int) → Option ((List (List Int)) × Int)
 | 0, _, _, _ => none
 | k + 1, x6, x7, x9 => if x7 = 0 then (some (x9, 0)) else ((zAv.f k x6 x7).bind fun t357 => ((zB9.f k t357).bind fun t358 => (if x9.length < 5864062014805 then (zBm.l0 k x6 (Go.bits .andNot .u64 x7 t357) (x9 ++ [t358])) else (none))))
def zBm.f (k : Nat) (a0_0 : Int) (l0_1 : List (S68)) (l1 : List Int) : Option ((List (List Int)) × Int) := (zBx.f k a0_0 l0_1 l1).bind fun bt352 => (if bt352.2.2 = 0 then (zBm.l0 k bt352.1 bt352.2.1 ([] : List (List Int))) else (some (([] : List (List Int)), bt352.2.2)))
theorem zBm.zBq : ∀ k, (∀ y0 y1 y2, LeO (zBm.l0 k y0 y1 y2) (zBm.l0 (k + 1) y0 y1 y2))
 | 0 => fun _ _ _ r h => by simp [zBm.l0] at h
 | k + 1 => by
  have ih0 := zBm.zBq k
  ·intro y0 y1 y2
   unfold zBm.l0
   repeat' first
   | (with_reducible exact ih0 _ _ _)
   | (with_reducible exact zAv.mono _ _ _)
   | (with_reducible exact zB9.mono _ _)
   | (with_reducible exact zBx.mono _ _ _ _)
   | (with_reducible exact LeO.refl _)
   | (with_reducible exact LeO.none _)
   | (with_reducible refine LeO.ite ?_ ?_)
   | (with_reducible refine LeO.bind ?_ (fun _ => ?_))
theorem zBm.mono : ∀ a0 a1 a2 k, LeO (zBm.f k a0 a1 a2) (zBm.f (k + 1) a0 a1 a2) := by
 intro a0 a1 a2 k
 have ih0 := zBm.zBq k
 unfold zBm.f
 repeat' first
   | (with_reducible exact ih0 _ _ _)
   | (with_reducible exact zAv.mono _ _ _)
   | (with_reducible exact zB9.mono _ _)
   | (with_reducible exact zBx.mono _ _ _ _)
   | (with_reducible exact LeO.refl _)
   | (with_reducible exact LeO.none _)
   | (with_reducible refine LeO.ite ?_ ?_)
   | (with_reducible refine LeO.bind ?_ (fun _ => ?_))
set_option maxHeartbeats 8000000 in
set_option maxRecDepth 100000 in
theorem zBm.calls (k : Nat) (a0_0 : Int) (A0_1 : Option Addr) (c0_1 : Nat) (l0_1 : List (S68)) (A1 : Option Addr) (c1 : Nat) (l1 : List Int) (r1 : List (List Int)) (r2 : Int) (w : World) (hr0_1 : Kd.C k68 w A0_1 l0_1.length l0_1) (hc0_1 : l0_1.length ≤ c0_1) (hr1 : Kd.C (Kd.int .i64) w A1 l1.length l1) (hc1 : l1.length ≤ c1) (hG : Kd.C (Kd.int .u8) w (some tabA) tabL.length tabL) (h : zBm.f k a0_0 l0_1 l1 = some (r1, r2)) :
  Calls Tryd.prog 17 #[.agg #[.int .i64 a0_0, .slice A0_1 l0_1.length c0_1], .slice A1 l1.length c1] w fun e w' => ∃ v0_ : Value, e = .returned (.tuple #[v0_, .int .i64 r2]) ∧ Kd.S (Kd.slice 3 (Kd.int .i64)) 23 w' w.heap.size (fun _ => True) v0_ r1 ∧ Below w.heap.size w w' := by
 have hu28 := Tryd.underlying28
 have HR0_1 := zA1.mk hr0_1
 have HC0_1 := zA1.mk hc0_1
 clear hr0_1 hc0_1
 have HR1 := zA1.mk hr1
 have HC1 := zA1.mk hc1
 clear hr1 hc1
 have HB := zA1.mk (Below.refl w.heap.size w)
 have HG := zA1.mk hG
 clear hG
 have H : ((zBx.f k a0_0 l0_1 l1).bind fun bt352 => (if bt352.2.2 = 0 then (zBm.l0 k bt352.1 bt352.2.1 ([] : List (List Int))) else (some (([] : List (List Int)), bt352.2.2)))) = some (r1, r2) := h
 clear h
 replace H := Option.bind_eq_some_iff.mp H
 obtain ⟨⟨t352, t355, t356⟩, A30, H⟩ := H
 replace H : (if t356 = 0 then (zBm.l0 k t352 t355 ([] : List (List Int))) else (some (([] : List (List Int)), t356))) = some (r1, r2) := H
 have A3 := zA1.mk A30
 clear A30
 by_cases c4 : t356 = 0
 ·rw [if_pos c4] at H
  have c4b0 : (t356 == 0) = true := beq_iff_eq.mpr c4
  have c4b1 : (t356 != 0) = false := bne_eq_false_iff_eq.mpr c4
  clear c4
  have H' := zA1.mk H
  clear H
  go_enter Tryd.func17, Tryd.ntmps17
  go_wp2_with (first | ((with_reducible refine zBl (N := 2) rfl ?_); refine zBp ?hg (N := 2) ?hd (cs := #[.int .i64 a0_0, .slice A0_1 l0_1.length c0_1]) (t := 28) ?hr ?_; (case hd => rfl); (case hg => rfl); (case hr => first | (go_simp; done) | (go_simp; rfl)); intro gb351 hg w5 hbox hb; have n0_ := zA1.mk (zAm (by repeat (first | (with_reducible first | exact HB.out | apply zA2 | apply zA0 | apply zA3) | exact HB.out)) hb); have n1_ := zA1.mk (hbox); have n2_ := zA1.mk ((by rw [hg]; exact (zAc (by repeat (first | (with_reducible first | exact HB.out | apply zA2 | apply zA0 | apply zA3) | exact HB.out))) : w.heap.size ≤ gb351)); have n3_ := zA1.mk ((by rw [hg]; exact (zAc (by repeat (first | (with_reducible first | exact HB.out | apply zA2 | apply zA0 | apply zA3) | exact HB.out))) : w.heap.size ≤ gb351)); clear HB; have HB := n0_; have BK351 := n1_; have GW351 := n2_; have GE351 := n3_; clear n0_ n1_ n2_ n3_; clear hb hbox hg; have hcz6_0 : w5.cell? ⟨gb351, 0, none⟩ = some (.int .i64 a0_0) := (zA9 BK351.out 0).trans rfl; have hcz6_1 : w5.cell? ⟨gb351, 1, none⟩ = some (.slice A0_1 l0_1.length c0_1) := (zA9 BK351.out 1).trans rfl; have hfz6_0 := zAh BK351.out 0; have hfz6_1 := zAh BK351.out 1) | ((with_reducible refine zB1 (f := 34) rfl ?_); refine zC2 (some 14) rfl rfl Tryd.func34 (by kernel_rfl) rfl #[.agg #[.int .i64 a0_0, .slice A0_1 l0_1.length c0_1], .slice A1 l1.length c1] rfl (by (try simp only [List.map_toArray, List.map_cons, List.map_nil]); first | done | rfl | (simp only [List.length_drop, List.length_take]; rfl)) ?_; (with_reducible refine (zBx.calls k a0_0 _ _ l0_1 _ _ l1 t352 t355 t356 _ ?side1 ?side2 ?side3 ?side4 A3.out).mono ?_); (case side1 => repeat (first | exact (Kd.zAy HR0_1.out HB.out) | (with_reducible refine Kd.zA8 ?_ _) | (with_reducible refine Kd.zAd ?_ _) | (with_reducible refine Kd.zAp ?_))); (case side2 => exact HC0_1.out); (case side3 => repeat (first | exact (Kd.zAy HR1.out HB.out) | (with_reducible refine Kd.zA8 ?_ _) | (with_reducible refine Kd.zAd ?_ _) | (with_reducible refine Kd.zAp ?_))); (case side4 => exact HC1.out); rintro e w7 ⟨v353, rfl, ho0, hb⟩; refine ⟨_, rfl, ?_⟩; have n0_ := zA1.mk (Kd.R_lower ho0 (zAc (by repeat (first | (with_reducible first | exact HB.out | apply zA2 | apply zA0 | apply zA3 | refine zA7 ?_ GE351.out) | exact HB.out)))); have n1_ := zA1.mk (zBc (g := gb351) (o := .cells #[.int .i64 a0_0, .slice A0_1 l0_1.length c0_1] 28 (0, 0)) (by (with_reducible repeat (first | refine zAb ?_ _ | refine zAf ?_ | refine zAa ?_ _)); exact BK351.out) hb); have n2_ := zA1.mk (zAm (by repeat (first | (with_reducible first | exact HB.out | apply zA2 | apply zA0 | apply zA3 | refine zA7 ?_ GE351.out) | exact HB.out)) hb); clear BK351; clear HB; have HO354 := n0_; have BK351 := n1_; have HB := n2_; clear n0_ n1_ n2_; (try clear hb); (try clear hb2); (try clear hk); (try clear hi); (try clear ho0)))
  go_loopg [7, 9] k (fun kq v7 v9 w' => ∃ (x7_1 : Int) (x9_1 : List (List Int)), v7 = .int .u64 x7_1 ∧ zA1 (zBm.l0 kq t352 x7_1 x9_1 = some (r1, r2)) ∧ zA1 (kq ≤ k) ∧ zA1 (Kd.R (Kd.int .u64) 71 w' w.heap.size (fun _ => True) v353 t352) ∧ zA1 (Kd.S (Kd.slice 3 (Kd.int .i64)) 23 w' w.heap.size (fun _ => True) v9 x9_1) ∧ zA1 (w'.heap[gb351]? = some (.cells #[.int .i64 a0_0, (.slice A0_1 l0_1.length c0_1)] 28 (0, 0))) ∧ zA1 (Below w.heap.size w w'))
  case atStart => exact ⟨(t355), (([] : List (List Int))), (by first | rfl | (simp; done) | (simp [*]; done)), H', ⟨Nat.le_refl _⟩, ⟨by (with_reducible repeat (first | apply Kd.zAk | apply Kd.zAj | apply Kd.zAt)); exact HO354.out⟩, ⟨by first | exact Kd.S_nil _ _ _ _ _ | exact Kd.N_nil _ _ _ _ _ | exact Kd.V_nil _ _ _ _ _ | exact Kd.Q_nil _ _ _ _ _ | exact Kd.R_nil _ _ _ _ _⟩, ⟨by (with_reducible repeat (first | refine zAb ?_ _ | refine zAf ?_ | refine zAa ?_ _)); exact BK351.out⟩, ⟨by repeat (first | (with_reducible first | exact HB.out | apply zA2 | apply zA0 | apply zA3 | refine zA7 ?_ GE351.out) | exact HB.out)⟩⟩
  case round =>
   clear H'
   try clear c1
   try clear p2
   try clear c3
   try clear c4
   try clear c4b0
   try clear c4b1
   try clear hcz6_0
   try clear hcz6_1
   try clear hfz6_0
   try clear hfz6_1
   obtain ⟨x7_1, x9_1, rfl, HA, HK1, HO_6, HO_9, BK351, HB⟩ := hrel
   cases gk with
   | zero => exact absurd HA.out (by simp [zBm.l0])
   | succ k1 =>
    have H := HA.out
    clear HA
    simp only [zBm.l0] at H
    by_cases c8 : x7_1 = 0
    ·rw [if_pos c8] at H
     have c8b0 : (x7_1 == 0) = true := beq_iff_eq.mpr c8
     have c8b1 : (x7_1 != 0) = false := bne_eq_false_iff_eq.mpr c8
     clear c8
     simp only [Option.some.injEq, Prod.mk.injEq] at H
     obtain ⟨rfl, rfl⟩ := H
     go_wp2
     go_ret2
     exact ⟨_, by first | rfl | (simp [zAx, zAw] <;> rfl) | (simp [*, zAx, zAw] <;> rfl), by (with_reducible repeat (first | apply Kd.S_alloc | apply Kd.S_drewN | apply Kd.S_drew)); exact HO_9.out, by repeat (first | (with_reducible first | exact HB.out | apply zA2 | apply zA0 | apply zA3 | refine zA7 ?_ GE351.out) | exact HB.out)⟩
    ·rw [if_neg c8] at H
     have c8b0 : (x7_1 == 0) = false := beq_eq_false_iff_ne.mpr c8
     have c8b1 : (x7_1 != 0) = true := bne_iff_ne.mpr c8
     replace H := Option.bind_eq_some_iff.mp H
     obtain ⟨t357, A90, H⟩ := H
     replace H : ((zB9.f k1 t357).bind fun t358 => (if x9_1.length < 5864062014805 then (zBm.l0 k1 t352 (Go.bits .andNot .u64 x7_1 t357) (x9_1 ++ [t358])) else (none))) = some (r1, r2) := H
     have A9 := zA1.mk A90
     clear A90
     replace H := Option.bind_eq_some_iff.mp H
     obtain ⟨t358, A100, H⟩ := H
     replace H : (if x9_1.length < 5864062014805 then (zBm.l0 k1 t352 (Go.bits .andNot .u64 x7_1 t357) (x9_1 ++ [t358])) else (none)) = some (r1, r2) := H
     have A10 := zA1.mk A100
     clear A100
     by_cases c11 : x9_1.length < 5864062014805
     rotate_left
     ·rw [if_neg c11] at H
      exact absurd H (by simp)
     rw [if_pos c11] at H
     have LMc11 := zA1.mk c11
     clear c11
     obtain ⟨y361, hy361⟩ : ∃ y_ : List (List Int), y_ = (x9_1 ++ [t358]) := ⟨_, rfl⟩
     replace H : (zBm.l0 k1 t352 (Go.bits .andNot .u64 x7_1 t357) y361) = some (r1, r2) := by first | (rw [hy361]; with_reducible exact H) | (have H2_ := (Option.bind_some _ _).symm.trans H; rw [hy361]; with_reducible exact H2_) | (have H2_ := (Option.bind_some _ _).symm.trans H; with_reducible exact H2_) | with_reducible exact H | (rw [hy361]; exact H) | exact H
     have Ny361 := zA1.mk hy361
     clear hy361
     have H' := zA1.mk H
     clear H
     obtain ⟨Ao12, co12, eo12⟩ := Kd.zCe HO_6.out
     subst eo12
     go_wp2_with (first | ((with_reducible refine zB1 (f := 44) rfl ?_); refine zC2 (some 25) rfl rfl Tryd.func44 (by kernel_rfl) rfl #[.slice Ao12 t352.length co12, .int .u64 x7_1] rfl (by (try simp only [List.map_toArray, List.map_cons, List.map_nil]); first | done | rfl | (simp only [List.length_drop, List.length_take]; rfl)) ?_; (with_reducible refine (zAv.calls k1 _ _ t352 x7_1 t357 _ ?side1 ?side2 ?side3 A9.out).mono ?_); (case side1 => repeat (first | exact (Kd.zBd HO_6.out).2.2 | (with_reducible refine Kd.zA8 ?_ _) | (with_reducible refine Kd.zAd ?_ _) | (with_reducible refine Kd.zAp ?_))); (case side2 => exact (Kd.zBd HO_6.out).2.1); (case side3 => repeat (first | exact (Kd.zAy HG.out HB.out) | (with_reducible refine Kd.zA8 ?_ _) | (with_reducible refine Kd.zAd ?_ _) | (with_reducible refine Kd.zAp ?_))); rintro e w13 ⟨rfl, hb⟩; refine ⟨_, rfl, ?_⟩; have n0_ := zA1.mk (Kd.zCa (by (with_reducible repeat (first | apply Kd.zAk | apply Kd.zAj | apply Kd.zAt)); exact HO_6.out) hb); have n1_ := zA1.mk (Kd.S_below (by (with_reducible repeat (first | apply Kd.S_alloc | apply Kd.S_drewN | apply Kd.S_drew)); exact HO_9.out) hb); have n2_ := zA1.mk (zBc (g := gb351) (o := .cells #[.int .i64 a0_0, .slice A0_1 l0_1.length c0_1] 28 (0, 0)) (by (with_reducible repeat (first | refine zAb ?_ _ | refine zAf ?_ | refine zAa ?_ _)); exact BK351.out) hb); have n3_ := zA1.mk (zAm (by repeat (first | (with_reducible first | exact HB.out | apply zA2 | apply zA0 | apply zA3 | refine zA7 ?_ GE351.out) | exact HB.out)) hb); clear HO_6; clear HO_9; clear BK351; clear HB; have HO_6 := n0_; have HO_9 := n1_; have BK351 := n2_; have HB := n3_; clear n0_ n1_ n2_ n3_; (try clear hb); (try clear hb2); (try clear hk); (try clear hi)) | ((with_reducible refine zB1 (f := 37) rfl ?_); refine zC2 (some 28) rfl rfl Tryd.func37 (by kernel_rfl) rfl #[.int .u64 t357] rfl (by (try simp only [List.map_toArray, List.map_cons, List.map_nil]); first | done | rfl | (simp only [List.length_drop, List.length_take]; rfl)) ?_; (with_reducible refine (zB9.calls k1 t357 t358 _ ?side1 A10.out).mono ?_); (case side1 => repeat (first | exact (Kd.zAy HG.out HB.out) | (with_reducible refine Kd.zA8 ?_ _) | (with_reducible refine Kd.zAd ?_ _) | (with_reducible refine Kd.zAp ?_))); rintro e w14 ⟨v359, rfl, ho0, hb⟩; refine ⟨_, rfl, ?_⟩; have n0_ := zA1.mk (Kd.zCa (by (with_reducible repeat (first | apply Kd.zAk | apply Kd.zAj | apply Kd.zAt)); exact HO_6.out) hb); have n1_ := zA1.mk (Kd.S_elder' (by (with_reducible repeat (first | apply Kd.S_alloc | apply Kd.S_drewN | apply Kd.S_drew)); exact HO_9.out) (Kd.R_base ho0) hb); have n2_ := zA1.mk (Kd.R_lower ho0 (zAc (by repeat (first | (with_reducible first | exact HB.out | apply zA2 | apply zA0 | apply zA3 | refine zA7 ?_ GE351.out) | exact HB.out)))); have n3_ := zA1.mk (zBc (g := gb351) (o := .cells #[.int .i64 a0_0, .slice A0_1 l0_1.length c0_1] 28 (0, 0)) (by (with_reducible repeat (first | refine zAb ?_ _ | refine zAf ?_ | refine zAa ?_ _)); exact BK351.out) hb); have n4_ := zA1.mk (zAm (by repeat (first | (with_reducible first | exact HB.out | apply zA2 | apply zA0 | apply zA3 | refine zA7 ?_ GE351.out) | exact HB.out)) hb); clear HO_6; clear HO_9; clear BK351; clear HB; have HO_6 := n0_; have HO_9 := n1_; have HO360 := n2_; have BK351 := n3_; have HB := n4_; clear n0_ n1_ n2_ n3_ n4_; (try clear hb); (try clear hb2); (try clear hk); (try clear hi); (try clear ho0); obtain ⟨Ao16, co16, eo16⟩ := Kd.zCe HO360.out; subst eo16) | ((with_reducible refine zC1 (b := .append) (xs := #[.tmp 26, .tmp 29]) rfl ?_); at_builtin; refine Kd.S_append (Kd.slice 3 (Kd.int .i64)) (w0 := w) w.heap.size rfl (.tmp 26) (.tmp 29) 45 23 (.slice none 0 0) 24 rfl Tryd.underlying45 info23 rfl (by decide) (by omega) u9 x9_1 t358 [.slice Ao16 t358.length co16] (fun _ => True) (fun k_ => some k_ = (.slice Ao16 t358.length co16 : Value).ownBlock) rfl rfl ?aP (fun k_ hk_ => ((Kd.zCc (ok' := fun k_ => ((fun _ => True)) k_ ∧ some k_ ≠ (u9 : Value).ownBlock) (Kd.R_apart' (HO360.out) (Kd.S_typed HO_9.out) (by decide)) (fun k_ hk => ⟨trivial, hk.2⟩))).1 k_ hk_.symm) ?aF ?aO ?aB ?aS ?aL ?_; (case aP => exact Kd.M_row (Kd.zCc (Kd.R_tight rfl (Kd.zCc (ok' := fun k_ => ((fun _ => True)) k_ ∧ some k_ ≠ (u9 : Value).ownBlock) (Kd.R_apart' (HO360.out) (Kd.S_typed HO_9.out) (by decide)) (fun k_ hk => ⟨trivial, hk.2⟩))) (fun _ h_ => h_))); (case aB => exact (by repeat (first | (with_reducible first | exact HB.out | apply zA2 | apply zA0 | apply zA3 | refine zA7 ?_ GE351.out) | exact HB.out))); (case aF => exact (fun _ _ => trivial)); (case aO => exact (by (with_reducible repeat (first | apply Kd.S_alloc | apply Kd.S_drewN | apply Kd.S_drew)); exact Kd.S_mono HO_9.out (fun k_ hk => ⟨trivial, fun e_ => hk.2 e_⟩))); (case aS => exact (zAc (by repeat (first | (with_reducible first | exact HB.out | apply zA2 | apply zA0 | apply zA3 | refine zA7 ?_ GE351.out) | exact HB.out)))); (case aL => have := LMc11.out; omega); intro v362 w15 ho hb hg hat; rw [← Ny361.out] at ho; have n0_ := zA1.mk (Kd.R_over' (by (with_reducible repeat (first | apply Kd.zAk | apply Kd.zAj | apply Kd.zAt)); exact HO_6.out) (Kd.S_typed (by (with_reducible repeat (first | apply Kd.S_alloc | apply Kd.S_drewN | apply Kd.S_drew)); exact HO_9.out)) (by decide) hg); have n1_ := zA1.mk (blk_grown (g := gb351) (o := .cells #[.int .i64 a0_0, .slice A0_1 l0_1.length c0_1] 28 (0, 0)) (by (with_reducible repeat (first | refine zAb ?_ _ | refine zAf ?_ | refine zAa ?_ _)); exact BK351.out) hg (Kd.S_ne HO_9.out BK351.out (by decide))); have n2_ := zA1.mk (hb); have n3_ := zA1.mk (ho); clear HO_6; clear BK351; clear HB; clear HO_9; clear HO360; have HO_6 := n0_; have BK351 := n1_; have HB := n2_; have HO363 := n3_; clear n0_ n1_ n2_ n3_; clear ho hb hg hat))
     go_roundg k1
     case measure => have := HK1.out; omega
     case rel => exact ⟨(Go.bits .andNot .u64 x7_1 t357), (y361), (by first | rfl | (simp; done) | (simp [*]; done)), H', ⟨by have := HK1.out; omega⟩, ⟨by (with_reducible repeat (first | apply Kd.zAk | apply Kd.zAj | apply Kd.zAt)); exact HO_6.out⟩, ⟨by (with_reducible repeat (first | apply Kd.S_alloc | apply Kd.S_drewN | apply Kd.S_drew)); exact HO363.out⟩, ⟨by (with_reducible repeat (first | refine zAb ?_ _ | refine zAf ?_ | refine zAa ?_ _)); exact BK351.out⟩, ⟨by repeat (first | (with_reducible first | exact HB.out | apply zA2 | apply zA0 | apply zA3 | refine zA7 ?_ GE351.out) | exact HB.out)⟩⟩
 ·rw [if_neg c4] at H
  have c4b0 : (t356 == 0) = false := beq_eq_false_iff_ne.mpr c4
  have c4b1 : (t356 != 0) = true := bne_iff_ne.mpr c4
  simp only [Option.some.injEq, Prod.mk.injEq] at H
  obtain ⟨rfl, rfl⟩ := H
  go_enter Tryd.func17, Tryd.ntmps17
  go_wp2_with (first | ((with_reducible refine zBl (N := 2) rfl ?_); refine zBp ?hg (N := 2) ?hd (cs := #[.int .i64 a0_0, .slice A0_1 l0_1.length c0_1]) (t := 28) ?hr ?_; (case hd => rfl); (case hg => rfl); (case hr => first | (go_simp; done) | (go_simp; rfl)); intro gb351 hg w17 hbox hb; have n0_ := zA1.mk (zAm (by repeat (first | (with_reducible first | exact HB.out | apply zA2 | apply zA0 | apply zA3) | exact HB.out)) hb); have n1_ := zA1.mk (hbox); have n2_ := zA1.mk ((by rw [hg]; exact (zAc (by repeat (first | (with_reducible first | exact HB.out | apply zA2 | apply zA0 | apply zA3) | exact HB.out))) : w.heap.size ≤ gb351)); have n3_ := zA1.mk ((by rw [hg]; exact (zAc (by repeat (first | (with_reducible first | exact HB.out | apply zA2 | apply zA0 | apply zA3) | exact HB.out))) : w.heap.size ≤ gb351)); clear HB; have HB := n0_; have BK351 := n1_; have GW351 := n2_; have GE351 := n3_; clear n0_ n1_ n2_ n3_; clear hb hbox hg; have hcz18_0 : w17.cell? ⟨gb351, 0, none⟩ = some (.int .i64 a0_0) := (zA9 BK351.out 0).trans rfl; have hcz18_1 : w17.cell? ⟨gb351, 1, none⟩ = some (.slice A0_1 l0_1.length c0_1) := (zA9 BK351.out 1).trans rfl; have hfz18_0 := zAh BK351.out 0; have hfz18_1 := zAh BK351.out 1) | ((with_reducible refine zB1 (f := 34) rfl ?_); refine zC2 (some 14) rfl rfl Tryd.func34 (by kernel_rfl) rfl #[.agg #[.int .i64 a0_0, .slice A0_1 l0_1.length c0_1], .slice A1 l1.length c1] rfl (by (try simp only [List.map_toArray, List.map_cons, List.map_nil]); first | done | rfl | (simp only [List.length_drop, List.length_take]; rfl)) ?_; (with_reducible refine (zBx.calls k a0_0 _ _ l0_1 _ _ l1 t352 t355 t356 _ ?side1 ?side2 ?side3 ?side4 A3.out).mono ?_); (case side1 => repeat (first | exact (Kd.zAy HR0_1.out HB.out) | (with_reducible refine Kd.zA8 ?_ _) | (with_reducible refine Kd.zAd ?_ _) | (with_reducible refine Kd.zAp ?_))); (case side2 => exact HC0_1.out); (case side3 => repeat (first | exact (Kd.zAy HR1.out HB.out) | (with_reducible refine Kd.zA8 ?_ _) | (with_reducible refine Kd.zAd ?_ _) | (with_reducible refine Kd.zAp ?_))); (case side4 => exact HC1.out); rintro e w19 ⟨v353, rfl, ho0, hb⟩; refine ⟨_, rfl, ?_⟩; have n0_ := zA1.mk (Kd.R_lower ho0 (zAc (by repeat (first | (with_reducible first | exact HB.out | apply zA2 | apply zA0 | apply zA3 | refine zA7 ?_ GE351.out) | exact HB.out)))); have n1_ := zA1.mk (zBc (g := gb351) (o := .cells #[.int .i64 a0_0, .slice A0_1 l0_1.length c0_1] 28 (0, 0)) (by (with_reducible repeat (first | refine zAb ?_ _ | refine zAf ?_ | refine zAa ?_ _)); exact BK351.out) hb); have n2_ := zA1.mk (zAm (by repeat (first | (with_reducible first | exact HB.out | apply zA2 | apply zA0 | apply zA3 | refine zA7 ?_ GE351.out) | exact HB.out)) hb); clear BK351; clear HB; have HO354 := n0_; have BK351 := n1_; have HB := n2_; clear n0_ n1_ n2_; (try clear hb); (try clear hb2); (try clear hk); (try clear hi); (try clear ho0)))
  go_ret2
  exact ⟨_, by first | rfl | (simp [zAx, zAw] <;> rfl) | (simp [*, zAx, zAw] <;> rfl), by first | exact Kd.S_nil _ _ _ _ _ | exact Kd.N_nil _ _ _ _ _ | exact Kd.V_nil _ _ _ _ _ | exact Kd.Q_nil _ _ _ _ _ | exact Kd.R_nil _ _ _ _ _, by repeat (first | (with_reducible first | exact HB.out | apply zA2 | apply zA0 | apply zA3 | refine zA7 ?_ GE351.out) | exact HB.out)⟩
end
end Go.Proofs.YtbghfbhlbfcloaaDoor.PL
namespace Go.Proofs.YtbghfbhlbfcloaaDoor.PL
section
open Go.RowKit Go.Proofs.YtbghfbhlbfcloaaDoorW.PrintWords Go.Proofs.YtbghfbhlbfcloaaDoorW.PrintLast Go.Proofs.YtbghfbhlbfcloaaDoorW.PrintMore
attribute [local go_sem] zBw zBu zC7 zC6 zBo zBn zBv zBt   -- for this text's walks alone
set_option linter.unusedVariables false
set_option linter.unusedSimpArgs false
def zAz.f (k : Nat) (l0 : List Int) (a1 : Int) : Option (Bool) := (zAv.f k l0 a1).bind fun t172 => (some (t172 == a1))
theorem zAz.mono : ∀ a0 a1 k, LeO (zAz.f k a0 a1) (zAz.f (k + 1) a0 a1) := by
 intro a0 a1 k
 unfold zAz.f
 repeat' first
   | (with_reducible exact zAv.mono _ _ _)
   | (with_reducible exact LeO.refl _)
   | (with_reducible exact LeO.none _)
   | (with_reducible refine LeO.ite ?_ ?_)
   | (with_reducible refine LeO.bind ?_ (fun _ => ?_))
set_option maxHeartbeats 8000000 in
set_option maxRecDepth 100000 in
theorem zAz.calls (k : Nat) (A0 : Option Addr) (c0 : Nat) (l0 : List Int) (a1 : Int) (r : Bool) (w : World) (hr0 : Kd.C (Kd.int .u64) w A0 l0.length l0) (hc0 : l0.length ≤ c0) (hG : Kd.C (Kd.int .u8) w (some tabA) tabL.length tabL) (h : zAz.f k l0 a1 = some r) :
  Calls Tryd.prog 35 #[.slice A0 l0.length c0, .int .u64 a1] w fun e w' => e = .returned (.bool r) ∧ Below w.heap.size w w' := by
 have HR0 := zA1.mk hr0
 have HC0 := zA1.mk hc0
 clear hr0 hc0
 have HB := zA1.mk (Below.refl w.heap.size w)
 have HG := zA1.mk hG
 clear hG
 have H : ((zAv.f k l0 a1).bind fun t172 => (some (t172 == a1))) = some r := h
 clear h
 replace H := Option.bind_eq_some_iff.mp H
 obtain ⟨t172, A30, H⟩ := H
 replace H : (some (t172 == a1)) = some r := H
 have A3 := zA1.mk A30
 clear A30
 obtain rfl := Option.some.inj H
 go_enter Tryd.func35, Tryd.ntmps35
 go_wp2_with (first | ((with_reducible refine zB1 (f := 44) rfl ?_); refine zC2 (some 7) rfl rfl Tryd.func44 (by kernel_rfl) rfl #[.slice A0 l0.length c0, .int .u64 a1] rfl (by (try simp only [List.map_toArray, List.map_cons, List.map_nil]); first | done | rfl | (simp only [List.length_drop, List.length_take]; rfl)) ?_; (with_reducible refine (zAv.calls k _ _ l0 a1 t172 _ ?side1 ?side2 ?side3 A3.out).mono ?_); (case side1 => repeat (first | exact HR0.out | (with_reducible refine Kd.zA8 ?_ _) | (with_reducible refine Kd.zAd ?_ _) | (with_reducible refine Kd.zAp ?_))); (case side2 => exact HC0.out); (case side3 => repeat (first | exact HG.out | (with_reducible refine Kd.zA8 ?_ _) | (with_reducible refine Kd.zAd ?_ _) | (with_reducible refine Kd.zAp ?_))); rintro e w4 ⟨rfl, hb⟩; refine ⟨_, rfl, ?_⟩; have n0_ := zA1.mk (zAm (by repeat (first | (with_reducible first | exact HB.out | apply zA2 | apply zA0 | apply zA3) | exact HB.out)) hb); clear HB; have HB := n0_; clear n0_; (try clear hb); (try clear hb2); (try clear hk); (try clear hi)))
 go_ret
 exact ⟨by first | rfl | (simp [zAx, zAw] <;> rfl) | (simp [*, zAx, zAw] <;> rfl), by repeat (first | (with_reducible first | exact HB.out | apply zA2 | apply zA0 | apply zA3) | exact HB.out)⟩
end
end Go.Proofs.YtbghfbhlbfcloaaDoor.PL
namespace Go.Proofs.YtbghfbhlbfcloaaDoor.PL
section
open Go.RowKit Go.Proofs.YtbghfbhlbfcloaaDoorW.PrintWords Go.Proofs.YtbghfbhlbfcloaaDoorW.PrintLast Go.Proofs.YtbghfbhlbfcloaaDoorW.PrintMore
attribute [local go_sem] zBw zBu zC7 zC6 zBo zBn zBv zBt   -- for this text's walks alone
set_option linter.unusedVariables false
set_option linter.unusedSimpArgs false
attribute [local go_sem high] eqA68
def zBi.l0 : Nat → List Int → List Int → Int → List Int → List Int → Int → Int → Option (List Int × Int)
 | 0, _, _, _, _, _, _, _ => none
 | k + 1, x1, x6, x7, x9, x26, x27, x28 => if x28 < x27 then (if 0 ≤ x28 then (if x28 < (x26.length : Int) then (if (x1.length : Int) > 2 then (if 0 ≤ (rd x26 x28) then ((zAz.f k x6 (Go.bits .andNot .u64 x7 (shl .u64 1 (rd x26 x28)))).bind fun t188 => (if t188 = true then (zBi.l0 k x1 x6 x7 x9 x26 x27 (wrap64 (x28 + 1))) else (if x9.length < 17592186044416 then (zBi.l0 k x1 x6 x7 (x9 ++ [rd x26 x28]) x26 x27 (wrap64 (x28 + 1))) else (none)))) else (none)) else (zBi.l0 k x1 x6 x7 x9 x26 x27 (wrap64 (x28 + 1)))) else (none)) else (none)) else (some (x9, 0))
def zBi.f (k : Nat) (a0_0 : Int) (l0_1 : List (S68)) (l1 : List Int) : Option (List Int × Int) := (zBx.f k a0_0 l0_1 l1).bind fun bt181 => (if bt181.2.2 = 0 then ((zAz.f k bt181.1 bt181.2.1).bind fun t186 => (if t186 = true then (zBi.l0 k l1 bt181.1 bt181.2.1 ([] : List Int) l1 (l1.length : Int) 0) else (some (([] : List Int), 17)))) else (some (([] : List Int), bt181.2.2)))
theorem zBi.zBq : ∀ k, (∀ y0 y1 y2 y3 y4 y5 y6, LeO (zBi.l0 k y0 y1 y2 y3 y4 y5 y6) (zBi.l0 (k + 1) y0 y1 y2 y3 y4 y5 y6))
 | 0 => fun _ _ _ _ _ _ _ r h => by simp [zBi.l0] at h
 | k + 1 => by
  have ih0 := zBi.zBq k
  ·intro y0 y1 y2 y3 y4 y5 y6
   unfold zBi.l0
   repeat' first
   | (with_reducible exact ih0 _ _ _ _ _ _ _)
   | (with_reducible exact zAz.mono _ _ _)
   | (with_reducible exact zBx.mono _ _ _ _)
   | (with_reducible exact LeO.refl _)
   | (with_reducible exact LeO.none _)
   | (with_reducible refine LeO.ite ?_ ?_)
   | (with_reducible refine LeO.bind ?_ (fun _ => ?_))
theorem zBi.mono : ∀ a0 a1 a2 k, LeO (zBi.f k a0 a1 a2) (zBi.f (k + 1) a0 a1 a2) := by
 intro a0 a1 a2 k
 have ih0 := zBi.zBq k
 unfold zBi.f
 repeat' first
   | (with_reducible exact ih0 _ _ _ _ _ _ _)
   | (with_reducible exact zAz.mono _ _ _)
   | (with_reducible exact zBx.mono _ _ _ _)
   | (with_reducible exact LeO.refl _)
   | (with_reducible exact LeO.none _)
   | (with_reducible refine LeO.ite ?_ ?_)
   | (with_reducible refine LeO.bind ?_ (fun _ => ?_))
set_option maxHeartbeats 8000000 in
set_option maxRecDepth 100000 in
theorem zBi.calls (k : Nat) (a0_0 : Int) (A0_1 : Option Addr) (c0_1 : Nat) (l0_1 : List (S68)) (A1 : Option Addr) (c1 : Nat) (l1 : List Int) (r1 : List Int) (r2 : Int) (w : World) (hr0_1 : Kd.C k68 w A0_1 l0_1.length l0_1) (hc0_1 : l0_1.length ≤ c0_1) (hr1 : Kd.C (Kd.int .i64) w A1 l1.length l1) (hc1 : l1.length ≤ c1) (hG : Kd.C (Kd.int .u8) w (some tabA) tabL.length tabL) (h : zBi.f k a0_0 l0_1 l1 = some (r1, r2)) :
  Calls Tryd.prog 11 #[.agg #[.int .i64 a0_0, .slice A0_1 l0_1.length c0_1], .slice A1 l1.length c1] w fun e w' => ∃ v0_ : Value, e = .returned (.tuple #[v0_, .int .i64 r2]) ∧ Kd.R (Kd.int .i64) 3 w' w.heap.size (fun _ => True) v0_ r1 ∧ Below w.heap.size w w' := by
 have hu28 := Tryd.underlying28
 have HR0_1 := zA1.mk hr0_1
 have HC0_1 := zA1.mk hc0_1
 clear hr0_1 hc0_1
 have HR1 := zA1.mk hr1
 have HC1 := zA1.mk hc1
 clear hr1 hc1
 have HB := zA1.mk (Below.refl w.heap.size w)
 have HG := zA1.mk hG
 clear hG
 have H : ((zBx.f k a0_0 l0_1 l1).bind fun bt181 => (if bt181.2.2 = 0 then ((zAz.f k bt181.1 bt181.2.1).bind fun t186 => (if t186 = true then (zBi.l0 k l1 bt181.1 bt181.2.1 ([] : List Int) l1 (l1.length : Int) 0) else (some (([] : List Int), 17)))) else (some (([] : List Int), bt181.2.2)))) = some (r1, r2) := h
 clear h
 replace H := Option.bind_eq_some_iff.mp H
 obtain ⟨⟨t181, t184, t185⟩, A30, H⟩ := H
 replace H : (if t185 = 0 then ((zAz.f k t181 t184).bind fun t186 => (if t186 = true then (zBi.l0 k l1 t181 t184 ([] : List Int) l1 (l1.length : Int) 0) else (some (([] : List Int), 17)))) else (some (([] : List Int), t185))) = some (r1, r2) := H
 have A3 := zA1.mk A30
 clear A30
 by_cases c4 : t185 = 0
 ·rw [if_pos c4] at H
  have c4b0 : (t185 == 0) = true := beq_iff_eq.mpr c4
  have c4b1 : (t185 != 0) = false := bne_eq_false_iff_eq.mpr c4
  clear c4
  replace H := Option.bind_eq_some_iff.mp H
  obtain ⟨t186, A50, H⟩ := H
  replace H : (if t186 = true then (zBi.l0 k l1 t181 t184 ([] : List Int) l1 (l1.length : Int) 0) else (some (([] : List Int), 17))) = some (r1, r2) := H
  have A5 := zA1.mk A50
  clear A50
  by_cases c6 : t186 = true
  ·subst c6
   have H1 : (zBi.l0 k l1 t181 t184 ([] : List Int) l1 (l1.length : Int) 0) = some (r1, r2) := by rw [if_pos rfl] at H; exact H
   clear H
   have H := H1
   clear H1
   have H' := zA1.mk H
   clear H
   go_enter Tryd.func11, Tryd.ntmps11
   go_wp2_with (first | ((with_reducible refine zBl (N := 2) rfl ?_); refine zBp ?hg (N := 2) ?hd (cs := #[.int .i64 a0_0, .slice A0_1 l0_1.length c0_1]) (t := 28) ?hr ?_; (case hd => rfl); (case hg => rfl); (case hr => first | (go_simp; done) | (go_simp; rfl)); intro gb180 hg w7 hbox hb; have n0_ := zA1.mk (zAm (by repeat (first | (with_reducible first | exact HB.out | apply zA2 | apply zA0 | apply zA3) | exact HB.out)) hb); have n1_ := zA1.mk (hbox); have n2_ := zA1.mk ((by rw [hg]; exact (zAc (by repeat (first | (with_reducible first | exact HB.out | apply zA2 | apply zA0 | apply zA3) | exact HB.out))) : w.heap.size ≤ gb180)); have n3_ := zA1.mk ((by rw [hg]; exact (zAc (by repeat (first | (with_reducible first | exact HB.out | apply zA2 | apply zA0 | apply zA3) | exact HB.out))) : w.heap.size ≤ gb180)); clear HB; have HB := n0_; have BK180 := n1_; have GW180 := n2_; have GE180 := n3_; clear n0_ n1_ n2_ n3_; clear hb hbox hg; have hcz8_0 : w7.cell? ⟨gb180, 0, none⟩ = some (.int .i64 a0_0) := (zA9 BK180.out 0).trans rfl; have hcz8_1 : w7.cell? ⟨gb180, 1, none⟩ = some (.slice A0_1 l0_1.length c0_1) := (zA9 BK180.out 1).trans rfl; have hfz8_0 := zAh BK180.out 0; have hfz8_1 := zAh BK180.out 1) | ((with_reducible refine zB1 (f := 34) rfl ?_); refine zC2 (some 15) rfl rfl Tryd.func34 (by kernel_rfl) rfl #[.agg #[.int .i64 a0_0, .slice A0_1 l0_1.length c0_1], .slice A1 l1.length c1] rfl (by (try simp only [List.map_toArray, List.map_cons, List.map_nil]); first | done | rfl | (simp only [List.length_drop, List.length_take]; rfl)) ?_; (with_reducible refine (zBx.calls k a0_0 _ _ l0_1 _ _ l1 t181 t184 t185 _ ?side1 ?side2 ?side3 ?side4 A3.out).mono ?_); (case side1 => repeat (first | exact (Kd.zAy HR0_1.out HB.out) | (with_reducible refine Kd.zA8 ?_ _) | (with_reducible refine Kd.zAd ?_ _) | (with_reducible refine Kd.zAp ?_))); (case side2 => exact HC0_1.out); (case side3 => repeat (first | exact (Kd.zAy HR1.out HB.out) | (with_reducible refine Kd.zA8 ?_ _) | (with_reducible refine Kd.zAd ?_ _) | (with_reducible refine Kd.zAp ?_))); (case side4 => exact HC1.out); rintro e w9 ⟨v182, rfl, ho0, hb⟩; refine ⟨_, rfl, ?_⟩; have n0_ := zA1.mk (Kd.R_lower ho0 (zAc (by repeat (first | (with_reducible first | exact HB.out | apply zA2 | apply zA0 | apply zA3 | refine zA7 ?_ GE180.out) | exact HB.out)))); have n1_ := zA1.mk (zBc (g := gb180) (o := .cells #[.int .i64 a0_0, .slice A0_1 l0_1.length c0_1] 28 (0, 0)) (by (with_reducible repeat (first | refine zAb ?_ _ | refine zAf ?_ | refine zAa ?_ _)); exact BK180.out) hb); have n2_ := zA1.mk (zAm (by repeat (first | (with_reducible first | exact HB.out | apply zA2 | apply zA0 | apply zA3 | refine zA7 ?_ GE180.out) | exact HB.out)) hb); clear BK180; clear HB; have HO183 := n0_; have BK180 := n1_; have HB := n2_; clear n0_ n1_ n2_; (try clear hb); (try clear hb2); (try clear hk); (try clear hi); (try clear ho0); obtain ⟨Ao10, co10, eo10⟩ := Kd.zCe HO183.out; subst eo10) | ((with_reducible refine zB1 (f := 35) rfl ?_); refine zC2 (some 24) rfl rfl Tryd.func35 (by kernel_rfl) rfl #[.slice Ao10 t181.length co10, .int .u64 t184] rfl (by (try simp only [List.map_toArray, List.map_cons, List.map_nil]); first | done | rfl | (simp only [List.length_drop, List.length_take]; rfl)) ?_; (with_reducible refine (zAz.calls k _ _ t181 t184 true _ ?side1 ?side2 ?side3 A5.out).mono ?_); (case side1 => repeat (first | exact (Kd.zBd HO183.out).2.2 | (with_reducible refine Kd.zA8 ?_ _) | (with_reducible refine Kd.zAd ?_ _) | (with_reducible refine Kd.zAp ?_))); (case side2 => exact (Kd.zBd HO183.out).2.1); (case side3 => repeat (first | exact (Kd.zAy HG.out HB.out) | (with_reducible refine Kd.zA8 ?_ _) | (with_reducible refine Kd.zAd ?_ _) | (with_reducible refine Kd.zAp ?_))); rintro e w11 ⟨rfl, hb⟩; refine ⟨_, rfl, ?_⟩; have n0_ := zA1.mk (Kd.zCa (by (with_reducible repeat (first | apply Kd.zAk | apply Kd.zAj | apply Kd.zAt)); exact HO183.out) hb); have n1_ := zA1.mk (zBc (g := gb180) (o := .cells #[.int .i64 a0_0, .slice A0_1 l0_1.length c0_1] 28 (0, 0)) (by (with_reducible repeat (first | refine zAb ?_ _ | refine zAf ?_ | refine zAa ?_ _)); exact BK180.out) hb); have n2_ := zA1.mk (zAm (by repeat (first | (with_reducible first | exact HB.out | apply zA2 | apply zA0 | apply zA3 | refine zA7 ?_ GE180.out) | exact HB.out)) hb); clear HO183; clear BK180; clear HB; have HO183 := n0_; have BK180 := n1_; have HB := n2_; clear n0_ n1_ n2_; (try clear hb); (try clear hb2); (try clear hk); (try clear hi)))
   go_loopg [9, 28] k (fun kq v9 v28 w' => ∃ (x9_1 : List Int) (x28_1 : Int), v28 = .int .i64 x28_1 ∧ zA1 (zBi.l0 kq l1 t181 t184 x9_1 l1 (l1.length : Int) x28_1 = some (r1, r2)) ∧ zA1 (kq ≤ k) ∧ zA1 (Kd.R (Kd.int .u64) 71 w' w.heap.size (fun _ => True) (.slice Ao10 t181.length co10) t181) ∧ zA1 (Kd.R (Kd.int .i64) 3 w' w.heap.size (fun _ => True) v9 x9_1) ∧ zA1 (w'.heap[gb180]? = some (.cells #[.int .i64 a0_0, (.slice A0_1 l0_1.length c0_1)] 28 (0, 0))) ∧ zA1 (Below w.heap.size w w'))
   case atStart => exact ⟨(([] : List Int)), (0), (by first | rfl | (simp; done) | (simp [*]; done)), H', ⟨Nat.le_refl _⟩, ⟨by (with_reducible repeat (first | apply Kd.zAk | apply Kd.zAj | apply Kd.zAt)); exact HO183.out⟩, ⟨by first | exact Kd.R_nil _ _ _ _ _ | exact Kd.N_nil _ _ _ _ _ | exact Kd.V_nil _ _ _ _ _ | exact Kd.Q_nil _ _ _ _ _ | exact Kd.S_nil _ _ _ _ _⟩, ⟨by (with_reducible repeat (first | refine zAb ?_ _ | refine zAf ?_ | refine zAa ?_ _)); exact BK180.out⟩, ⟨by repeat (first | (with_reducible first | exact HB.out | apply zA2 | apply zA0 | apply zA3 | refine zA7 ?_ GE180.out) | exact HB.out)⟩⟩
   case round =>
    clear H'
    try clear c1
    try clear p2
    try clear c3
    try clear c4
    try clear c4b0
    try clear c4b1
    try clear c6
    try clear c11
    try clear hcz8_0
    try clear hcz8_1
    try clear hfz8_0
    try clear hfz8_1
    obtain ⟨x9_1, x28_1, rfl, HA, HK1, HO_6, HO_9, BK180, HB⟩ := hrel
    cases gk with
    | zero => exact absurd HA.out (by simp [zBi.l0])
    | succ k1 =>
     have H := HA.out
     clear HA
     simp only [zBi.l0] at H
     by_cases c12 : x28_1 < (l1.length : Int)
     ·rw [if_pos c12] at H
      have c12b0 : decide (x28_1 < (l1.length : Int)) = true := decide_eq_true c12
      clear c12
      by_cases c13 : 0 ≤ x28_1
      rotate_left
      ·rw [if_neg c13] at H
       exact absurd H (by simp)
      rw [if_pos c13] at H
      have c13b0 : decide (0 ≤ x28_1) = true := decide_eq_true c13
      clear c13
      by_cases c14 : x28_1 < (l1.length : Int)
      rotate_left
      ·rw [if_neg c14] at H
       exact absurd H (by simp)
      rw [if_pos c14] at H
      have c14b0 : decide (x28_1 < (l1.length : Int)) = true := decide_eq_true c14
      clear c14
      by_cases c15 : (l1.length : Int) > 2
      ·rw [if_pos c15] at H
       have c15b0 : decide (2 < (l1.length : Int)) = true := decide_eq_true c15
       have c15b1 : decide (2 < l1.length) = true := decide_eq_true (by omega)
       clear c15
       by_cases c16 : 0 ≤ (rd l1 x28_1)
       rotate_left
       ·rw [if_neg c16] at H
        exact absurd H (by simp)
       rw [if_pos c16] at H
       have c16b0 := eq_true c16
       have c16b1 : decide (0 ≤ (rd l1 x28_1)) = true := decide_eq_true c16
       clear c16
       obtain ⟨ji17, hji17⟩ : ∃ j_ : Int, (shl .u64 1 (rd l1 x28_1)) = j_ := ⟨_, rfl⟩
       replace H : ((zAz.f k1 t181 (Go.bits .andNot .u64 t184 (ji17))).bind fun t188 => (if t188 = true then (zBi.l0 k1 l1 t181 t184 x9_1 l1 (l1.length : Int) (wrap64 (x28_1 + 1))) else (if x9_1.length < 17592186044416 then (zBi.l0 k1 l1 t181 t184 (x9_1 ++ [rd l1 x28_1]) l1 (l1.length : Int) (wrap64 (x28_1 + 1))) else (none)))) = some (r1, r2) := by first | (rw [hji17] at H; exact H) | (simp only [hji17] at H ⊢; exact H)
       have hji17_ : (IntKind.u64.wrap (1 * 2 ^ min (rd l1 x28_1).toNat 64)) = ji17 := hji17
       have hji17z : (rd l1 x28_1) ≤ 64 → (IntKind.u64.wrap (1 * 2 ^ (rd l1 x28_1).toNat)) = ji17 := shl_small hji17
       have hji17u : (IntKind.u64.wrap (2 ^ min (rd l1 x28_1).toNat 64)) = ji17 := by have h_ := hji17_; rw [Int.one_mul] at h_; exact h_
       have hji17v : (rd l1 x28_1) ≤ 64 → (IntKind.u64.wrap (2 ^ (rd l1 x28_1).toNat)) = ji17 := fun hle_ => by have h_ := hji17z hle_; rw [Int.one_mul] at h_; exact h_
       replace H := Option.bind_eq_some_iff.mp H
       obtain ⟨t188, A180, H⟩ := H
       replace H : (if t188 = true then (zBi.l0 k1 l1 t181 t184 x9_1 l1 (l1.length : Int) (wrap64 (x28_1 + 1))) else (if x9_1.length < 17592186044416 then (zBi.l0 k1 l1 t181 t184 (x9_1 ++ [rd l1 x28_1]) l1 (l1.length : Int) (wrap64 (x28_1 + 1))) else (none))) = some (r1, r2) := H
       have A18 := zA1.mk A180
       clear A180
       by_cases c19 : t188 = true
       ·subst c19
        have H1 : (zBi.l0 k1 l1 t181 t184 x9_1 l1 (l1.length : Int) (wrap64 (x28_1 + 1))) = some (r1, r2) := by rw [if_pos rfl] at H; exact H
        clear H
        have H := H1
        clear H1
        have H' := zA1.mk H
        clear H
        have p187 : 0 ≤ (x28_1 : Int) := of_decide_eq_true (by first | (with_reducible assumption) | assumption)
        have q187 : x28_1 < (l1.length : Int) := of_decide_eq_true (by first | (with_reducible assumption) | assumption)
        obtain ⟨ad187, e187, hx187_0⟩ := Kd.at_int HR1.out x28_1 p187 q187
        cases e187
        replace hx187_0 := (HB.out.cell (World.block_lt_of_cell? w _ hx187_0)).trans hx187_0
        replace p187 := eq_true p187
        replace q187 := eq_true q187
        go_wp2_with (first | (go_at_call 35; (with_reducible refine (zAz.calls k1 _ _ t181 (Go.bits .andNot .u64 t184 (ji17)) true _ ?side1 ?side2 ?side3 A18.out).mono ?_); (case side1 => repeat (first | exact (Kd.zBd HO_6.out).2.2 | (with_reducible refine Kd.zA8 ?_ _) | (with_reducible refine Kd.zAd ?_ _) | (with_reducible refine Kd.zAp ?_))); (case side2 => exact (Kd.zBd HO_6.out).2.1); (case side3 => repeat (first | exact (Kd.zAy HG.out HB.out) | (with_reducible refine Kd.zA8 ?_ _) | (with_reducible refine Kd.zAd ?_ _) | (with_reducible refine Kd.zAp ?_))); rintro e w20 ⟨rfl, hb⟩; have n0_ := zA1.mk (Kd.zCa (by (with_reducible repeat (first | apply Kd.zAk | apply Kd.zAj | apply Kd.zAt)); exact HO_6.out) hb); have n1_ := zA1.mk (Kd.zCa (by (with_reducible repeat (first | apply Kd.zAk | apply Kd.zAj | apply Kd.zAt)); exact HO_9.out) hb); have n2_ := zA1.mk (zBc (g := gb180) (o := .cells #[.int .i64 a0_0, .slice A0_1 l0_1.length c0_1] 28 (0, 0)) (by (with_reducible repeat (first | refine zAb ?_ _ | refine zAf ?_ | refine zAa ?_ _)); exact BK180.out) hb); have n3_ := zA1.mk (zAm (by repeat (first | (with_reducible first | exact HB.out | apply zA2 | apply zA0 | apply zA3 | refine zA7 ?_ GE180.out) | exact HB.out)) hb); clear HO_6; clear HO_9; clear BK180; clear HB; have HO_6 := n0_; have HO_9 := n1_; have BK180 := n2_; have HB := n3_; clear n0_ n1_ n2_ n3_; (try clear hb); (try clear hb2); (try clear hk); (try clear hi)))
        go_roundg k1
        case measure => have := HK1.out; omega
        case rel => exact ⟨(x9_1), (wrap64 (x28_1 + 1)), (by first | rfl | (simp; done) | (simp [*]; done)), H', ⟨by have := HK1.out; omega⟩, ⟨by (with_reducible repeat (first | apply Kd.zAk | apply Kd.zAj | apply Kd.zAt)); exact HO_6.out⟩, ⟨by (with_reducible repeat (first | apply Kd.zAk | apply Kd.zAj | apply Kd.zAt)); exact HO_9.out⟩, ⟨by (with_reducible repeat (first | refine zAb ?_ _ | refine zAf ?_ | refine zAa ?_ _)); exact BK180.out⟩, ⟨by repeat (first | (with_reducible first | exact HB.out | apply zA2 | apply zA0 | apply zA3 | refine zA7 ?_ GE180.out) | exact HB.out)⟩⟩
       ·replace c19 := Bool.eq_false_iff.mpr c19
        subst c19
        have H1 : (if x9_1.length < 17592186044416 then (zBi.l0 k1 l1 t181 t184 (x9_1 ++ [rd l1 x28_1]) l1 (l1.length : Int) (wrap64 (x28_1 + 1))) else (none)) = some (r1, r2) := by rw [if_neg (show ¬ (false = true) by decide)] at H; exact H
        clear H
        have H := H1
        clear H1
        by_cases c21 : x9_1.length < 17592186044416
        rotate_left
        ·rw [if_neg c21] at H
         exact absurd H (by simp)
        rw [if_pos c21] at H
        have LMc21 := zA1.mk c21
        clear c21
        obtain ⟨y189, hy189⟩ : ∃ y_ : List Int, y_ = (x9_1 ++ [rd l1 x28_1]) := ⟨_, rfl⟩
        replace H : (zBi.l0 k1 l1 t181 t184 y189 l1 (l1.length : Int) (wrap64 (x28_1 + 1))) = some (r1, r2) := by first | (rw [hy189]; with_reducible exact H) | (have H2_ := (Option.bind_some _ _).symm.trans H; rw [hy189]; with_reducible exact H2_) | (have H2_ := (Option.bind_some _ _).symm.trans H; with_reducible exact H2_) | with_reducible exact H | (rw [hy189]; exact H) | exact H
        have Ny189 := zA1.mk hy189
        clear hy189
        have H' := zA1.mk H
        clear H
        have p187 : 0 ≤ (x28_1 : Int) := of_decide_eq_true (by first | (with_reducible assumption) | assumption)
        have q187 : x28_1 < (l1.length : Int) := of_decide_eq_true (by first | (with_reducible assumption) | assumption)
        obtain ⟨ad187, e187, hx187_0⟩ := Kd.at_int HR1.out x28_1 p187 q187
        cases e187
        replace hx187_0 := (HB.out.cell (World.block_lt_of_cell? w _ hx187_0)).trans hx187_0
        replace p187 := eq_true p187
        replace q187 := eq_true q187
        go_wp2_with (first | (go_at_call 35; (with_reducible refine (zAz.calls k1 _ _ t181 (Go.bits .andNot .u64 t184 (ji17)) false _ ?side1 ?side2 ?side3 A18.out).mono ?_); (case side1 => repeat (first | exact (Kd.zBd HO_6.out).2.2 | (with_reducible refine Kd.zA8 ?_ _) | (with_reducible refine Kd.zAd ?_ _) | (with_reducible refine Kd.zAp ?_))); (case side2 => exact (Kd.zBd HO_6.out).2.1); (case side3 => repeat (first | exact (Kd.zAy HG.out HB.out) | (with_reducible refine Kd.zA8 ?_ _) | (with_reducible refine Kd.zAd ?_ _) | (with_reducible refine Kd.zAp ?_))); rintro e w22 ⟨rfl, hb⟩; have n0_ := zA1.mk (Kd.zCa (by (with_reducible repeat (first | apply Kd.zAk | apply Kd.zAj | apply Kd.zAt)); exact HO_6.out) hb); have n1_ := zA1.mk (Kd.zCa (by (with_reducible repeat (first | apply Kd.zAk | apply Kd.zAj | apply Kd.zAt)); exact HO_9.out) hb); have n2_ := zA1.mk (zBc (g := gb180) (o := .cells #[.int .i64 a0_0, .slice A0_1 l0_1.length c0_1] 28 (0, 0)) (by (with_reducible repeat (first | refine zAb ?_ _ | refine zAf ?_ | refine zAa ?_ _)); exact BK180.out) hb); have n3_ := zA1.mk (zAm (by repeat (first | (with_reducible first | exact HB.out | apply zA2 | apply zA0 | apply zA3 | refine zA7 ?_ GE180.out) | exact HB.out)) hb); clear HO_6; clear HO_9; clear BK180; clear HB; have HO_6 := n0_; have HO_9 := n1_; have BK180 := n2_; have HB := n3_; clear n0_ n1_ n2_ n3_; (try clear hb); (try clear hb2); (try clear hk); (try clear hi)) | ((with_reducible refine zC1 (b := .append) (xs := #[.tmp 44, .tmp 46]) rfl ?_); at_builtin; refine Kd.R_append (Kd.int .i64) (w0 := w) w.heap.size rfl (.tmp 44) (.tmp 46) 23 3 (.int .i64 0) 8 rfl Tryd.underlying23 info3 rfl (by decide) (by omega) u9 x9_1 (rd l1 x28_1) [.int .i64 (rd l1 x28_1)] (fun _ => True) (fun _ => False) rfl rfl ?aP (fun _ hk => hk.elim) ?aF ?aO ?aB ?aS ?aL ?_; (case aP => exact rfl); (case aB => exact (by repeat (first | (with_reducible first | exact HB.out | apply zA2 | apply zA0 | apply zA3 | refine zA7 ?_ GE180.out) | exact HB.out))); (case aF => exact (fun _ _ => trivial)); (case aO => exact (by (with_reducible repeat (first | apply Kd.zAk | apply Kd.zAj | apply Kd.zAt)); exact HO_9.out)); (case aS => exact (zAc (by repeat (first | (with_reducible first | exact HB.out | apply zA2 | apply zA0 | apply zA3 | refine zA7 ?_ GE180.out) | exact HB.out)))); (case aL => have := LMc21.out; omega); intro v190 w23 ho hb hg hat; rw [← Ny189.out] at ho; have n0_ := zA1.mk (Kd.R_over' (by (with_reducible repeat (first | apply Kd.zAk | apply Kd.zAj | apply Kd.zAt)); exact HO_6.out) (Kd.R_typed (by (with_reducible repeat (first | apply Kd.zAk | apply Kd.zAj | apply Kd.zAt)); exact HO_9.out)) (by decide) hg); have n1_ := zA1.mk (blk_grown (g := gb180) (o := .cells #[.int .i64 a0_0, .slice A0_1 l0_1.length c0_1] 28 (0, 0)) (by (with_reducible repeat (first | refine zAb ?_ _ | refine zAf ?_ | refine zAa ?_ _)); exact BK180.out) hg (Kd.R_ne HO_9.out BK180.out (by decide))); have n2_ := zA1.mk (hb); have n3_ := zA1.mk (ho); clear HO_6; clear BK180; clear HB; clear HO_9; have HO_6 := n0_; have BK180 := n1_; have HB := n2_; have HO191 := n3_; clear n0_ n1_ n2_ n3_; clear ho hb hg hat))
        go_roundg k1
        case measure => have := HK1.out; omega
        case rel => exact ⟨(y189), (wrap64 (x28_1 + 1)), (by first | rfl | (simp; done) | (simp [*]; done)), H', ⟨by have := HK1.out; omega⟩, ⟨by (with_reducible repeat (first | apply Kd.zAk | apply Kd.zAj | apply Kd.zAt)); exact HO_6.out⟩, ⟨by (with_reducible repeat (first | apply Kd.zAk | apply Kd.zAj | apply Kd.zAt)); exact HO191.out⟩, ⟨by (with_reducible repeat (first | refine zAb ?_ _ | refine zAf ?_ | refine zAa ?_ _)); exact BK180.out⟩, ⟨by repeat (first | (with_reducible first | exact HB.out | apply zA2 | apply zA0 | apply zA3 | refine zA7 ?_ GE180.out) | exact HB.out)⟩⟩
      ·rw [if_neg c15] at H
       have c15b0 : decide (2 < (l1.length : Int)) = false := decide_eq_false c15
       have c15b1 : decide (2 < l1.length) = false := decide_eq_false (by omega)
       clear c15
       have H' := zA1.mk H
       clear H
       have p187 : 0 ≤ (x28_1 : Int) := of_decide_eq_true (by first | (with_reducible assumption) | assumption)
       have q187 : x28_1 < (l1.length : Int) := of_decide_eq_true (by first | (with_reducible assumption) | assumption)
       obtain ⟨ad187, e187, hx187_0⟩ := Kd.at_int HR1.out x28_1 p187 q187
       cases e187
       replace hx187_0 := (HB.out.cell (World.block_lt_of_cell? w _ hx187_0)).trans hx187_0
       replace p187 := eq_true p187
       replace q187 := eq_true q187
       go_wp2
       go_roundg k1
       case measure => have := HK1.out; omega
       case rel => exact ⟨(x9_1), (wrap64 (x28_1 + 1)), (by first | rfl | (simp; done) | (simp [*]; done)), H', ⟨by have := HK1.out; omega⟩, ⟨by (with_reducible repeat (first | apply Kd.zAk | apply Kd.zAj | apply Kd.zAt)); exact HO_6.out⟩, ⟨by (with_reducible repeat (first | apply Kd.zAk | apply Kd.zAj | apply Kd.zAt)); exact HO_9.out⟩, ⟨by (with_reducible repeat (first | refine zAb ?_ _ | refine zAf ?_ | refine zAa ?_ _)); exact BK180.out⟩, ⟨by repeat (first | (with_reducible first | exact HB.out | apply zA2 | apply zA0 | apply zA3 | refine zA7 ?_ GE180.out) | exact HB.out)⟩⟩
     ·rw [if_neg c12] at H
      have c12b0 : decide (x28_1 < (l1.length : Int)) = false := decide_eq_false c12
      clear c12
      simp only [Option.some.injEq, Prod.mk.injEq] at H
      obtain ⟨rfl, rfl⟩ := H
      go_wp2
      go_ret2
      exact ⟨_, by first | rfl | (simp [zAx, zAw] <;> rfl) | (simp [*, zAx, zAw] <;> rfl), by (with_reducible repeat (first | apply Kd.zAk | apply Kd.zAj | apply Kd.zAt)); exact HO_9.out, by repeat (first | (with_reducible first | exact HB.out | apply zA2 | apply zA0 | apply zA3 | refine zA7 ?_ GE180.out) | exact HB.out)⟩
  ·replace c6 := Bool.eq_false_iff.mpr c6
   subst c6
   have H1 : (some (([] : List Int), 17)) = some (r1, r2) := by rw [if_neg (show ¬ (false = true) by decide)] at H; exact H
   clear H
   have H := H1
   clear H1
   simp only [Option.some.injEq, Prod.mk.injEq] at H
   obtain ⟨rfl, rfl⟩ := H
   go_enter Tryd.func11, Tryd.ntmps11
   go_wp2_with (first | ((with_reducible refine zBl (N := 2) rfl ?_); refine zBp ?hg (N := 2) ?hd (cs := #[.int .i64 a0_0, .slice A0_1 l0_1.length c0_1]) (t := 28) ?hr ?_; (case hd => rfl); (case hg => rfl); (case hr => first | (go_simp; done) | (go_simp; rfl)); intro gb180 hg w24 hbox hb; have n0_ := zA1.mk (zAm (by repeat (first | (with_reducible first | exact HB.out | apply zA2 | apply zA0 | apply zA3) | exact HB.out)) hb); have n1_ := zA1.mk (hbox); have n2_ := zA1.mk ((by rw [hg]; exact (zAc (by repeat (first | (with_reducible first | exact HB.out | apply zA2 | apply zA0 | apply zA3) | exact HB.out))) : w.heap.size ≤ gb180)); have n3_ := zA1.mk ((by rw [hg]; exact (zAc (by repeat (first | (with_reducible first | exact HB.out | apply zA2 | apply zA0 | apply zA3) | exact HB.out))) : w.heap.size ≤ gb180)); clear HB; have HB := n0_; have BK180 := n1_; have GW180 := n2_; have GE180 := n3_; clear n0_ n1_ n2_ n3_; clear hb hbox hg; have hcz25_0 : w24.cell? ⟨gb180, 0, none⟩ = some (.int .i64 a0_0) := (zA9 BK180.out 0).trans rfl; have hcz25_1 : w24.cell? ⟨gb180, 1, none⟩ = some (.slice A0_1 l0_1.length c0_1) := (zA9 BK180.out 1).trans rfl; have hfz25_0 := zAh BK180.out 0; have hfz25_1 := zAh BK180.out 1) | ((with_reducible refine zB1 (f := 34) rfl ?_); refine zC2 (some 15) rfl rfl Tryd.func34 (by kernel_rfl) rfl #[.agg #[.int .i64 a0_0, .slice A0_1 l0_1.length c0_1], .slice A1 l1.length c1] rfl (by (try simp only [List.map_toArray, List.map_cons, List.map_nil]); first | done | rfl | (simp only [List.length_drop, List.length_take]; rfl)) ?_; (with_reducible refine (zBx.calls k a0_0 _ _ l0_1 _ _ l1 t181 t184 t185 _ ?side1 ?side2 ?side3 ?side4 A3.out).mono ?_); (case side1 => repeat (first | exact (Kd.zAy HR0_1.out HB.out) | (with_reducible refine Kd.zA8 ?_ _) | (with_reducible refine Kd.zAd ?_ _) | (with_reducible refine Kd.zAp ?_))); (case side2 => exact HC0_1.out); (case side3 => repeat (first | exact (Kd.zAy HR1.out HB.out) | (with_reducible refine Kd.zA8 ?_ _) | (with_reducible refine Kd.zAd ?_ _) | (with_reducible refine Kd.zAp ?_))); (case side4 => exact HC1.out); rintro e w26 ⟨v182, rfl, ho0, hb⟩; refine ⟨_, rfl, ?_⟩; have n0_ := zA1.mk (Kd.R_lower ho0 (zAc (by repeat (first | (with_reducible first | exact HB.out | apply zA2 | apply zA0 | apply zA3 | refine zA7 ?_ GE180.out) | exact HB.out)))); have n1_ := zA1.mk (zBc (g := gb180) (o := .cells #[.int .i64 a0_0, .slice A0_1 l0_1.length c0_1] 28 (0, 0)) (by (with_reducible repeat (first | refine zAb ?_ _ | refine zAf ?_ | refine zAa ?_ _)); exact BK180.out) hb); have n2_ := zA1.mk (zAm (by repeat (first | (with_reducible first | exact HB.out | apply zA2 | apply zA0 | apply zA3 | refine zA7 ?_ GE180.out) | exact HB.out)) hb); clear BK180; clear HB; have HO183 := n0_; have BK180 := n1_; have HB := n2_; clear n0_ n1_ n2_; (try clear hb); (try clear hb2); (try clear hk); (try clear hi); (try clear ho0); obtain ⟨Ao27, co27, eo27⟩ := Kd.zCe HO183.out; subst eo27) | ((with_reducible refine zB1 (f := 35) rfl ?_); refine zC2 (some 24) rfl rfl Tryd.func35 (by kernel_rfl) rfl #[.slice Ao27 t181.length co27, .int .u64 t184] rfl (by (try simp only [List.map_toArray, List.map_cons, List.map_nil]); first | done | rfl | (simp only [List.length_drop, List.length_take]; rfl)) ?_; (with_reducible refine (zAz.calls k _ _ t181 t184 false _ ?side1 ?side2 ?side3 A5.out).mono ?_); (case side1 => repeat (first | exact (Kd.zBd HO183.out).2.2 | (with_reducible refine Kd.zA8 ?_ _) | (with_reducible refine Kd.zAd ?_ _) | (with_reducible refine Kd.zAp ?_))); (case side2 => exact (Kd.zBd HO183.out).2.1); (case side3 => repeat (first | exact (Kd.zAy HG.out HB.out) | (with_reducible refine Kd.zA8 ?_ _) | (with_reducible refine Kd.zAd ?_ _) | (with_reducible refine Kd.zAp ?_))); rintro e w28 ⟨rfl, hb⟩; refine ⟨_, rfl, ?_⟩; have n0_ := zA1.mk (Kd.zCa (by (with_reducible repeat (first | apply Kd.zAk | apply Kd.zAj | apply Kd.zAt)); exact HO183.out) hb); have n1_ := zA1.mk (zBc (g := gb180) (o := .cells #[.int .i64 a0_0, .slice A0_1 l0_1.length c0_1] 28 (0, 0)) (by (with_reducible repeat (first | refine zAb ?_ _ | refine zAf ?_ | refine zAa ?_ _)); exact BK180.out) hb); have n2_ := zA1.mk (zAm (by repeat (first | (with_reducible first | exact HB.out | apply zA2 | apply zA0 | apply zA3 | refine zA7 ?_ GE180.out) | exact HB.out)) hb); clear HO183; clear BK180; clear HB; have HO183 := n0_; have BK180 := n1_; have HB := n2_; clear n0_ n1_ n2_; (try clear hb); (try clear hb2); (try clear hk); (try clear hi)))
   go_ret2
   exact ⟨_, by first | rfl | (simp [zAx, zAw] <;> rfl) | (simp [*, zAx, zAw] <;> rfl), by first | exact Kd.R_nil _ _ _ _ _ | exact Kd.N_nil _ _ _ _ _ | exact Kd.V_nil _ _ _ _ _ | exact Kd.Q_nil _ _ _ _ _ | exact Kd.S_nil _ _ _ _ _, by repeat (first | (with_reducible first | exact HB.out | apply zA2 | apply zA0 | apply zA3 | refine zA7 ?_ GE180.out) | exact HB.out)⟩
 ·rw [if_neg c4] at H
  have c4b0 : (t185 == 0) = false := beq_eq_false_iff_ne.mpr c4
  have c4b1 : (t185 != 0) = true := bne_iff_ne.mpr c4
  simp only [Option.some.injEq, Prod.mk.injEq] at H
  obtain ⟨rfl, rfl⟩ := H
  go_enter Tryd.func11, Tryd.ntmps11
  go_wp2_with (first | ((with_reducible refine zBl (N := 2) rfl ?_); refine zBp ?hg (N := 2) ?hd (cs := #[.int .i64 a0_0, .slice A0_1 l0_1.length c0_1]) (t := 28) ?hr ?_; (case hd => rfl); (case hg => rfl); (case hr => first | (go_simp; done) | (go_simp; rfl)); intro gb180 hg w29 hbox hb; have n0_ := zA1.mk (zAm (by repeat (first | (with_reducible first | exact HB.out | apply zA2 | apply zA0 | apply zA3) | exact HB.out)) hb); have n1_ := zA1.mk (hbox); have n2_ := zA1.mk ((by rw [hg]; exact (zAc (by repeat (first | (with_reducible first | exact HB.out | apply zA2 | apply zA0 | apply zA3) | exact HB.out))) : w.heap.size ≤ gb180)); have n3_ := zA1.mk ((by rw [hg]; exact (zAc (by repeat (first | (with_reducible first | exact HB.out | apply zA2 | apply zA0 | apply zA3) | exact HB.out))) : w.heap.size ≤ gb180)); clear HB; have HB := n0_; have BK180 := n1_; have GW180 := n2_; have GE180 := n3_; clear n0_ n1_ n2_ n3_; clear hb hbox hg; have hcz30_0 : w29.cell? ⟨gb180, 0, none⟩ = some (.int .i64 a0_0) := (zA9 BK180.out 0).trans rfl; have hcz30_1 : w29.cell? ⟨gb180, 1, none⟩ = some (.slice A0_1 l0_1.length c0_1) := (zA9 BK180.out 1).trans rfl; have hfz30_0 := zAh BK180.out 0; have hfz30_1 := zAh BK180.out 1) | ((with_reducible refine zB1 (f := 34) rfl ?_); refine zC2 (some 15) rfl rfl Tryd.func34 (by kernel_rfl) rfl #[.agg #[.int .i64 a0_0, .slice A0_1 l0_1.length c0_1], .slice A1 l1.length c1] rfl (by (try simp only [List.map_toArray, List.map_cons, List.map_nil]); first | done | rfl | (simp only [List.length_drop, List.length_take]; rfl)) ?_; (with_reducible refine (zBx.calls k a0_0 _ _ l0_1 _ _ l1 t181 t184 t185 _ ?side1 ?side2 ?side3 ?side4 A3.out).mono ?_); (case side1 => repeat (first | exact (Kd.zAy HR0_1.out HB.out) | (with_reducible refine Kd.zA8 ?_ _) | (with_reducible refine Kd.zAd ?_ _) | (with_reducible refine Kd.zAp ?_))); (case side2 => exact HC0_1.out); (case side3 => repeat (first | exact (Kd.zAy HR1.out HB.out) | (with_reducible refine Kd.zA8 ?_ _) | (with_reducible refine Kd.zAd ?_ _) | (with_reducible refine Kd.zAp ?_))); (case side4 => exact HC1.out); rintro e w31 ⟨v182, rfl, ho0, hb⟩; refine ⟨_, rfl, ?_⟩; have n0_ := zA1.mk (Kd.R_lower ho0 (zAc (by repeat (first | (with_reducible first | exact HB.out | apply zA2 | apply zA0 | apply zA3 | refine zA7 ?_ GE180.out) | exact HB.out)))); have n1_ := zA1.mk (zBc (g := gb180) (o := .cells #[.int .i64 a0_0, .slice A0_1 l0_1.length c0_1] 28 (0, 0)) (by (with_reducible repeat (first | refine zAb ?_ _ | refine zAf ?_ | refine zAa ?_ _)); exact BK180.out) hb); have n2_ := zA1.mk (zAm (by repeat (first | (with_reducible first | exact HB.out | apply zA2 | apply zA0 | apply zA3 | refine zA7 ?_ GE180.out) | exact HB.out)) hb); clear BK180; clear HB; have HO183 := n0_; have BK180 := n1_; have HB := n2_; clear n0_ n1_ n2_; (try clear hb); (try clear hb2); (try clear hk); (try clear hi); (try clear ho0)))
  go_ret2
  exact ⟨_, by first | rfl | (simp [zAx, zAw] <;> rfl) | (simp [*, zAx, zAw] <;> rfl), by first | exact Kd.R_nil _ _ _ _ _ | exact Kd.N_nil _ _ _ _ _ | exact Kd.V_nil _ _ _ _ _ | exact Kd.Q_nil _ _ _ _ _ | exact Kd.S_nil _ _ _ _ _, by repeat (first | (with_reducible first | exact HB.out | apply zA2 | apply zA0 | apply zA3 | refine zA7 ?_ GE180.out) | exact HB.out)⟩
end
end Go.Proofs.YtbghfbhlbfcloaaDoor.PL
namespace Go.Proofs.YtbghfbhlbfcloaaDoor.PL
section
open Go.RowKit Go.Proofs.YtbghfbhlbfcloaaDoorW.PrintWords Go.Proofs.YtbghfbhlbfcloaaDoorW.PrintLast Go.Proofs.YtbghfbhlbfcloaaDoorW.PrintMore
attribute [local go_sem] zBw zBu zC7 zC6 zBo zBn zBv zBt   -- for this text's walks alone
set_option linter.unusedVariables false
set_option linter.unusedSimpArgs false
def zBa.l0 : Nat → List Int → List Int → List Int → Int → Int → Option (Int)
 | 0, _, _, _, _, _ => none
 | k + 1, x0, x1, x9, x10, x11 => if x11 < x10 then (if 0 ≤ x11 then (if x11 < (x9.length : Int) then (if x11 ≥ (x1.length : Int) then (some 1) else (if x11 < (x1.length : Int) then ((zCb.f (rd x9 x11) (rd x1 x11)).bind fun t175 => (if t175 = 0 then (zBa.l0 k x0 x1 x9 x10 (wrap64 (x11 + 1))) else (some t175))) else (none))) else (none)) else (none)) else (if (x0.length : Int) < (x1.length : Int) then (some (-1)) else (some 0))
def zBa.f (k : Nat) (l0 : List Int) (l1 : List Int) : Option (Int) := zBa.l0 k l0 l1 l0 (l0.length : Int) 0
theorem zBa.zBq : ∀ k, (∀ y0 y1 y2 y3 y4, LeO (zBa.l0 k y0 y1 y2 y3 y4) (zBa.l0 (k + 1) y0 y1 y2 y3 y4))
 | 0 => fun _ _ _ _ _ r h => by simp [zBa.l0] at h
 | k + 1 => by
  have ih0 := zBa.zBq k
  ·intro y0 y1 y2 y3 y4
   unfold zBa.l0
   repeat' first
   | (with_reducible exact ih0 _ _ _ _ _)
   | (with_reducible exact LeO.refl _)
   | (with_reducible exact LeO.none _)
   | (with_reducible refine LeO.ite ?_ ?_)
   | (with_reducible refine LeO.bind ?_ (fun _ => ?_))
theorem zBa.mono : ∀ a0 a1 k, LeO (zBa.f k a0 a1) (zBa.f (k + 1) a0 a1) := by
 intro a0 a1 k
 have ih0 := zBa.zBq k
 unfold zBa.f
 repeat' first
   | (with_reducible exact ih0 _ _ _ _ _)
   | (with_reducible exact LeO.refl _)
   | (with_reducible exact LeO.none _)
   | (with_reducible refine LeO.ite ?_ ?_)
   | (with_reducible refine LeO.bind ?_ (fun _ => ?_))
set_option maxHeartbeats 8000000 in
set_option maxRecDepth 100000 in
theorem zBa.calls (k : Nat) (A0 : Option Addr) (c0 : Nat) (l0 : List Int) (A1 : Option Addr) (c1 : Nat) (l1 : List Int) (r : Int) (w : World) (hr0 : Kd.C (Kd.int .i64) w A0 l0.length l0) (hc0 : l0.length ≤ c0) (hr1 : Kd.C (Kd.int .i64) w A1 l1.length l1) (hc1 : l1.length ≤ c1) (h : zBa.f k l0 l1 = some r) :
  Calls Tryd.prog 70 #[.slice A0 l0.length c0, .slice A1 l1.length c1] w fun e w' => e = .returned (.int .i64 r) ∧ zAr w w' := by
 have HR0 := zA1.mk hr0
 have HC0 := zA1.mk hc0
 clear hr0 hc0
 have HR1 := zA1.mk hr1
 have HC1 := zA1.mk hc1
 clear hr1 hc1
 have H : (zBa.l0 k l0 l1 l0 (l0.length : Int) 0) = some r := h
 clear h
 have H' := zA1.mk H
 clear H
 go_enter Tryd.func70, Tryd.ntmps70
 go_wp2
 go_loopg [11] k (fun kq v11 w' => ∃ (x11_1 : Int), v11 = .int .i64 x11_1 ∧ zA1 (zBa.l0 kq l0 l1 l0 (l0.length : Int) x11_1 = some r) ∧ zA1 (kq ≤ k) ∧ zAr w w')
 case atStart => exact ⟨(0), (by first | rfl | (simp; done) | (simp [*]; done)), H', ⟨Nat.le_refl _⟩, by repeat (first | exact zAr.refl _ | apply zAr.step)⟩
 case round =>
  clear H'
  try clear c1
  try clear p2
  obtain ⟨x11_1, rfl, HA, HK1, ⟨m1, rfl⟩⟩ := hrel
  cases gk with
  | zero => exact absurd HA.out (by simp [zBa.l0])
  | succ k1 =>
   have H := HA.out
   clear HA
   simp only [zBa.l0] at H
   by_cases c3 : x11_1 < (l0.length : Int)
   ·rw [if_pos c3] at H
    have c3b0 : decide (x11_1 < (l0.length : Int)) = true := decide_eq_true c3
    clear c3
    by_cases c4 : 0 ≤ x11_1
    rotate_left
    ·rw [if_neg c4] at H
     exact absurd H (by simp)
    rw [if_pos c4] at H
    have c4b0 : decide (0 ≤ x11_1) = true := decide_eq_true c4
    clear c4
    by_cases c5 : x11_1 < (l0.length : Int)
    rotate_left
    ·rw [if_neg c5] at H
     exact absurd H (by simp)
    rw [if_pos c5] at H
    have c5b0 : decide (x11_1 < (l0.length : Int)) = true := decide_eq_true c5
    clear c5
    by_cases c6 : x11_1 ≥ (l1.length : Int)
    ·rw [if_pos c6] at H
     have c6b0 : decide ((l1.length : Int) ≤ x11_1) = true := decide_eq_true c6
     clear c6
     obtain rfl := Option.some.inj H
     have p173 : 0 ≤ (x11_1 : Int) := of_decide_eq_true (by first | (with_reducible assumption) | assumption)
     have q173 : x11_1 < (l0.length : Int) := of_decide_eq_true (by first | (with_reducible assumption) | assumption)
     obtain ⟨ad173, e173, hx173_0⟩ := Kd.at_int HR0.out x11_1 p173 q173
     cases e173
     replace p173 := eq_true p173
     replace q173 := eq_true q173
     go_wp2
     go_ret
     exact ⟨by first | rfl | (simp; done) | (simp [*]; done), by repeat (first | exact zAr.refl _ | apply zAr.step)⟩
    ·rw [if_neg c6] at H
     have c6b0 : decide ((l1.length : Int) ≤ x11_1) = false := decide_eq_false c6
     clear c6
     by_cases c7 : x11_1 < (l1.length : Int)
     rotate_left
     ·rw [if_neg c7] at H
      exact absurd H (by simp)
     rw [if_pos c7] at H
     have c7b0 : decide (x11_1 < (l1.length : Int)) = true := decide_eq_true c7
     clear c7
     replace H := Option.bind_eq_some_iff.mp H
     obtain ⟨t175, A80, H⟩ := H
     replace H : (if t175 = 0 then (zBa.l0 k1 l0 l1 l0 (l0.length : Int) (wrap64 (x11_1 + 1))) else (some t175)) = some r := H
     have A8 := zA1.mk A80
     clear A80
     by_cases c9 : t175 = 0
     ·rw [if_pos c9] at H
      have c9b0 : (t175 == 0) = true := beq_iff_eq.mpr c9
      have c9b1 : (t175 != 0) = false := bne_eq_false_iff_eq.mpr c9
      clear c9
      have H' := zA1.mk H
      clear H
      have p173 : 0 ≤ (x11_1 : Int) := of_decide_eq_true (by first | (with_reducible assumption) | assumption)
      have q173 : x11_1 < (l0.length : Int) := of_decide_eq_true (by first | (with_reducible assumption) | assumption)
      obtain ⟨ad173, e173, hx173_0⟩ := Kd.at_int HR0.out x11_1 p173 q173
      cases e173
      replace p173 := eq_true p173
      replace q173 := eq_true q173
      have p174 : 0 ≤ (x11_1 : Int) := of_decide_eq_true (by first | (with_reducible assumption) | assumption)
      have q174 : x11_1 < (l1.length : Int) := of_decide_eq_true (by first | (with_reducible assumption) | assumption)
      obtain ⟨ad174, e174, hx174_0⟩ := Kd.at_int HR1.out x11_1 p174 q174
      cases e174
      replace p174 := eq_true p174
      replace q174 := eq_true q174
      go_wp2_with (first | ((with_reducible refine zB1 (f := 80) rfl ?_); refine zC2 (some 26) rfl rfl Tryd.func80 (by kernel_rfl) rfl #[.int .i64 (rd l0 x11_1), .int .i64 (rd l1 x11_1)] rfl (by (try simp only [List.map_toArray, List.map_cons, List.map_nil]); first | done | rfl | (simp only [List.length_drop, List.length_take]; rfl)) ?_; (with_reducible refine (zCb.calls (rd l0 x11_1) (rd l1 x11_1) t175 _ A8.out).mono ?_); rintro e w' ⟨rfl, ⟨nd, rfl⟩⟩; refine ⟨_, rfl, ?_⟩))
      go_roundg k1
      case measure => have := HK1.out; omega
      case rel => exact ⟨(wrap64 (x11_1 + 1)), (by first | rfl | (simp; done) | (simp [*]; done)), H', ⟨by have := HK1.out; omega⟩, by repeat (first | exact zAr.refl _ | apply zAr.step)⟩
     ·rw [if_neg c9] at H
      have c9b0 : (t175 == 0) = false := beq_eq_false_iff_ne.mpr c9
      have c9b1 : (t175 != 0) = true := bne_iff_ne.mpr c9
      obtain rfl := Option.some.inj H
      have p173 : 0 ≤ (x11_1 : Int) := of_decide_eq_true (by first | (with_reducible assumption) | assumption)
      have q173 : x11_1 < (l0.length : Int) := of_decide_eq_true (by first | (with_reducible assumption) | assumption)
      obtain ⟨ad173, e173, hx173_0⟩ := Kd.at_int HR0.out x11_1 p173 q173
      cases e173
      replace p173 := eq_true p173
      replace q173 := eq_true q173
      have p174 : 0 ≤ (x11_1 : Int) := of_decide_eq_true (by first | (with_reducible assumption) | assumption)
      have q174 : x11_1 < (l1.length : Int) := of_decide_eq_true (by first | (with_reducible assumption) | assumption)
      obtain ⟨ad174, e174, hx174_0⟩ := Kd.at_int HR1.out x11_1 p174 q174
      cases e174
      replace p174 := eq_true p174
      replace q174 := eq_true q174
      go_wp2_with (first | ((with_reducible refine zB1 (f := 80) rfl ?_); refine zC2 (some 26) rfl rfl Tryd.func80 (by kernel_rfl) rfl #[.int .i64 (rd l0 x11_1), .int .i64 (rd l1 x11_1)] rfl (by (try simp only [List.map_toArray, List.map_cons, List.map_nil]); first | done | rfl | (simp only [List.length_drop, List.length_take]; rfl)) ?_; (with_reducible refine (zCb.calls (rd l0 x11_1) (rd l1 x11_1) t175 _ A8.out).mono ?_); rintro e w' ⟨rfl, ⟨nd, rfl⟩⟩; refine ⟨_, rfl, ?_⟩))
      go_ret
      exact ⟨by first | rfl | (simp; done) | (simp [*]; done), by repeat (first | exact zAr.refl _ | apply zAr.step)⟩
   ·rw [if_neg c3] at H
    have c3b0 : decide (x11_1 < (l0.length : Int)) = false := decide_eq_false c3
    clear c3
    by_cases c10 : (l0.length : Int) < (l1.length : Int)
    ·rw [if_pos c10] at H
     have c10b0 : decide ((l0.length : Int) < (l1.length : Int)) = true := decide_eq_true c10
     have c10b1 : decide (l0.length < l1.length) = true := decide_eq_true (Int.ofNat_lt.mp c10)
     clear c10
     obtain rfl := Option.some.inj H
     go_wp2
     go_ret
     exact ⟨by first | rfl | (simp; done) | (simp [*]; done), by repeat (first | exact zAr.refl _ | apply zAr.step)⟩
    ·rw [if_neg c10] at H
     have c10b0 : decide ((l0.length : Int) < (l1.length : Int)) = false := decide_eq_false c10
     have c10b1 : decide (l0.length < l1.length) = false := decide_eq_false (fun h => c10 (Int.ofNat_lt.mpr h))
     clear c10
     obtain rfl := Option.some.inj H
     go_wp2
     go_ret
     exact ⟨by first | rfl | (simp; done) | (simp [*]; done), by repeat (first | exact zAr.refl _ | apply zAr.step)⟩
end
end Go.Proofs.YtbghfbhlbfcloaaDoor.PL
namespace Go.Proofs.YtbghfbhlbfcloaaDoor.PL
section
open Go.RowKit Go.Proofs.YtbghfbhlbfcloaaDoorW.PrintWords Go.Proofs.YtbghfbhlbfcloaaDoorW.PrintLast Go.Proofs.YtbghfbhlbfcloaaDoorW.PrintMore
attribute [local go_sem] zBw zBu zC7 zC6 zBo zBn zBv zBt   -- for this text's walks alone
set_option linter.unusedVariables false
set_option linter.unusedSimpArgs false
def liaison_before.f (k : Nat) (l0 : List Int) (l1 : List Int) : Option (Int) := if (l0.length : Int) = (l1.length : Int) then ((zBa.f k l0 l1).bind fun t176 => (some t176)) else (some (wrap64 ((l0.length : Int) - (l1.length : Int))))
theorem liaison_before.mono : ∀ a0 a1 k, LeO (liaison_before.f k a0 a1) (liaison_before.f (k + 1) a0 a1) := by
 intro a0 a1 k
 unfold liaison_before.f
 repeat' first
   | (with_reducible exact zBa.mono _ _ _)
   | (with_reducible exact LeO.refl _)
   | (with_reducible exact LeO.none _)
   | (with_reducible refine LeO.ite ?_ ?_)
   | (with_reducible refine LeO.bind ?_ (fun _ => ?_))
set_option maxHeartbeats 8000000 in
set_option maxRecDepth 100000 in
theorem liaison_before.calls (k : Nat) (A0 : Option Addr) (c0 : Nat) (l0 : List Int) (A1 : Option Addr) (c1 : Nat) (l1 : List Int) (r : Int) (w : World) (hr0 : Kd.C (Kd.int .i64) w A0 l0.length l0) (hc0 : l0.length ≤ c0) (hr1 : Kd.C (Kd.int .i64) w A1 l1.length l1) (hc1 : l1.length ≤ c1) (h : liaison_before.f k l0 l1 = some r) :
  Calls Tryd.prog 40 #[.slice A0 l0.length c0, .slice A1 l1.length c1] w fun e w' => e = .returned (.int .i64 r) ∧ zAr w w' := by
 have HR0 := zA1.mk hr0
 have HC0 := zA1.mk hc0
 clear hr0 hc0
 have HR1 := zA1.mk hr1
 have HC1 := zA1.mk hc1
 clear hr1 hc1
 have H : (if (l0.length : Int) = (l1.length : Int) then ((zBa.f k l0 l1).bind fun t176 => (some t176)) else (some (wrap64 ((l0.length : Int) - (l1.length : Int))))) = some r := h
 clear h
 by_cases c3 : (l0.length : Int) = (l1.length : Int)
 ·rw [if_pos c3] at H
  have c3b0 : ((l0.length : Int) == (l1.length : Int)) = true := beq_iff_eq.mpr c3
  have c3b1 : ((l0.length : Int) != (l1.length : Int)) = false := bne_eq_false_iff_eq.mpr c3
  have c3b2 : (l0.length == l1.length) = true := by first | simpa using c3 | (simp at c3 ⊢; omega)
  clear c3
  replace H := Option.bind_eq_some_iff.mp H
  obtain ⟨t176, A40, H⟩ := H
  replace H : (some t176) = some r := H
  have A4 := zA1.mk A40
  clear A40
  obtain rfl := Option.some.inj H
  go_enter Tryd.func40, Tryd.ntmps40
  go_wp2_with (first | ((with_reducible refine zB1 (f := 70) rfl ?_); refine zC2 (some 17) rfl rfl Tryd.func70 (by kernel_rfl) rfl #[.slice A0 l0.length c0, .slice A1 l1.length c1] rfl (by (try simp only [List.map_toArray, List.map_cons, List.map_nil]); first | done | rfl | (simp only [List.length_drop, List.length_take]; rfl)) ?_; (with_reducible refine (zBa.calls k _ _ l0 _ _ l1 t176 _ ?side1 ?side2 ?side3 ?side4 A4.out).mono ?_); (case side1 => repeat (first | exact HR0.out | (with_reducible refine Kd.zA8 ?_ _) | (with_reducible refine Kd.zAd ?_ _) | (with_reducible refine Kd.zAp ?_))); (case side2 => exact HC0.out); (case side3 => repeat (first | exact HR1.out | (with_reducible refine Kd.zA8 ?_ _) | (with_reducible refine Kd.zAd ?_ _) | (with_reducible refine Kd.zAp ?_))); (case side4 => exact HC1.out); rintro e w' ⟨rfl, ⟨nd, rfl⟩⟩; refine ⟨_, rfl, ?_⟩))
  go_ret
  exact ⟨by first | rfl | (simp; done) | (simp [*]; done), by repeat (first | exact zAr.refl _ | apply zAr.step)⟩
 ·rw [if_neg c3] at H
  have c3b0 : ((l0.length : Int) == (l1.length : Int)) = false := beq_eq_false_iff_ne.mpr c3
  have c3b1 : ((l0.length : Int) != (l1.length : Int)) = true := bne_iff_ne.mpr c3
  have c3b2 : (l0.length == l1.length) = false := by first | simpa using c3 | (simp at c3 ⊢; omega)
  obtain rfl := Option.some.inj H
  go_enter Tryd.func40, Tryd.ntmps40
  go_wp2
  go_ret
  exact ⟨by first | rfl | (simp; done) | (simp [*]; done), by repeat (first | exact zAr.refl _ | apply zAr.step)⟩
end
end Go.Proofs.YtbghfbhlbfcloaaDoor.PL
namespace Go.Proofs.YtbghfbhlbfcloaaDoor.PL
section
open Go.RowKit Go.Proofs.YtbghfbhlbfcloaaDoorW.PrintWords Go.Proofs.YtbghfbhlbfcloaaDoorW.PrintLast Go.Proofs.YtbghfbhlbfcloaaDoorW.PrintMore
attribute [local go_sem] zBw zBu zC7 zC6 zBo zBn zBv zBt   -- for this text's walks alone
set_option linter.unusedVariables false
set_option linter.unusedSimpArgs false
attribute [local go_sem high] eqA68
def liaison_Cuts_1.f (k : Nat) (l0_0 : List Int) (l0_1 : List Int) (l1_0 : List Int) (l1_1 : List Int) : Option (Int) := (liaison_before.f k l0_0 l1_0).bind fun t179 => (some t179)
theorem liaison_Cuts_1.mono : ∀ a0 a1 a2 a3 k, LeO (liaison_Cuts_1.f k a0 a1 a2 a3) (liaison_Cuts_1.f (k + 1) a0 a1 a2 a3) := by
 intro a0 a1 a2 a3 k
 unfold liaison_Cuts_1.f
 repeat' first
   | (with_reducible exact liaison_before.mono _ _ _)
   | (with_reducible exact LeO.refl _)
   | (with_reducible exact LeO.none _)
   | (with_reducible refine LeO.ite ?_ ?_)
   | (with_reducible refine LeO.bind ?_ (fun _ => ?_))
set_option maxHeartbeats 8000000 in
set_option maxRecDepth 100000 in
theorem liaison_Cuts_1.exact (k : Nat) (A0_0 : Option Addr) (c0_0 : Nat) (l0_0 : List Int) (A0_1 : Option Addr) (c0_1 : Nat) (l0_1 : List Int) (A1_0 : Option Addr) (c1_0 : Nat) (l1_0 : List Int) (A1_1 : Option Addr) (c1_1 : Nat) (l1_1 : List Int) (r : Int) (w : World) (hr0_0 : Kd.C (Kd.int .i64) w A0_0 l0_0.length l0_0) (hc0_0 : l0_0.length ≤ c0_0) (hr0_1 : Kd.C (Kd.int .i64) w A0_1 l0_1.length l0_1) (hc0_1 : l0_1.length ≤ c0_1) (hr1_0 : Kd.C (Kd.int .i64) w A1_0 l1_0.length l1_0) (hc1_0 : l1_0.length ≤ c1_0) (hr1_1 : Kd.C (Kd.int .i64) w A1_1 l1_1.length l1_1) (hc1_1 : l1_1.length ≤ c1_1) (h : liaison_Cuts_1.f k l0_0 l0_1 l1_0 l1_1 = some r) :
  Calls Tryd.prog 39 #[.agg #[.slice A0_0 l0_0.length c0_0, .slice A0_1 l0_1.length c0_1], .agg #[.slice A1_0 l1_0.length c1_0, .slice A1_1 l1_1.length c1_1]] w fun e w' => e = .returned (.int .i64 r) ∧ Below w.heap.size w w' ∧ Gr w w' := by
 have hu41 := Tryd.underlying41
 have HR0_0 := zA1.mk hr0_0
 have HC0_0 := zA1.mk hc0_0
 clear hr0_0 hc0_0
 have HR0_1 := zA1.mk hr0_1
 have HC0_1 := zA1.mk hc0_1
 clear hr0_1 hc0_1
 have HR1_0 := zA1.mk hr1_0
 have HC1_0 := zA1.mk hc1_0
 clear hr1_0 hc1_0
 have HR1_1 := zA1.mk hr1_1
 have HC1_1 := zA1.mk hc1_1
 clear hr1_1 hc1_1
 have HB := zA1.mk (Below.refl w.heap.size w)
 have HX := zA1.mk (Gr.refl w)
 have H : ((liaison_before.f k l0_0 l1_0).bind fun t179 => (some t179)) = some r := h
 clear h
 replace H := Option.bind_eq_some_iff.mp H
 obtain ⟨t179, A30, H⟩ := H
 replace H : (some t179) = some r := H
 have A3 := zA1.mk A30
 clear A30
 obtain rfl := Option.some.inj H
 go_enter Tryd.func39, Tryd.ntmps39
 go_wp2_with (first | ((with_reducible refine zBl (N := 2) rfl ?_); refine box_eventG ?hg (N := 2) ?hd (cs := #[.slice A0_0 l0_0.length c0_0, .slice A0_1 l0_1.length c0_1]) (t := 41) ?hr ?_; (case hd => rfl); (case hg => rfl); (case hr => first | (go_simp; done) | (go_simp; rfl)); intro gb177 hg w4 hbox hb hgr; have HX0 := zA1.mk (Gr.trans (by repeat (first | (with_reducible first | exact HX.out | apply Gr.alloc | apply Gr.drewN | apply Gr.drew) | exact HX.out)) hgr); clear hgr; clear HX; have HX := HX0; clear HX0; have n0_ := zA1.mk (zAm (by repeat (first | (with_reducible first | exact HB.out | apply zA2 | apply zA0 | apply zA3) | exact HB.out)) hb); have n1_ := zA1.mk (hbox); have n2_ := zA1.mk ((by rw [hg]; exact (zAc (by repeat (first | (with_reducible first | exact HB.out | apply zA2 | apply zA0 | apply zA3) | exact HB.out))) : w.heap.size ≤ gb177)); have n3_ := zA1.mk ((by rw [hg]; exact (zAc (by repeat (first | (with_reducible first | exact HB.out | apply zA2 | apply zA0 | apply zA3) | exact HB.out))) : w.heap.size ≤ gb177)); clear HB; have HB := n0_; have BK177 := n1_; have GW177 := n2_; have GE177 := n3_; clear n0_ n1_ n2_ n3_; clear hb hbox hg) | ((with_reducible refine zBl (N := 3) rfl ?_); refine box_eventG ?hg (N := 3) ?hd (cs := #[.slice A1_0 l1_0.length c1_0, .slice A1_1 l1_1.length c1_1]) (t := 41) ?hr ?_; (case hd => rfl); (case hg => rfl); (case hr => first | (go_simp; done) | (go_simp; rfl)); intro gb178 hg w5 hbox hb hgr; have HX0 := zA1.mk (Gr.trans (by repeat (first | (with_reducible first | exact HX.out | apply Gr.alloc | apply Gr.drewN | apply Gr.drew) | exact HX.out)) hgr); clear hgr; clear HX; have HX := HX0; clear HX0; have n0_ := zA1.mk (zBc (g := gb177) (o := .cells #[.slice A0_0 l0_0.length c0_0, .slice A0_1 l0_1.length c0_1] 41 (0, 0)) (by (with_reducible repeat (first | refine zAb ?_ _ | refine zAf ?_ | refine zAa ?_ _)); exact BK177.out) hb); have n1_ := zA1.mk (zAm (by repeat (first | (with_reducible first | exact HB.out | apply zA2 | apply zA0 | apply zA3 | refine zA7 ?_ GE177.out) | exact HB.out)) hb); have n2_ := zA1.mk (hbox); have n3_ := zA1.mk ((by rw [hg]; exact (zAc (by repeat (first | (with_reducible first | exact HB.out | apply zA2 | apply zA0 | apply zA3 | refine zA7 ?_ GE177.out) | exact HB.out))) : w.heap.size ≤ gb178)); have n4_ := zA1.mk ((by rw [hg]; exact (zAc (by repeat (first | (with_reducible first | exact HB.out | apply zA2 | apply zA0 | apply zA3 | refine zA7 ?_ GE177.out) | exact HB.out))) : w.heap.size ≤ gb178)); have n5_ := zA1.mk ((by rw [hg]; exact Nat.ne_of_lt (blk_lt (g := gb177) (o := .cells #[.slice A0_0 l0_0.length c0_0, .slice A0_1 l0_1.length c0_1] 41 (0, 0)) (by (with_reducible repeat (first | refine zAb ?_ _ | refine zAf ?_ | refine zAa ?_ _)); exact BK177.out)) : gb177 ≠ gb178)); have n6_ := zA1.mk ((by rw [hg]; exact Nat.ne_of_gt (blk_lt (g := gb177) (o := .cells #[.slice A0_0 l0_0.length c0_0, .slice A0_1 l0_1.length c0_1] 41 (0, 0)) (by (with_reducible repeat (first | refine zAb ?_ _ | refine zAf ?_ | refine zAa ?_ _)); exact BK177.out)) : gb178 ≠ gb177)); clear BK177; clear HB; have BK177 := n0_; have HB := n1_; have BK178 := n2_; have GW178 := n3_; have GE178 := n4_; have NB177_178 := n5_; have NB178_177 := n6_; clear n0_ n1_ n2_ n3_ n4_ n5_ n6_; clear hb hbox hg; have hnb6 := NB177_178.out; have hnc6 := NB178_177.out; have hcz7_0 : w5.cell? ⟨gb177, 0, none⟩ = some (.slice A0_0 l0_0.length c0_0) := (zA9 BK177.out 0).trans rfl; have hcz7_1 : w5.cell? ⟨gb177, 1, none⟩ = some (.slice A0_1 l0_1.length c0_1) := (zA9 BK177.out 1).trans rfl; have hfz7_0 := zAh BK177.out 0; have hfz7_1 := zAh BK177.out 1; have hcz8_0 : w5.cell? ⟨gb178, 0, none⟩ = some (.slice A1_0 l1_0.length c1_0) := (zA9 BK178.out 0).trans rfl; have hcz8_1 : w5.cell? ⟨gb178, 1, none⟩ = some (.slice A1_1 l1_1.length c1_1) := (zA9 BK178.out 1).trans rfl; have hfz8_0 := zAh BK178.out 0; have hfz8_1 := zAh BK178.out 1) | ((with_reducible refine zB1 (f := 40) rfl ?_); refine zC2 (some 9) rfl rfl Tryd.func40 (by kernel_rfl) rfl #[.slice A0_0 l0_0.length c0_0, .slice A1_0 l1_0.length c1_0] rfl (by (try simp only [List.map_toArray, List.map_cons, List.map_nil]); first | done | rfl | (simp only [List.length_drop, List.length_take]; rfl)) ?_; (with_reducible refine (liaison_before.calls k _ _ l0_0 _ _ l1_0 t179 _ ?side1 ?side2 ?side3 ?side4 A3.out).mono ?_); (case side1 => repeat (first | exact (Kd.zAy HR0_0.out HB.out) | (with_reducible refine Kd.zA8 ?_ _) | (with_reducible refine Kd.zAd ?_ _) | (with_reducible refine Kd.zAp ?_))); (case side2 => exact HC0_0.out); (case side3 => repeat (first | exact (Kd.zAy HR1_0.out HB.out) | (with_reducible refine Kd.zA8 ?_ _) | (with_reducible refine Kd.zAd ?_ _) | (with_reducible refine Kd.zAp ?_))); (case side4 => exact HC1_0.out); rintro e w' ⟨rfl, ⟨nd, rfl⟩⟩; refine ⟨_, rfl, ?_⟩))
 go_ret
 exact ⟨by first | rfl | (simp [zAx, zAw] <;> rfl) | (simp [*, zAx, zAw] <;> rfl), by repeat (first | (with_reducible first | exact HB.out | apply zA2 | apply zA0 | apply zA3 | refine zA7 ?_ GE177.out | refine zA7 ?_ GE178.out) | exact HB.out), (by repeat (first | (with_reducible first | exact HX.out | apply Gr.alloc | apply Gr.drewN | apply Gr.drew) | exact HX.out))⟩
theorem liaison_Cuts_1.calls (k : Nat) (A0_0 : Option Addr) (c0_0 : Nat) (l0_0 : List Int) (A0_1 : Option Addr) (c0_1 : Nat) (l0_1 : List Int) (A1_0 : Option Addr) (c1_0 : Nat) (l1_0 : List Int) (A1_1 : Option Addr) (c1_1 : Nat) (l1_1 : List Int) (r : Int) (w : World) (hr0_0 : Kd.C (Kd.int .i64) w A0_0 l0_0.length l0_0) (hc0_0 : l0_0.length ≤ c0_0) (hr0_1 : Kd.C (Kd.int .i64) w A0_1 l0_1.length l0_1) (hc0_1 : l0_1.length ≤ c0_1) (hr1_0 : Kd.C (Kd.int .i64) w A1_0 l1_0.length l1_0) (hc1_0 : l1_0.length ≤ c1_0) (hr1_1 : Kd.C (Kd.int .i64) w A1_1 l1_1.length l1_1) (hc1_1 : l1_1.length ≤ c1_1) (h : liaison_Cuts_1.f k l0_0 l0_1 l1_0 l1_1 = some r) :
  Calls Tryd.prog 39 #[.agg #[.slice A0_0 l0_0.length c0_0, .slice A0_1 l0_1.length c0_1], .agg #[.slice A1_0 l1_0.length c1_0, .slice A1_1 l1_1.length c1_1]] w fun e w' => e = .returned (.int .i64 r) ∧ Below w.heap.size w w' :=
 (liaison_Cuts_1.exact k A0_0 c0_0 l0_0 A0_1 c0_1 l0_1 A1_0 c1_0 l1_0 A1_1 c1_1 l1_1 r w hr0_0 hc0_0 hr0_1 hc0_1 hr1_0 hc1_0 hr1_1 hc1_1 h).mono fun _ _ h_ => ⟨h_.1, h_.2.1⟩
end
end Go.Proofs.YtbghfbhlbfcloaaDoor.PL
namespace Go.Proofs.YtbghfbhlbfcloaaDoor.PL
section
open Go.RowKit Go.Proofs.YtbghfbhlbfcloaaDoorW.PrintWords Go.Proofs.YtbghfbhlbfcloaaDoorW.PrintLast Go.Proofs.YtbghfbhlbfcloaaDoorW.PrintMore
set_option linter.unusedVariables false
set_option linter.unusedSimpArgs false
section
variable {P : Program} {ops : Array Oper} {Q : Exit → Act → World → Prop}
theorem uponIn_of {o : Oper} {a : Act} {K : Act → World → Prop} {n l : Nat} {r : Result Next} (h : o.upon P a K Q r) : o.uponIn (Fence.wide.inRound l) n P a K Q r := by
 cases r with
 | ok x w =>
  cases x <;> simp only [Oper.upon, Oper.uponIn] at h ⊢ <;> first | exact h | skip
  ·refine ⟨by simp [Fence.wide], CallsIn.inRound l (callsIn_wide.2 (Calls.mono h (fun e w'' he => ?_)))⟩
   cases e <;> exact he
  ·refine ⟨by simp [Fence.wide], fun c cs _ => ?_⟩
   obtain ⟨v, w', hr, hs⟩ := h c cs
   exact ⟨v, w', hr, stepsIn_wide.2 hs⟩
 | halt x w => cases x <;> simp only [Oper.upon, Oper.uponIn] at h ⊢ <;> exact h
theorem wpAnyIn_of (hL : ¬ LetsOut Q) (hnd : ∀ (i : Nat) (o : Oper), ops[i]? = some o → ∀ c, o.op ≠ .defer c) {n l : Nat} : ∀ (fuel : Nat) (listed : Array Bool) (a : Act) (w : World), wpAny P .any ops Q fuel listed a w → wpAnyIn (Fence.wide.inRound l) n P .any ops Q fuel listed a w
 | 0, listed, a, w, h => h
 | fuel + 1, listed, a, w, h => by
  refine ⟨h.1, fun i hi => ?_⟩
  have h1 := h.2 i hi
  unfold wpOp at h1
  unfold wpOpIn
  cases ho : ops[i]? with
  | none =>
   rw [ho] at h1
   exact wpAnyIn_of hL hnd fuel _ a w h1
  | some o =>
   rw [ho] at h1
   simp only at h1 ⊢
   split
   ·rename_i hw
    rw [if_pos hw] at h1
    rcases h1 with h1 | h1
    ·refine ⟨fun _ _ => trivial, ?_⟩
     rw [Oper.semAt_eq _ _ _ (hnd i o ho)]
     exact uponIn_of (Oper.wp_mono (fun a w hh => wpAnyIn_of hL hnd fuel _ a w hh) h1)
    ·exact absurd h1.2 hL
   ·rename_i hw
    rw [if_neg hw] at h1
    exact ⟨fun _ _ => trivial, wpAnyIn_of hL hnd fuel _ _ w h1⟩
theorem start_in {id n l m : Nat} {a : Act} {w : World} {S : World → Prop} {ds : List Nat} (L : Array Bool) (hm : P.follows .mixedOrders = true) (hn : ops.size = n) (hl : Array.replicate n false = L) (hL : ¬ LetsOut Q) (hnd : ∀ (i : Nat) (o : Oper), ops[i]? = some o → ∀ c, o.op ≠ .defer c)
  (hS : S w.drew) (h : S w.drew → zC9 P .any ops Q S ds n L a w.drew) : (Code.region id ops true).wpIn (Fence.wide.inRound l) m P Q a w := by
 subst hn
 subst hl
 exact wpIn_region_any hm (wpAnyIn_of hL hnd _ _ a _ (wpAny_of_last _ _ _ _ (h hS)))
end
end
end Go.Proofs.YtbghfbhlbfcloaaDoor.PL
namespace Go.Proofs.YtbghfbhlbfcloaaDoor.PL
section
open Go.RowKit Go.Proofs.YtbghfbhlbfcloaaDoorW.PrintWords Go.Proofs.YtbghfbhlbfcloaaDoorW.PrintLast Go.Proofs.YtbghfbhlbfcloaaDoorW.PrintMore
attribute [local go_sem] Oper.semAt_some
set_option linter.unusedVariables false
set_option linter.unusedSimpArgs false
def nextS (m s : Int) : Int := Go.bits .and .u64 (IntKind.u64.wrap (s - 1)) m
def Chain (m : Int) : Int → List Int → Prop
 | s, [] => s = 0
 | s, a :: r => a = s ∧ 0 < s ∧ 0 ≤ nextS m s ∧ nextS m s < s ∧ Chain m (nextS m s) r
theorem grown_of_below {W W' : World} (h : Below W.heap.size W W') : W.grownBy W' none := ⟨h.os, h.tape, h.output, h.size, fun k hk _ => h.block k hk⟩
theorem wide_depth : ¬ Fence.wide.depth.isSome = true := by simp [Fence.wide]
structure Kq (n₁ mB lB : Nat) (W W' : World) : Prop where mk ::
 b : Below n₁ W W'
 m : W'.heap[mB]? = W.heap[mB]?
 l : W'.heap[lB]? = W.heap[lB]?
theorem Kq.refl (n₁ mB lB : Nat) (W : World) : Kq n₁ mB lB W W := ⟨Below.refl _ _, rfl, rfl⟩
theorem Kq.trans {n₁ mB lB : Nat} {A B C : World} (h : Kq n₁ mB lB A B) (k : Kq n₁ mB lB B C) : Kq n₁ mB lB A C := ⟨h.b.trans k.b, k.m.trans h.m, k.l.trans h.l⟩
theorem Kq.of {n n₁ mB lB : Nat} {A B : World} (h : Below n A B) (h1 : n₁ ≤ n) (hm : mB < n) (hl : lB < n) : Kq n₁ mB lB A B := ⟨h.mono h1, h.block _ hm, h.block _ hl⟩
theorem cell_of_heap {W W' : World} {k : Nat} (h : W'.heap[k]? = W.heap[k]?) (o : Nat) : W'.cell? ⟨k, o, none⟩ = W.cell? ⟨k, o, none⟩ := by simp only [World.cell?, h]
set_option maxRecDepth 100000 in
set_option maxHeartbeats 2000000 in
theorem subsets_in (k : Nat) (AL : Option Addr) (cL : Nat) (L : List Int) (m : Int) (ms : List Int) (cn : Int → Bool) (mB lB n₀ : Nat) (n l : Nat) (J Jx : List Int → World → Prop) (W : World) (hn0 : n₀ ≤ W.heap.size)
  (hJ : AbidesFrom W.heap.size J)
  (hm : W.cell? ⟨mB, 0, none⟩ = some (.int .u64 m)) (hl : W.cell? ⟨lB, 0, none⟩ = some (.slice AL L.length cL))
  (hC : ∀ W', Kq n₀ mB lB W W' → Kd.C (Kd.int .u64) W' AL L.length L) (hcL : L.length ≤ cL) (hG : ∀ W', Kq n₀ mB lB W W' → Kd.C (Kd.int .u8) W' (some tabA) tabL.length tabL)
  (hch : Chain m m ms) (hcn : ∀ s ∈ ms, zAz.f k L s = some (cn s))
  (hY : ∀ pre x W1, x ∈ ms.filter cn → J pre W1 → pre.length < (ms.filter cn).length → YieldAt Fence.wide (n - 1) Tryd.prog l #[.int .u64 x] W1 fun e W' =>
   (e = .returned (.bool true) ∧ J (pre ++ [x]) W' ∧ Kq n₀ mB lB W1 W') ∨ (e = .returned (.bool false) ∧ Jx (pre ++ [x]) W'))
  (h0 : J [] W) :
  CallsIn Fence.wide n Tryd.prog 66 #[.func (.yield l) #[] #[], .pointer (some ⟨mB, 0, none⟩), .pointer (some ⟨lB, 0, none⟩)] W fun e W' => (∃ v, e = .returned v) ∧
   ((∃ xs, xs = ms.filter cn ∧ J xs W') ∨ (∃ pre, True ∧ Jx pre W')) := by
 have HC := zA1.mk hC
 have HCL := zA1.mk hcL
 have HG := zA1.mk hG
 have HCN := zA1.mk hcn
 have HY := zA1.mk hY
 have HJ := zA1.mk hJ
 have HN := zA1.mk hn0
 have hB0 : Kq n₀ mB lB W W := Kq.refl _ _ _ _
 clear hC hcL hG hcn hY hJ hn0
 refine callsIn_of_wp Tryd.func66 rfl trivial ?_ rfl
 simp only [Tryd.ntmps66, List.size_toArray, List.length_cons, List.length_nil, Nat.reduceAdd, Nat.reduceSub, Array.replicate_succ, Array.replicate_zero, List.push_toArray, List.append_toArray, List.nil_append, List.cons_append]
 gi_wp2
 gi_loopw [4] (fun v4 wr => ∃ (s : Int) (pre rest : List Int), v4 = .int .u64 s ∧ zA1 (ms = pre ++ rest) ∧ zA1 (Chain m s rest) ∧ zA1 (J (pre.filter cn) wr) ∧ zA1 (Kq n₀ mB lB W wr) ∧ zA1 (W.heap.size ≤ wr.heap.size)) (fun v4 _ => (intOf v4).toNat)
 case atStart => exact ⟨m, [], ms, rfl, ⟨rfl⟩, ⟨hch⟩, ⟨h0⟩, ⟨Kq.refl _ _ _ _⟩, ⟨Nat.le_refl _⟩⟩
 case round =>
  obtain ⟨s, pre, rest, rfl, HM, HCH, HJs, HB, HSZ⟩ := hrel
  have hmr := (cell_of_heap HB.out.m 0).trans hm
  have hlr := (cell_of_heap HB.out.l 0).trans hl
  cases rest with
  | nil =>
   obtain rfl : s = 0 := HCH.out
   gi_wp2
   go_end0
   have e := HM.out
   rw [List.append_nil] at e
   exact ⟨⟨_, rfl⟩, .inl ⟨_, rfl, by rw [e]; exact HJs.out⟩⟩
  | cons a r =>
   obtain ⟨rfl, hs0, hs1, hs2, hch2⟩ := HCH.out
   have HCH2 := zA1.mk hch2
   clear hch2
   have hmem : a ∈ ms := by rw [HM.out]; simp
   have hf := HCN.out a hmem
   have hne : (a != 0) = true := by simp; omega
   have CC := callsIn_wide (n := n - 1) |>.2 (zAz.calls k AL cL L a (cn a) wr (HC.out wr HB.out) HCL.out (HG.out wr HB.out) hf)
   have HCC := zA1.mk CC
   clear CC hf
   cases hc : cn a with
   | false =>
    have Hc := zA1.mk hc
    rw [hc] at HCC
    clear hc
    gi_wp2_with (refine ⟨trivial, (fun h => absurd h wide_depth), ?_⟩; gi_at_call 35; refine HCC.out.mono ?_; rintro e w2 ⟨rfl, hb2⟩; have hm2 := (hb2.cell (World.block_lt_of_cell? wr _ hmr)).trans hmr; have HB2 := zA1.mk hb2; clear hb2)
    refine ⟨fun _ h => (by cases h), ?_⟩
    gi_wp2
    go_roundw
    case rel => exact ⟨nextS m a, pre ++ [a], r, rfl, ⟨by rw [HM.out]; simp⟩, HCH2, ⟨by rw [List.filter_append, List.filter_cons_of_neg (by rw [Hc.out]; simp), List.filter_nil, List.append_nil]; exact HJ.out _ _ _ none HJs.out (grown_of_below HB2.out) (fun r h => by cases h)⟩, ⟨HB.out.trans (Kq.of HB2.out (Nat.le_trans HN.out HSZ.out) (World.block_lt_of_cell? wr _ hmr) (World.block_lt_of_cell? wr _ hlr))⟩, ⟨Nat.le_trans HSZ.out HB2.out.size⟩⟩
    case measure => show (nextS m a).toNat < a.toNat; omega
   | true =>
    have hmem2 : (pre.filter cn).length < (ms.filter cn).length := by rw [HM.out, List.filter_append, List.filter_cons_of_pos hc]; simp
    rw [hc] at HCC
    have Hc := zA1.mk hc
    clear hc
    gi_wp2_with (refine ⟨trivial, (fun h => absurd h wide_depth), ?_⟩; gi_at_call 35; refine HCC.out.mono ?_; rintro e w2 ⟨rfl, hb2⟩; have hm2 := (hb2.cell (World.block_lt_of_cell? wr _ hmr)).trans hmr; have HB2 := zA1.mk hb2; clear hb2; obtain ⟨fn, tmps, assign, body, hy, hR⟩ := HY.out _ a w2 (List.mem_filter.2 ⟨hmem, Hc.out⟩) (HJ.out _ _ _ none HJs.out (grown_of_below HB2.out) (fun r h => by cases h)) hmem2; have HRR := zA1.mk hR; clear hR)
    refine ⟨fun h => absurd h wide_depth, HRR.out.mono ?_⟩
    rintro e W3 (⟨rfl, hJ3, hk3⟩ | ⟨rfl, hJx3⟩)
    ·have hm3 := (cell_of_heap hk3.m 0).trans hm2
     have HJ3 := zA1.mk hJ3
     have HK3 := zA1.mk hk3
     clear hJ3 hk3
     gi_wp2
     go_roundw
     case rel => exact ⟨nextS m a, pre ++ [a], r, rfl, ⟨by rw [HM.out]; simp⟩, HCH2, ⟨by rw [List.filter_append, List.filter_cons_of_pos Hc.out, List.filter_nil]; exact HJ3.out⟩, ⟨(HB.out.trans (Kq.of HB2.out (Nat.le_trans HN.out HSZ.out) (World.block_lt_of_cell? wr _ hmr) (World.block_lt_of_cell? wr _ hlr))).trans HK3.out⟩, ⟨Nat.le_trans HSZ.out (Nat.le_trans HB2.out.size HK3.out.b.size)⟩⟩
     case measure => show (nextS m a).toNat < a.toNat; omega
    ·have HJX := zA1.mk hJx3
     clear hJx3
     gi_wp2
     refine bodyPost_ret (results_none rfl _ _ _) rfl ?_
     exact ⟨⟨_, rfl⟩, .inr ⟨_, trivial, HJX.out⟩⟩
theorem subsets_stops (k : Nat) (AL : Option Addr) (cL : Nat) (L : List Int) (m : Int) (ms : List Int) (cn : Int → Bool) (mB lB n₀ : Nat) (n : Nat) (w0 : World) (hn0 : n₀ ≤ w0.heap.size)
  (hm : w0.cell? ⟨mB, 0, none⟩ = some (.int .u64 m)) (hl : w0.cell? ⟨lB, 0, none⟩ = some (.slice AL L.length cL))
  (hCb : ∀ W', Kq n₀ mB lB w0 W' → Kd.C (Kd.int .u64) W' AL L.length L) (hcL : L.length ≤ cL) (hGb : ∀ W', Kq n₀ mB lB w0 W' → Kd.C (Kd.int .u8) W' (some tabA) tabL.length tabL)
  (hch : Chain m m ms) (hcn : ∀ s ∈ ms, zAz.f k L s = some (cn s)) :
  SeqStopsK Fence.wide n Tryd.prog 66 #[.pointer (some ⟨mB, 0, none⟩), .pointer (some ⟨lB, 0, none⟩)] (fun x : { x : Int // x ∈ ms.filter cn } => #[.int .u64 x.1]) (Kq n₀ mB lB) (fun xs => xs.map (fun x => x.1) = ms.filter cn) (fun _ => True) (ms.filter cn).length w0 := by
 intro l J Jx W hW hJ _ hY h0
 have hB : Kq n₀ mB lB w0 W := Kq.of hW hn0 (World.block_lt_of_cell? w0 _ hm) (World.block_lt_of_cell? w0 _ hl)
 refine (subsets_in k AL cL L m ms cn mB lB n₀ n l (fun pre W' => ∃ xs : List { x : Int // x ∈ ms.filter cn }, xs.map (fun x => x.1) = pre ∧ J xs W') (fun _ W' => ∃ xs : List { x : Int // x ∈ ms.filter cn }, Jx xs W') W (Nat.le_trans hn0 hW.size) ?_ ((cell_of_heap hB.m 0).trans hm) ((cell_of_heap hB.l 0).trans hl) (fun W' h => hCb W' (hB.trans h)) hcL (fun W' h => hGb W' (hB.trans h)) hch hcn ?_ ⟨[], rfl, h0⟩).mono ?_
 ·rintro s A B row ⟨xs, e, hj⟩ hg hr
  exact ⟨xs, e, hJ xs A B row hj hg hr⟩
 ·rintro pre x W1 hx ⟨xs, rfl, hj⟩ hlen
  obtain ⟨fn, tmps, assign, body, hy, hR⟩ := hY xs ⟨x, hx⟩ W1 hj (by simpa using hlen)
  refine ⟨fn, tmps, assign, body, hy, hR.mono ?_⟩
  rintro e W' (⟨rfl, h1, h2⟩ | ⟨rfl, h1⟩)
  ·exact .inl ⟨rfl, ⟨_, by simp, h1⟩, h2⟩
  ·exact .inr ⟨rfl, _, h1⟩
 ·rintro e W' ⟨hv, ⟨xs, rfl, xs', he, hj⟩ | ⟨pre, _, xs', hj⟩⟩
  ·exact ⟨hv, .inl ⟨xs', he, hj⟩⟩
  ·exact ⟨hv, .inr ⟨xs', trivial, hj⟩⟩
end
end Go.Proofs.YtbghfbhlbfcloaaDoor.PL
namespace Go.Proofs
section
set_option linter.unusedVariables false
set_option linter.unusedSimpArgs false
open Go.Shelf
def Tryd.sortEdge_ren : Go.Shelf.Ren := ⟨fun | 6 => 63 | 15 => 69 | 14 => 78 | 28 => 91 | 29 => 92 | 20 => 97 | 21 => 98 | 22 => 99 | 23 => 100 | 24 => 101 | 25 => 102 | 26 => 103 | 27 => 104 | 46 => 113 | 47 => 107 | 48 => 108 | 49 => 114 | 50 => 115 | 57 => 118 | n => n, fun | 22 => 26 | 24 => 68 | 25 => 98 | 3 => 3 | 39 => 71 | 0 => 0 | 53 => 109 | 55 => 111 | 4 => 4 | 46 => 114 | 45 => 113 | 50 => 118 | 5 => 5 | 9 => 9 | 66 => 132 | 70 => 136 | 76 => 141 | 77 => 142 | n => n, fun | n => n⟩
theorem Tryd.sortEdge : Go.Proofs.SlLaysF0.n6 Tryd.prog Tryd.sortEdge_ren := {
 mixed := by kernel_rfl
 f6 := ⟨Tryd.f63.name, by decide, Tryd.func63.trans (congrArg some (by kernel_rfl))⟩
 f14 := ⟨Tryd.f78.name, by decide, Tryd.func78.trans (congrArg some (by kernel_rfl))⟩
 f15 := Tryd.func69.trans (congrArg some (by kernel_rfl))
 f20 := ⟨Tryd.f97.name, by decide, Tryd.func97.trans (congrArg some (by kernel_rfl))⟩
 f21 := ⟨Tryd.f98.name, by decide, Tryd.func98.trans (congrArg some (by kernel_rfl))⟩
 f22 := ⟨Tryd.f99.name, by decide, Tryd.func99.trans (congrArg some (by kernel_rfl))⟩
 f23 := ⟨Tryd.f100.name, by decide, Tryd.func100.trans (congrArg some (by kernel_rfl))⟩
 f24 := ⟨Tryd.f101.name, by decide, Tryd.func101.trans (congrArg some (by kernel_rfl))⟩
 f25 := ⟨Tryd.f102.name, by decide, Tryd.func102.trans (congrArg some (by kernel_rfl))⟩
 f26 := ⟨Tryd.f103.name, by decide, Tryd.func103.trans (congrArg some (by kernel_rfl))⟩
 f27 := ⟨Tryd.f104.name, by decide, Tryd.func104.trans (congrArg some (by kernel_rfl))⟩
 f28 := Tryd.func91.trans (congrArg some (by kernel_rfl))
 f29 := Tryd.func92.trans (congrArg some (by kernel_rfl))
 f46 := ⟨Tryd.f113.name, by decide, Tryd.func113.trans (congrArg some (by kernel_rfl))⟩
 f47 := Tryd.func107.trans (congrArg some (by kernel_rfl))
 f48 := Tryd.func108.trans (congrArg some (by kernel_rfl))
 f49 := ⟨Tryd.f114.name, by decide, Tryd.func114.trans (congrArg some (by kernel_rfl))⟩
 f50 := ⟨Tryd.f115.name, by decide, Tryd.func115.trans (congrArg some (by kernel_rfl))⟩
 f57 := ⟨Tryd.f118.name, by decide, Tryd.func118.trans (congrArg some (by kernel_rfl))⟩
 t0 := Tryd.underlying0
 a0 := Tryd.isAgg0
 z0 := Tryd.sizeOf0
 v0 := Tryd.zeroValue0
 t3 := Tryd.underlying3
 a3 := Tryd.isAgg3
 z3 := Tryd.sizeOf3
 v3 := Tryd.zeroValue3
 t4 := Tryd.underlying4
 a4 := Tryd.isAgg4
 z4 := Tryd.sizeOf4
 v4 := Tryd.zeroValue4
 t5 := Tryd.underlying5
 a5 := Tryd.isAgg5
 z5 := Tryd.sizeOf5
 v5 := Tryd.zeroValue5
 t9 := Tryd.underlying9
 a9 := Tryd.isAgg9
 z9 := Tryd.sizeOf9
 v9 := Tryd.zeroValue9
 t22 := Tryd.underlying26
 a22 := Tryd.isAgg26
 z22 := Tryd.sizeOf26
 v22 := Tryd.zeroValue26
 t25 := Tryd.underlying98
 a25 := Tryd.isAgg98
 z25 := Tryd.sizeOf98
 v25 := Tryd.zeroValue98
 t39 := Tryd.underlying71
 a39 := Tryd.isAgg71
 z39 := Tryd.sizeOf71
 v39 := Tryd.zeroValue71
 t45 := Tryd.underlying113
 a45 := Tryd.isAgg113
 z45 := Tryd.sizeOf113
 v45 := Tryd.zeroValue113
 t46 := Tryd.underlying114
 a46 := Tryd.isAgg114
 z46 := Tryd.sizeOf114
 v46 := Tryd.zeroValue114
 t50 := Tryd.underlying118
 a50 := Tryd.isAgg118
 z50 := Tryd.sizeOf118
 v50 := Tryd.zeroValue118
 t53 := Tryd.underlying109
 a53 := Tryd.isAgg109
 z53 := Tryd.sizeOf109
 v53 := Tryd.zeroValue109
 t55 := Tryd.underlying111
 a55 := Tryd.isAgg111
 z55 := Tryd.sizeOf111
 v55 := Tryd.zeroValue111
 t66 := Tryd.underlying132
 a66 := Tryd.isAgg132
 z66 := Tryd.sizeOf132
 v66 := Tryd.zeroValue132
 t70 := Tryd.underlying136
 a70 := Tryd.isAgg136
 z70 := Tryd.sizeOf136
 v70 := Tryd.zeroValue136
 t76 := Tryd.underlying141
 a76 := Tryd.isAgg141
 z76 := Tryd.sizeOf141
 v76 := Tryd.zeroValue141
 t77 := Tryd.underlying142
 a77 := Tryd.isAgg142
 z77 := Tryd.sizeOf142
 v77 := Tryd.zeroValue142 }
def Tryd.sortCut_ren : Go.Shelf.Ren := ⟨fun | 6 => 38 | 15 => 69 | 14 => 68 | 28 => 91 | 29 => 92 | 20 => 83 | 21 => 84 | 22 => 85 | 23 => 86 | 24 => 87 | 25 => 88 | 26 => 89 | 27 => 90 | 46 => 106 | 47 => 107 | 48 => 108 | 49 => 109 | 50 => 110 | 57 => 116 | n => n, fun | 22 => 30 | 24 => 41 | 25 => 81 | 3 => 3 | 39 => 71 | 0 => 0 | 53 => 109 | 55 => 111 | 4 => 4 | 46 => 114 | 45 => 113 | 50 => 118 | 5 => 5 | 9 => 9 | 66 => 132 | 70 => 136 | 76 => 141 | 77 => 142 | n => n, fun | n => n⟩
theorem Tryd.sortCut : Go.Proofs.SlLaysF0.n6 Tryd.prog Tryd.sortCut_ren := {
 mixed := by kernel_rfl
 f6 := ⟨Tryd.f38.name, by decide, Tryd.func38.trans (congrArg some (by kernel_rfl))⟩
 f14 := ⟨Tryd.f68.name, by decide, Tryd.func68.trans (congrArg some (by kernel_rfl))⟩
 f15 := Tryd.func69.trans (congrArg some (by kernel_rfl))
 f20 := ⟨Tryd.f83.name, by decide, Tryd.func83.trans (congrArg some (by kernel_rfl))⟩
 f21 := ⟨Tryd.f84.name, by decide, Tryd.func84.trans (congrArg some (by kernel_rfl))⟩
 f22 := ⟨Tryd.f85.name, by decide, Tryd.func85.trans (congrArg some (by kernel_rfl))⟩
 f23 := ⟨Tryd.f86.name, by decide, Tryd.func86.trans (congrArg some (by kernel_rfl))⟩
 f24 := ⟨Tryd.f87.name, by decide, Tryd.func87.trans (congrArg some (by kernel_rfl))⟩
 f25 := ⟨Tryd.f88.name, by decide, Tryd.func88.trans (congrArg some (by kernel_rfl))⟩
 f26 := ⟨Tryd.f89.name, by decide, Tryd.func89.trans (congrArg some (by kernel_rfl))⟩
 f27 := ⟨Tryd.f90.name, by decide, Tryd.func90.trans (congrArg some (by kernel_rfl))⟩
 f28 := Tryd.func91.trans (congrArg some (by kernel_rfl))
 f29 := Tryd.func92.trans (congrArg some (by kernel_rfl))
 f46 := ⟨Tryd.f106.name, by decide, Tryd.func106.trans (congrArg some (by kernel_rfl))⟩
 f47 := Tryd.func107.trans (congrArg some (by kernel_rfl))
 f48 := Tryd.func108.trans (congrArg some (by kernel_rfl))
 f49 := ⟨Tryd.f109.name, by decide, Tryd.func109.trans (congrArg some (by kernel_rfl))⟩
 f50 := ⟨Tryd.f110.name, by decide, Tryd.func110.trans (congrArg some (by kernel_rfl))⟩
 f57 := ⟨Tryd.f116.name, by decide, Tryd.func116.trans (congrArg some (by kernel_rfl))⟩
 t0 := Tryd.underlying0
 a0 := Tryd.isAgg0
 z0 := Tryd.sizeOf0
 v0 := Tryd.zeroValue0
 t3 := Tryd.underlying3
 a3 := Tryd.isAgg3
 z3 := Tryd.sizeOf3
 v3 := Tryd.zeroValue3
 t4 := Tryd.underlying4
 a4 := Tryd.isAgg4
 z4 := Tryd.sizeOf4
 v4 := Tryd.zeroValue4
 t5 := Tryd.underlying5
 a5 := Tryd.isAgg5
 z5 := Tryd.sizeOf5
 v5 := Tryd.zeroValue5
 t9 := Tryd.underlying9
 a9 := Tryd.isAgg9
 z9 := Tryd.sizeOf9
 v9 := Tryd.zeroValue9
 t22 := Tryd.underlying30
 a22 := Tryd.isAgg30
 z22 := Tryd.sizeOf30
 v22 := Tryd.zeroValue30
 t25 := Tryd.underlying81
 a25 := Tryd.isAgg81
 z25 := Tryd.sizeOf81
 v25 := Tryd.zeroValue81
 t39 := Tryd.underlying71
 a39 := Tryd.isAgg71
 z39 := Tryd.sizeOf71
 v39 := Tryd.zeroValue71
 t45 := Tryd.underlying113
 a45 := Tryd.isAgg113
 z45 := Tryd.sizeOf113
 v45 := Tryd.zeroValue113
 t46 := Tryd.underlying114
 a46 := Tryd.isAgg114
 z46 := Tryd.sizeOf114
 v46 := Tryd.zeroValue114
 t50 := Tryd.underlying118
 a50 := Tryd.isAgg118
 z50 := Tryd.sizeOf118
 v50 := Tryd.zeroValue118
 t53 := Tryd.underlying109
 a53 := Tryd.isAgg109
 z53 := Tryd.sizeOf109
 v53 := Tryd.zeroValue109
 t55 := Tryd.underlying111
 a55 := Tryd.isAgg111
 z55 := Tryd.sizeOf111
 v55 := Tryd.zeroValue111
 t66 := Tryd.underlying132
 a66 := Tryd.isAgg132
 z66 := Tryd.sizeOf132
 v66 := Tryd.zeroValue132
 t70 := Tryd.underlying136
 a70 := Tryd.isAgg136
 z70 := Tryd.sizeOf136
 v70 := Tryd.zeroValue136
 t76 := Tryd.underlying141
 a76 := Tryd.isAgg141
 z76 := Tryd.sizeOf141
 v76 := Tryd.zeroValue141
 t77 := Tryd.underlying142
 a77 := Tryd.isAgg142
 z77 := Tryd.sizeOf142
 v77 := Tryd.zeroValue142 }
end
end Go.Proofs
namespace Go.Proofs.YtbghfbhlbfcloaaDoor.PL
section
open Go.RowKit Go.Sort Go.Proofs
set_option linter.unusedVariables false
set_option linter.unusedSimpArgs false
theorem sortsEdge : SortsK Tryd.prog 63 2 := fun m enc hk h1 cf hO g cb blk off cap d w eg hcmp hH hblk hsz hT =>
 AnyQ.slices_SortFunc_total Tryd.sortEdge 2 Tryd.isAgg68 Tryd.sizeOf68 enc hk h1 cf hO g cb blk off cap d w eg hcmp hH hblk hsz hT
theorem sortsCut : SortsK Tryd.prog 38 2 := fun m enc hk h1 cf hO g cb blk off cap d w eg hcmp hH hblk hsz hT =>
 AnyQ.slices_SortFunc_total Tryd.sortCut 2 Tryd.isAgg41 Tryd.sizeOf41 enc hk h1 cf hO g cb blk off cap d w eg hcmp hH hblk hsz hT
theorem sortNoneEdge (p : Option Addr) (cap : Nat) (fv : Value) (w : World) : Calls Tryd.prog 63 #[.slice p 0 cap, fv] w fun e w' => e = .returned (.tuple #[]) ∧ w' = w := AnyF.slices_SortFunc_none Tryd.sortEdge p cap fv w
theorem sortNoneCut (p : Option Addr) (cap : Nat) (fv : Value) (w : World) : Calls Tryd.prog 38 #[.slice p 0 cap, fv] w fun e w' => e = .returned (.tuple #[]) ∧ w' = w := AnyF.slices_SortFunc_none Tryd.sortCut p cap fv w
end
end Go.Proofs.YtbghfbhlbfcloaaDoor.PL
namespace Go.Proofs.YtbghfbhlbfcloaaDoor.PL
section
open Go.RowKit Go.Proofs.YtbghfbhlbfcloaaDoorW.PrintWords Go.Proofs.YtbghfbhlbfcloaaDoorW.PrintLast Go.Proofs.YtbghfbhlbfcloaaDoorW.PrintMore
attribute [local go_sem] Oper.semAt_some
set_option linter.unusedVariables false
set_option linter.unusedSimpArgs false
def cmpL : List Int → List Int → Int
 | [], [] => 0
 | [], _ :: _ => -1
 | _ :: _, [] => 1
 | a :: r, b :: t => if a < b then -1 else if b < a then 1 else cmpL r t
def befL (a b : List Int) : Int := if (a.length : Int) = (b.length : Int) then cmpL a b else (a.length : Int) - (b.length : Int)
theorem cmpL_neg : ∀ a b, cmpL b a = - cmpL a b
 | [], [] => rfl
 | [], _ :: _ => rfl
 | _ :: _, [] => rfl
 | a :: r, b :: t => by
  unfold cmpL
  by_cases h1 : a < b
  ·simp only [if_pos h1, if_neg (show ¬ b < a by omega)]; rfl
  ·by_cases h2 : b < a
   ·simp only [if_neg h1, if_pos h2]
   ·simp only [if_neg h1, if_neg h2]
    exact cmpL_neg r t
theorem cmpL_eq : ∀ a b, cmpL a b = 0 → a = b
 | [], [], _ => rfl
 | [], _ :: _, h => by simp [cmpL] at h
 | _ :: _, [], h => by simp [cmpL] at h
 | a :: r, b :: t, h => by
  unfold cmpL at h
  by_cases h1 : a < b
  ·rw [if_pos h1] at h; omega
  ·by_cases h2 : b < a
   ·rw [if_neg h1, if_pos h2] at h; omega
   ·rw [if_neg h1, if_neg h2] at h
    rw [cmpL_eq r t h, show a = b by omega]
theorem cmpL_le : ∀ a b c, cmpL a b ≤ 0 → cmpL b c ≤ 0 → cmpL a c ≤ 0
 | [], _, [], _, _ => by simp [cmpL]
 | [], _, _ :: _, _, _ => by simp [cmpL]
 | _ :: _, [], _, h, _ => by simp [cmpL] at h
 | _ :: _, _ :: _, [], _, h => by simp [cmpL] at h
 | a :: r, b :: t, c :: u, h, k => by
  have ih := cmpL_le r t u
  unfold cmpL at h k ⊢
  split at h <;> split at k <;> (try split at h) <;> (try split at k) <;> split <;> (try split) <;> first | omega | exact ih h k
theorem befL_neg (a b : List Int) : befL b a = - befL a b := by
 unfold befL
 by_cases h : (a.length : Int) = b.length
 ·rw [if_pos h, if_pos h.symm, cmpL_neg]
 ·rw [if_neg h, if_neg (fun e => h e.symm)]; omega
theorem befL_eq (a b : List Int) (h : befL a b = 0) : a = b := by
 unfold befL at h
 split at h
 ·exact cmpL_eq a b h
 ·omega
theorem befL_le (a b c : List Int) (h : befL a b ≤ 0) (k : befL b c ≤ 0) : befL a c ≤ 0 := by
 have ih := cmpL_le a b c
 unfold befL at *
 split at h <;> split at k <;> split <;> first | omega | exact ih h k
def befC (x y : S41) : Int := befL x.f0 y.f0
theorem befL_swo {α : Type} (f : α → List Int) : Go.Sort.SWO (Go.Proofs.ltOf fun x y => befL (f x) (f y)) where
 irrefl x := by
  have h := befL_neg (f x) (f x)
  simp only [Go.Proofs.ltOf, decide_eq_false_iff_not]; omega
 trans x y z h1 h2 := by
  simp only [Go.Proofs.ltOf, decide_eq_true_eq] at *
  have h3 := befL_le (f x) (f y) (f z) (by omega) (by omega)
  rcases Int.lt_or_eq_of_le h3 with h | h
  ·exact h
  ·have e := befL_eq _ _ h
   rw [e] at h1
   have h4 := befL_neg (f y) (f z)
   omega
 ntrans x y z h1 h2 := by
  simp only [Go.Proofs.ltOf, decide_eq_false_iff_not] at *
  have h4 := befL_neg (f x) (f y)
  have h5 := befL_neg (f y) (f z)
  have h6 := befL_neg (f x) (f z)
  have h3 := befL_le (f z) (f y) (f x) (by omega) (by omega)
  omega
def CU.k : Nat := 1000
def subs (m : Int) : Nat → Int → Option (List Int)
 | 0, _ => none
 | q + 1, s => if s = 0 then some [] else if 0 < s ∧ 0 ≤ nextS m s ∧ nextS m s < s then (subs m q (nextS m s)).bind fun r => some (s :: r) else none
theorem subs_chain (m : Int) : ∀ (q : Nat) (s : Int) (ms : List Int), subs m q s = some ms → Chain m s ms
 | 0, _, _, h => by simp [subs] at h
 | q + 1, s, ms, h => by
  unfold subs at h
  split at h
  ·rename_i h0
   injection h with h
   subst h
   exact h0
  ·split at h
   ·rename_i h1
    obtain ⟨r, hr, h⟩ := Option.bind_eq_some_iff.1 h
    injection h with h
    subst h
    exact ⟨rfl, h1.1, h1.2.1, h1.2.2, subs_chain m q _ r hr⟩
   ·cases h
def cnB (L : List Int) (s : Int) : Bool := (zAz.f CU.k L s).getD false
def ctO (L : List Int) (m x : Int) : Option (List S41) :=
 if Go.bits .and .u64 x (Go.bits .and .u64 m (IntKind.u64.wrap (-m))) = 0 then some [] else
 if Go.bits .andNot .u64 m x = 0 then some [] else
 (zAz.f CU.k L (Go.bits .andNot .u64 m x)).bind fun c => if c = true then
  (zB9.f CU.k x).bind fun a => (zB9.f CU.k (Go.bits .andNot .u64 m x)).bind fun b => some [⟨a, b⟩]
 else some []
def allO (L : List Int) (m : Int) : List Int → Option (List S41)
 | [] => some []
 | x :: r => (ctO L m x).bind fun a => (allO L m r).bind fun b => some (a ++ b)
def sortC (l : List S41) : List S41 := isort (leC befC) l
def okC (l : List S41) : Bool := decide (l.length ≤ 1000) && (l.all fun x => l.all fun y => liaison_Cuts_1.f CU.k x.f0 x.f1 y.f0 y.f1 == some (befC x y)) && decide ((l.map fun x => x.f0).Nodup)
def CU.f (a0 : Int) (l0 : List S68) (l1 : List Int) : Option (List S41 × Int) :=
 (zBx.f CU.k a0 l0 l1).bind fun t => if t.2.2 = 0 then (zAz.f CU.k t.1 t.2.1).bind fun c => if c = true then
  (subs t.2.1 1000 t.2.1).bind fun ms => if ms.all (fun s => (zAz.f CU.k t.1 s).isSome) = true then (allO t.1 t.2.1 (ms.filter (cnB t.1))).bind fun out => if okC out = true then some (sortC out, 0) else none else none
 else some ([], 17) else some ([], t.2.2)
theorem allO_at {L : List Int} {m : Int} : ∀ {l : List Int} {out : List S41}, allO L m l = some out → ∀ x ∈ l, ∃ a, ctO L m x = some a
 | [], _, _, x, hx => by simp at hx
 | y :: r, out, h, x, hx => by
  unfold allO at h
  obtain ⟨a, ha, h⟩ := Option.bind_eq_some_iff.1 h
  obtain ⟨b, hb, h⟩ := Option.bind_eq_some_iff.1 h
  rcases List.mem_cons.1 hx with rfl | hx
  ·exact ⟨a, ha⟩
  ·exact allO_at hb x hx
theorem allO_snoc {L : List Int} {m : Int} : ∀ {l : List Int} {out a : List S41} {x : Int}, allO L m l = some out → ctO L m x = some a → allO L m (l ++ [x]) = some (out ++ a)
 | [], out, a, x, h, hx => by
  simp only [allO, Option.some.injEq] at h
  subst h
  simp [allO, hx]
 | y :: r, out, a, x, h, hx => by
  unfold allO at h
  obtain ⟨p, hp, h⟩ := Option.bind_eq_some_iff.1 h
  obtain ⟨b, hb, h⟩ := Option.bind_eq_some_iff.1 h
  injection h with h
  subst h
  simp only [List.cons_append, allO, hp, Option.bind_some, allO_snoc hb hx, List.append_assoc]
theorem ctO_len {L : List Int} {m x : Int} {a : List S41} (h : ctO L m x = some a) : a.length ≤ 1 := by
 unfold ctO at h
 split at h
 ·injection h with h; subst h; simp
 ·split at h
  ·injection h with h; subst h; simp
  ·obtain ⟨c, _, h⟩ := Option.bind_eq_some_iff.1 h
   split at h
   ·obtain ⟨p, _, h⟩ := Option.bind_eq_some_iff.1 h
    obtain ⟨q, _, h⟩ := Option.bind_eq_some_iff.1 h
    injection h with h; subst h; simp
   ·injection h with h; subst h; simp
theorem allO_len {L : List Int} {m : Int} : ∀ {l : List Int} {out : List S41}, allO L m l = some out → out.length ≤ l.length
 | [], out, h => by
  simp only [allO, Option.some.injEq] at h
  subst h
  simp
 | y :: r, out, h => by
  unfold allO at h
  obtain ⟨p, hp, h⟩ := Option.bind_eq_some_iff.1 h
  obtain ⟨b, hb, h⟩ := Option.bind_eq_some_iff.1 h
  injection h with h
  subst h
  have h1 := ctO_len hp
  have h2 := allO_len hb
  simp only [List.length_append, List.length_cons]
  omega
theorem subs_len (m : Int) : ∀ (q : Nat) (s : Int) (ms : List Int), subs m q s = some ms → ms.length ≤ q
 | 0, _, _, h => by simp [subs] at h
 | q + 1, s, ms, h => by
  unfold subs at h
  split at h
  ·injection h with h; subst h; simp
  ·split at h
   ·obtain ⟨r, hr, h⟩ := Option.bind_eq_some_iff.1 h
    injection h with h
    subst h
    have := subs_len m q _ r hr
    simp; omega
   ·cases h
end
end Go.Proofs.YtbghfbhlbfcloaaDoor.PL
