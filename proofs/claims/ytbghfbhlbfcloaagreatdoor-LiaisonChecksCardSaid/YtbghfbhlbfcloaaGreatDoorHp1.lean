/- Put together by this session's program pack.py. -/
import Derived.Below
import Derived.Deep.Draws
import Derived.Deep.AppendLies
import Derived.Maps.AppendAt
import Derived.OwnWalk
import Derived.Laws.BytesArg
import Derived.Laws.MakeOwn
import Derived.Laws.OwnMore
import Derived.Deep.OwnRows
import Derived.Tactics
import Derived.Lib.ConvBytes
import Derived.Laws.Slices
import Derived.WalkKit
import Derived.KernelRfl
import Derived.RowKit3
import Derived.Deep.LoopGhost
import Derived.Deep.QuietTactic
import Derived.BigQuiet
import Derived.WideLaws
import Derived.Deep.DeepCutAuto
import Derived.Deep.CutBlock
import Derived.Deep.RegionHeld3
import Derived.Laws.Rows
import Derived.Lib.AppendStr
import Derived.ArgAppend
import Derived.Laws.IdiomCopy
import Derived.OrdersHeld
import Derived.Laws.BitsLemmas
import Derived.RowKit
import Derived.Sort.Grow
import Derived.Shelf.SlSortCmp.InsertionK
import Derived.Shelf.SlGeneric
import Derived.Shelf.SlSortCmp.NoneTotal
import Derived.Ground.SlsfProg
import Derived.WalkSpells
import Derived.RangeFuncNested
import Derived.RangeFuncBound
import Derived.RangeFuncCalls
import Derived.RangeFuncLeaves
import Derived.Shelf.Abstract
import Derived.Shelf.RegionOpen
import Derived.OwnWalkIn
import Derived.TacticsInMore
import Derived.LoopNIn
import Derived.LoopIn
import Derived.OrdersIn
import Derived.RangeFuncKeeps
import Derived.RangeFuncWrites
import Derived.Shelf.SlicesQ.IndexFunc
import Derived.Shelf.GgClosure.StringsIndexFuncTop
import Derived.Ground.SlgfProg
import Derived.Ground.GgwProg
import Derived.Test.YtbghfbhlbfcloaaGreatDoorHw0
import Derived.Test.YtbghfbhlbfcloaaGreatDoorHp0
namespace Go.Proofs.YtbghfbhlbfcloaaGreatDoor.PL
section
open Go.RowKit Go.Proofs.YtbghfbhlbfcloaaGreatDoorW.PrintWords Go.Proofs.YtbghfbhlbfcloaaGreatDoorW.PrintLast Go.Proofs.YtbghfbhlbfcloaaGreatDoorW.PrintMore
attribute [local go_sem] zBu zBs zC3 zC2 zBn zBm zBt zBr   -- for this text's walks alone
set_option linter.unusedVariables false
set_option linter.unusedSimpArgs false
def zC7.f (a0 : Int) (a1 : Int) : Option (Int) := (zC1.f a0).bind fun t110 => ((zC1.f a1).bind fun t111 => (if t110 = true then (if t111 = true then (some 0) else (some (-1))) else (if t111 = true then (some 1) else (if a0 < a1 then (some (-1)) else (if a0 > a1 then (some 1) else (some 0))))))
set_option maxHeartbeats 8000000 in
set_option maxRecDepth 100000 in
theorem zC7.calls (a0 : Int) (a1 : Int) (r : Int) (w : World) (h : zC7.f a0 a1 = some r) :
  Calls Tryz.prog 64 #[.int .i64 a0, .int .i64 a1] w fun e w' => e = .returned (.int .i64 r) ∧ zB0 w w' := by
 have H : ((zC1.f a0).bind fun t110 => ((zC1.f a1).bind fun t111 => (if t110 = true then (if t111 = true then (some 0) else (some (-1))) else (if t111 = true then (some 1) else (if a0 < a1 then (some (-1)) else (if a0 > a1 then (some 1) else (some 0))))))) = some r := h
 clear h
 replace H := Option.bind_eq_some_iff.mp H
 obtain ⟨t110, A30, H⟩ := H
 replace H : ((zC1.f a1).bind fun t111 => (if t110 = true then (if t111 = true then (some 0) else (some (-1))) else (if t111 = true then (some 1) else (if a0 < a1 then (some (-1)) else (if a0 > a1 then (some 1) else (some 0)))))) = some r := H
 have A3 := zA2.mk A30
 clear A30
 replace H := Option.bind_eq_some_iff.mp H
 obtain ⟨t111, A40, H⟩ := H
 replace H : (if t110 = true then (if t111 = true then (some 0) else (some (-1))) else (if t111 = true then (some 1) else (if a0 < a1 then (some (-1)) else (if a0 > a1 then (some 1) else (some 0))))) = some r := H
 have A4 := zA2.mk A40
 clear A40
 by_cases c5 : t110 = true
 ·subst c5
  have H1 : (if t111 = true then (some 0) else (some (-1))) = some r := by rw [if_pos rfl] at H; exact H
  clear H
  have H := H1
  clear H1
  by_cases c6 : t111 = true
  ·subst c6
   have H1 : (some 0) = some r := by rw [if_pos rfl] at H; exact H
   clear H
   have H := H1
   clear H1
   obtain rfl := Option.some.inj H
   go_enter Tryz.func64, Tryz.ntmps64
   go_wp2_with (first | ((with_reducible refine zAp (f := 98) rfl ?_); refine zBq (some 8) rfl rfl Tryz.func98 (by kernel_rfl) rfl #[.int .i64 a0] rfl (by (try simp only [List.map_toArray, List.map_cons, List.map_nil]); first | done | rfl | (simp only [List.length_drop, List.length_take]; rfl)) ?_; (with_reducible refine (zC1.calls a0 true _ A3.out).mono ?_); rintro e w' ⟨rfl, ⟨nd, rfl⟩⟩; refine ⟨_, rfl, ?_⟩) | ((with_reducible refine zAp (f := 98) rfl ?_); refine zBq (some 10) rfl rfl Tryz.func98 (by kernel_rfl) rfl #[.int .i64 a1] rfl (by (try simp only [List.map_toArray, List.map_cons, List.map_nil]); first | done | rfl | (simp only [List.length_drop, List.length_take]; rfl)) ?_; (with_reducible refine (zC1.calls a1 true _ A4.out).mono ?_); rintro e w' ⟨rfl, ⟨nd, rfl⟩⟩; refine ⟨_, rfl, ?_⟩))
   go_ret
   exact ⟨by first | rfl | (simp; done) | (simp [*]; done), by repeat (first | exact zB0.refl _ | apply zB0.step)⟩
  ·replace c6 := Bool.eq_false_iff.mpr c6
   subst c6
   have H1 : (some (-1)) = some r := by rw [if_neg (show ¬ (false = true) by decide)] at H; exact H
   clear H
   have H := H1
   clear H1
   obtain rfl := Option.some.inj H
   go_enter Tryz.func64, Tryz.ntmps64
   go_wp2_with (first | ((with_reducible refine zAp (f := 98) rfl ?_); refine zBq (some 8) rfl rfl Tryz.func98 (by kernel_rfl) rfl #[.int .i64 a0] rfl (by (try simp only [List.map_toArray, List.map_cons, List.map_nil]); first | done | rfl | (simp only [List.length_drop, List.length_take]; rfl)) ?_; (with_reducible refine (zC1.calls a0 true _ A3.out).mono ?_); rintro e w' ⟨rfl, ⟨nd, rfl⟩⟩; refine ⟨_, rfl, ?_⟩) | ((with_reducible refine zAp (f := 98) rfl ?_); refine zBq (some 10) rfl rfl Tryz.func98 (by kernel_rfl) rfl #[.int .i64 a1] rfl (by (try simp only [List.map_toArray, List.map_cons, List.map_nil]); first | done | rfl | (simp only [List.length_drop, List.length_take]; rfl)) ?_; (with_reducible refine (zC1.calls a1 false _ A4.out).mono ?_); rintro e w' ⟨rfl, ⟨nd, rfl⟩⟩; refine ⟨_, rfl, ?_⟩))
   go_ret
   exact ⟨by first | rfl | (simp; done) | (simp [*]; done), by repeat (first | exact zB0.refl _ | apply zB0.step)⟩
 ·replace c5 := Bool.eq_false_iff.mpr c5
  subst c5
  have H1 : (if t111 = true then (some 1) else (if a0 < a1 then (some (-1)) else (if a0 > a1 then (some 1) else (some 0)))) = some r := by rw [if_neg (show ¬ (false = true) by decide)] at H; exact H
  clear H
  have H := H1
  clear H1
  by_cases c7 : t111 = true
  ·subst c7
   have H1 : (some 1) = some r := by rw [if_pos rfl] at H; exact H
   clear H
   have H := H1
   clear H1
   obtain rfl := Option.some.inj H
   go_enter Tryz.func64, Tryz.ntmps64
   go_wp2_with (first | ((with_reducible refine zAp (f := 98) rfl ?_); refine zBq (some 8) rfl rfl Tryz.func98 (by kernel_rfl) rfl #[.int .i64 a0] rfl (by (try simp only [List.map_toArray, List.map_cons, List.map_nil]); first | done | rfl | (simp only [List.length_drop, List.length_take]; rfl)) ?_; (with_reducible refine (zC1.calls a0 false _ A3.out).mono ?_); rintro e w' ⟨rfl, ⟨nd, rfl⟩⟩; refine ⟨_, rfl, ?_⟩) | ((with_reducible refine zAp (f := 98) rfl ?_); refine zBq (some 10) rfl rfl Tryz.func98 (by kernel_rfl) rfl #[.int .i64 a1] rfl (by (try simp only [List.map_toArray, List.map_cons, List.map_nil]); first | done | rfl | (simp only [List.length_drop, List.length_take]; rfl)) ?_; (with_reducible refine (zC1.calls a1 true _ A4.out).mono ?_); rintro e w' ⟨rfl, ⟨nd, rfl⟩⟩; refine ⟨_, rfl, ?_⟩))
   go_ret
   exact ⟨by first | rfl | (simp; done) | (simp [*]; done), by repeat (first | exact zB0.refl _ | apply zB0.step)⟩
  ·replace c7 := Bool.eq_false_iff.mpr c7
   subst c7
   have H1 : (if a0 < a1 then (some (-1)) else (if a0 > a1 then (some 1) else (some 0))) = some r := by rw [if_neg (show ¬ (false = true) by decide)] at H; exact H
   clear H
   have H := H1
   clear H1
   by_cases c8 : a0 < a1
   ·rw [if_pos c8] at H
    have c8b0 : decide (a0 < a1) = true := decide_eq_true c8
    clear c8
    obtain rfl := Option.some.inj H
    go_enter Tryz.func64, Tryz.ntmps64
    go_wp2_with (first | ((with_reducible refine zAp (f := 98) rfl ?_); refine zBq (some 8) rfl rfl Tryz.func98 (by kernel_rfl) rfl #[.int .i64 a0] rfl (by (try simp only [List.map_toArray, List.map_cons, List.map_nil]); first | done | rfl | (simp only [List.length_drop, List.length_take]; rfl)) ?_; (with_reducible refine (zC1.calls a0 false _ A3.out).mono ?_); rintro e w' ⟨rfl, ⟨nd, rfl⟩⟩; refine ⟨_, rfl, ?_⟩) | ((with_reducible refine zAp (f := 98) rfl ?_); refine zBq (some 10) rfl rfl Tryz.func98 (by kernel_rfl) rfl #[.int .i64 a1] rfl (by (try simp only [List.map_toArray, List.map_cons, List.map_nil]); first | done | rfl | (simp only [List.length_drop, List.length_take]; rfl)) ?_; (with_reducible refine (zC1.calls a1 false _ A4.out).mono ?_); rintro e w' ⟨rfl, ⟨nd, rfl⟩⟩; refine ⟨_, rfl, ?_⟩))
    go_ret
    exact ⟨by first | rfl | (simp; done) | (simp [*]; done), by repeat (first | exact zB0.refl _ | apply zB0.step)⟩
   ·rw [if_neg c8] at H
    have c8b0 : decide (a0 < a1) = false := decide_eq_false c8
    clear c8
    by_cases c9 : a0 > a1
    ·rw [if_pos c9] at H
     have c9b0 : decide (a1 < a0) = true := decide_eq_true c9
     clear c9
     obtain rfl := Option.some.inj H
     go_enter Tryz.func64, Tryz.ntmps64
     go_wp2_with (first | ((with_reducible refine zAp (f := 98) rfl ?_); refine zBq (some 8) rfl rfl Tryz.func98 (by kernel_rfl) rfl #[.int .i64 a0] rfl (by (try simp only [List.map_toArray, List.map_cons, List.map_nil]); first | done | rfl | (simp only [List.length_drop, List.length_take]; rfl)) ?_; (with_reducible refine (zC1.calls a0 false _ A3.out).mono ?_); rintro e w' ⟨rfl, ⟨nd, rfl⟩⟩; refine ⟨_, rfl, ?_⟩) | ((with_reducible refine zAp (f := 98) rfl ?_); refine zBq (some 10) rfl rfl Tryz.func98 (by kernel_rfl) rfl #[.int .i64 a1] rfl (by (try simp only [List.map_toArray, List.map_cons, List.map_nil]); first | done | rfl | (simp only [List.length_drop, List.length_take]; rfl)) ?_; (with_reducible refine (zC1.calls a1 false _ A4.out).mono ?_); rintro e w' ⟨rfl, ⟨nd, rfl⟩⟩; refine ⟨_, rfl, ?_⟩))
     go_ret
     exact ⟨by first | rfl | (simp; done) | (simp [*]; done), by repeat (first | exact zB0.refl _ | apply zB0.step)⟩
    ·rw [if_neg c9] at H
     have c9b0 : decide (a1 < a0) = false := decide_eq_false c9
     clear c9
     obtain rfl := Option.some.inj H
     go_enter Tryz.func64, Tryz.ntmps64
     go_wp2_with (first | ((with_reducible refine zAp (f := 98) rfl ?_); refine zBq (some 8) rfl rfl Tryz.func98 (by kernel_rfl) rfl #[.int .i64 a0] rfl (by (try simp only [List.map_toArray, List.map_cons, List.map_nil]); first | done | rfl | (simp only [List.length_drop, List.length_take]; rfl)) ?_; (with_reducible refine (zC1.calls a0 false _ A3.out).mono ?_); rintro e w' ⟨rfl, ⟨nd, rfl⟩⟩; refine ⟨_, rfl, ?_⟩) | ((with_reducible refine zAp (f := 98) rfl ?_); refine zBq (some 10) rfl rfl Tryz.func98 (by kernel_rfl) rfl #[.int .i64 a1] rfl (by (try simp only [List.map_toArray, List.map_cons, List.map_nil]); first | done | rfl | (simp only [List.length_drop, List.length_take]; rfl)) ?_; (with_reducible refine (zC1.calls a1 false _ A4.out).mono ?_); rintro e w' ⟨rfl, ⟨nd, rfl⟩⟩; refine ⟨_, rfl, ?_⟩))
     go_ret
     exact ⟨by first | rfl | (simp; done) | (simp [*]; done), by repeat (first | exact zB0.refl _ | apply zB0.step)⟩
end
end Go.Proofs.YtbghfbhlbfcloaaGreatDoor.PL
namespace Go.Proofs.YtbghfbhlbfcloaaGreatDoor.PL
section
open Go.RowKit Go.Proofs.YtbghfbhlbfcloaaGreatDoorW.PrintWords Go.Proofs.YtbghfbhlbfcloaaGreatDoorW.PrintLast Go.Proofs.YtbghfbhlbfcloaaGreatDoorW.PrintMore
attribute [local go_sem] zBu zBs zC3 zC2 zBn zBm zBt zBr   -- for this text's walks alone
set_option linter.unusedVariables false
set_option linter.unusedSimpArgs false
def zBx.f (k : Nat) (a0_0 : Int) (a0_1 : Int) (a1_0 : Int) (a1_1 : Int) : Option (Int) := (zC7.f a0_0 a1_0).bind fun t114 => ((zC7.f a0_1 a1_1).bind fun t115 => ((zBy.f k (([t114, t115] : List Int))).bind fun t119 => (some t119)))
theorem zBx.mono : ∀ a0 a1 a2 a3 k, LeO (zBx.f k a0 a1 a2 a3) (zBx.f (k + 1) a0 a1 a2 a3) := by
 intro a0 a1 a2 a3 k
 unfold zBx.f
 repeat' first
   | (with_reducible exact zBy.mono _ _)
   | (with_reducible exact LeO.refl _)
   | (with_reducible exact LeO.none _)
   | (with_reducible refine LeO.ite ?_ ?_)
   | (with_reducible refine LeO.bind ?_ (fun _ => ?_))
def zBx.T1 : Bool × List (List Nat × List Nat) := (true, [([], []), ([0], [0]), ([], []), ([2], [2]), ([1, 3], [1, 3]), ([], []), ([5], [5]), ([], []), ([7], [7]), ([6, 8, 4], [6, 8]), ([4, 9], [4, 9]), ([10, 9], [10]), ([11, 11, 0, 1, 2, 3, 4, 5, 6, 7, 8, 9, 10, 11], [11])])
def zBx.B1 : List Nat := [0, 1, 0, 4, 15, 0, 32, 0, 128, 511, 1023, 2047, 4095]
theorem zBx.tab1 : rtab .any (opsOf Tryz.f45 1) = zBx.T1 := by kernel_rfl
theorem zBx.bits1 : waitsOk zBx.T1.2 zBx.B1 = true := by kernel_rfl
set_option maxHeartbeats 8000000 in
set_option maxRecDepth 100000 in
theorem zBx.exact (k : Nat) (a0_0 : Int) (a0_1 : Int) (a1_0 : Int) (a1_1 : Int) (r : Int) (w : World) (h : zBx.f k a0_0 a0_1 a1_0 a1_1 = some r) :
  Calls Tryz.prog 45 #[.agg #[.int .i64 a0_0, .int .i64 a0_1], .agg #[.int .i64 a1_0, .int .i64 a1_1]] w fun e w' => e = .returned (.int .i64 r) ∧ Below w.heap.size w w' ∧ Gr w w' := by
 have hu58 := Tryz.underlying58
 have HB := zA2.mk (Below.refl w.heap.size w)
 have HX := zA2.mk (Gr.refl w)
 have H : ((zC7.f a0_0 a1_0).bind fun t114 => ((zC7.f a0_1 a1_1).bind fun t115 => ((zBy.f k (([t114, t115] : List Int))).bind fun t119 => (some t119)))) = some r := h
 clear h
 replace H := Option.bind_eq_some_iff.mp H
 obtain ⟨t114, A30, H⟩ := H
 replace H : ((zC7.f a0_1 a1_1).bind fun t115 => ((zBy.f k (([t114, t115] : List Int))).bind fun t119 => (some t119))) = some r := H
 have A3 := zA2.mk A30
 clear A30
 replace H := Option.bind_eq_some_iff.mp H
 obtain ⟨t115, A40, H⟩ := H
 replace H : ((zBy.f k (([t114, t115] : List Int))).bind fun t119 => (some t119)) = some r := H
 have A4 := zA2.mk A40
 clear A40
 obtain ⟨y116, hy116⟩ : ∃ y_ : List Int, y_ = (([t114, t115] : List Int)) := ⟨_, rfl⟩
 replace H : ((zBy.f k y116).bind fun t119 => (some t119)) = some r := by first | (rw [hy116]; with_reducible exact H) | (have H2_ := (Option.bind_some _ _).symm.trans H; rw [hy116]; with_reducible exact H2_) | (have H2_ := (Option.bind_some _ _).symm.trans H; with_reducible exact H2_) | with_reducible exact H | (rw [hy116]; exact H) | exact H
 have Ny116 := zA2.mk hy116
 clear hy116
 replace H := Option.bind_eq_some_iff.mp H
 obtain ⟨t119, A50, H⟩ := H
 replace H : (some t119) = some r := H
 have A5 := zA2.mk A50
 clear A50
 obtain rfl := Option.some.inj H
 go_enter Tryz.func45, Tryz.ntmps45
 try go_wp2_with (first | ((with_reducible refine zBl (N := 2) rfl ?_); refine box_eventG ?hg (N := 2) ?hd (cs := #[.int .i64 a0_0, .int .i64 a0_1]) (t := 58) ?hr ?_; (case hd => rfl); (case hg => rfl); (case hr => first | (go_simp; done) | (go_simp; rfl)); intro gb112 hg w6 hbox hb hgr; have HX0 := zA2.mk (Gr.trans (by repeat (first | (with_reducible first | exact HX.out | apply Gr.alloc | apply Gr.drewN | apply Gr.drew) | exact HX.out)) hgr); clear hgr; clear HX; have HX := HX0; clear HX0; have n0_ := zA2.mk (zAe (by repeat (first | (with_reducible first | exact HB.out | apply zA1 | apply zA0 | apply zA3) | exact HB.out)) hb); have n1_ := zA2.mk (hbox); have n2_ := zA2.mk ((by rw [hg]; exact (zAb (by repeat (first | (with_reducible first | exact HB.out | apply zA1 | apply zA0 | apply zA3) | exact HB.out))) : w.heap.size ≤ gb112)); have n3_ := zA2.mk ((by rw [hg]; exact (zAb (by repeat (first | (with_reducible first | exact HB.out | apply zA1 | apply zA0 | apply zA3) | exact HB.out))) : w.heap.size ≤ gb112)); clear HB; have HB := n0_; have BK112 := n1_; have GW112 := n2_; have GE112 := n3_; clear n0_ n1_ n2_ n3_; clear hb hbox hg) | ((with_reducible refine zBl (N := 3) rfl ?_); refine box_eventG ?hg (N := 3) ?hd (cs := #[.int .i64 a1_0, .int .i64 a1_1]) (t := 58) ?hr ?_; (case hd => rfl); (case hg => rfl); (case hr => first | (go_simp; done) | (go_simp; rfl)); intro gb113 hg w7 hbox hb hgr; have HX0 := zA2.mk (Gr.trans (by repeat (first | (with_reducible first | exact HX.out | apply Gr.alloc | apply Gr.drewN | apply Gr.drew) | exact HX.out)) hgr); clear hgr; clear HX; have HX := HX0; clear HX0; have n0_ := zA2.mk (zAl (g := gb112) (o := .cells #[.int .i64 a0_0, .int .i64 a0_1] 58 (0, 0)) (by (with_reducible repeat (first | refine zA6 ?_ _ | refine zA8 ?_ | refine zA5 ?_ _)); exact BK112.out) hb); have n1_ := zA2.mk (zAe (by repeat (first | (with_reducible first | exact HB.out | apply zA1 | apply zA0 | apply zA3 | refine zA4 ?_ GE112.out) | exact HB.out)) hb); have n2_ := zA2.mk (hbox); have n3_ := zA2.mk ((by rw [hg]; exact (zAb (by repeat (first | (with_reducible first | exact HB.out | apply zA1 | apply zA0 | apply zA3 | refine zA4 ?_ GE112.out) | exact HB.out))) : w.heap.size ≤ gb113)); have n4_ := zA2.mk ((by rw [hg]; exact (zAb (by repeat (first | (with_reducible first | exact HB.out | apply zA1 | apply zA0 | apply zA3 | refine zA4 ?_ GE112.out) | exact HB.out))) : w.heap.size ≤ gb113)); have n5_ := zA2.mk ((by rw [hg]; exact Nat.ne_of_lt (zC8 (g := gb112) (o := .cells #[.int .i64 a0_0, .int .i64 a0_1] 58 (0, 0)) (by (with_reducible repeat (first | refine zA6 ?_ _ | refine zA8 ?_ | refine zA5 ?_ _)); exact BK112.out)) : gb112 ≠ gb113)); have n6_ := zA2.mk ((by rw [hg]; exact Nat.ne_of_gt (zC8 (g := gb112) (o := .cells #[.int .i64 a0_0, .int .i64 a0_1] 58 (0, 0)) (by (with_reducible repeat (first | refine zA6 ?_ _ | refine zA8 ?_ | refine zA5 ?_ _)); exact BK112.out)) : gb113 ≠ gb112)); clear BK112; clear HB; have BK112 := n0_; have HB := n1_; have BK113 := n2_; have GW113 := n3_; have GE113 := n4_; have NB112_113 := n5_; have NB113_112 := n6_; clear n0_ n1_ n2_ n3_ n4_ n5_ n6_; clear hb hbox hg))
 have n0_ := zA2.mk (zA8 BK112.out)
 have n1_ := zA2.mk (zA8 BK113.out)
 have n2_ := zA2.mk (zA3 HB.out)
 have HX0 := zA2.mk (Gr.drew HX.out)
 clear HX
 have HX := HX0
 clear HX0
 clear BK112
 clear BK113
 clear HB
 have BK112 := n0_
 have BK113 := n1_
 have HB := n2_
 clear n0_ n1_ n2_
 refine start_ (n := 13) (S := fun w' => w'.cell? ⟨gb112, 0, none⟩ = some (.int .i64 a0_0) ∧ w'.cell? ⟨gb112, 1, none⟩ = some (.int .i64 a0_1) ∧ w'.cell? ⟨gb113, 0, none⟩ = some (.int .i64 a1_0) ∧ w'.cell? ⟨gb113, 1, none⟩ = some (.int .i64 a1_1)) (ds := []) #[false, false, false, false, false, false, false, false, false, false, false, false, false] (by kernel_rfl) rfl rfl ⟨(zA7 BK112.out 0).trans rfl, (zA7 BK112.out 1).trans rfl, (zA7 BK113.out 0).trans rfl, (zA7 BK113.out 1).trans rfl⟩ (fun hHeld => ?_); refine with_tabW zBx.tab1 zBx.bits1 (fun HT_ HW_ => ?_)
 generalize w7.drew = w8 at BK112 BK113 HB HX hHeld ⊢
 refine pure_ (i := 0) (N := some 5) (v := ?_) (a' := ?_) #[true, false, false, false, false, false, false, false, false, false, false, false, false] rfl rfl (zBe HT_.out (by kernel_rfl)) (fun _ _ _ h => h) (Or.inl ⟨by rfl, ?_⟩) ?_ ?_
 rotate_left
 ·intro w'
  go_simp
  with_reducible rfl
 rotate_left
 ·simp only [Act.put, List.setIfInBounds_toArray, List.set_cons_zero, List.set_cons_succ, i64_w, i32_w]
  rfl
 refine pure_ (i := 2) (N := some 7) (v := ?_) (a' := ?_) #[true, false, true, false, false, false, false, false, false, false, false, false, false] rfl rfl (zBe HT_.out (by kernel_rfl)) (fun _ _ _ h => h) (Or.inl ⟨by rfl, ?_⟩) ?_ ?_
 rotate_left
 ·intro w'
  go_simp
  with_reducible rfl
 rotate_left
 ·simp only [Act.put, List.setIfInBounds_toArray, List.set_cons_zero, List.set_cons_succ, i64_w, i32_w]
  rfl
 refine pure_ (i := 5) (N := some 10) (v := ?_) (a' := ?_) #[true, false, true, false, false, true, false, false, false, false, false, false, false] rfl rfl (zBe HT_.out (by kernel_rfl)) (fun _ _ _ h => h) (Or.inl ⟨by rfl, ?_⟩) ?_ ?_
 rotate_left
 ·intro w'
  go_simp
  with_reducible rfl
 rotate_left
 ·simp only [Act.put, List.setIfInBounds_toArray, List.set_cons_zero, List.set_cons_succ, i64_w, i32_w]
  rfl
 refine pure_ (i := 7) (N := some 12) (v := ?_) (a' := ?_) #[true, false, true, false, false, true, false, true, false, false, false, false, false] rfl rfl (zBe HT_.out (by kernel_rfl)) (fun _ _ _ h => h) (Or.inl ⟨by rfl, ?_⟩) ?_ ?_
 rotate_left
 ·intro w'
  go_simp
  with_reducible rfl
 rotate_left
 ·simp only [Act.put, List.setIfInBounds_toArray, List.set_cons_zero, List.set_cons_succ, i64_w, i32_w]
  rfl
 refine take_ (i := 1) (N := some 6) (v := ?_) (a' := ?_) #[true, true, true, false, false, true, false, true, false, false, false, false, false] rfl rfl (zC0 HT_.out HW_.out (by kernel_rfl)) (fun _ _ _ h => h) (Or.inl ⟨by rfl, ?_⟩) hHeld ?_ ?_
 rotate_left
 ·rintro w' ⟨s0, s1, s2, s3⟩
  go_simp
  with_reducible rfl
 rotate_left
 ·simp only [Act.put, List.setIfInBounds_toArray, List.set_cons_zero, List.set_cons_succ, i64_w, i32_w]
  rfl
 refine take_ (i := 3) (N := some 8) (v := ?_) (a' := ?_) #[true, true, true, true, false, true, false, true, false, false, false, false, false] rfl rfl (zC0 HT_.out HW_.out (by kernel_rfl)) (fun _ _ _ h => h) (Or.inl ⟨by rfl, ?_⟩) hHeld ?_ ?_
 rotate_left
 ·rintro w' ⟨s0, s1, s2, s3⟩
  go_simp
  with_reducible rfl
 rotate_left
 ·simp only [Act.put, List.setIfInBounds_toArray, List.set_cons_zero, List.set_cons_succ, i64_w, i32_w]
  rfl
 refine take_ (i := 6) (N := some 11) (v := ?_) (a' := ?_) #[true, true, true, true, false, true, true, true, false, false, false, false, false] rfl rfl (zC0 HT_.out HW_.out (by kernel_rfl)) (fun _ _ _ h => h) (Or.inl ⟨by rfl, ?_⟩) hHeld ?_ ?_
 rotate_left
 ·rintro w' ⟨s0, s1, s2, s3⟩
  go_simp
  with_reducible rfl
 rotate_left
 ·simp only [Act.put, List.setIfInBounds_toArray, List.set_cons_zero, List.set_cons_succ, i64_w, i32_w]
  rfl
 refine take_ (i := 8) (N := some 13) (v := ?_) (a' := ?_) #[true, true, true, true, false, true, true, true, true, false, false, false, false] rfl rfl (zC0 HT_.out HW_.out (by kernel_rfl)) (fun _ _ _ h => h) (Or.inl ⟨by rfl, ?_⟩) hHeld ?_ ?_
 rotate_left
 ·rintro w' ⟨s0, s1, s2, s3⟩
  go_simp
  with_reducible rfl
 rotate_left
 ·simp only [Act.put, List.setIfInBounds_toArray, List.set_cons_zero, List.set_cons_succ, i64_w, i32_w]
  rfl
 refine one_ (i := 4) (N := some 9) #[true, true, true, true, true, true, true, true, true, false, false, false, false] rfl rfl (one_of HT_.out (by kernel_rfl)) (by decide) (fun K hK => ?_)
 refine goes_ Tryz.func64 (by kernel_rfl) rfl #[.int .i64 a0_0, .int .i64 a1_0] (by rfl) rfl rfl (by (try simp only [List.map_toArray, List.map_cons, List.map_nil]); first | done | rfl | (simp only [List.length_drop, List.length_take]; rfl)) ?_
 with_reducible refine (zC7.calls a0_0 a1_0 t114 _ A3.out).mono ?_
 rintro e w' ⟨rfl, ⟨nd, rfl⟩⟩
 refine ⟨_, rfl, ?_⟩
 refine hK.out _ _ ⟨(zA7 BK112.out 0).trans rfl, (zA7 BK112.out 1).trans rfl, (zA7 BK113.out 0).trans rfl, (zA7 BK113.out 1).trans rfl⟩ (fun hHeld => ?_)
 clear hK K
 refine norm_ (a' := ?_) ?_ ?_
 rotate_left
 ·show Act.put _ (some 9) _ = _
  simp only [Act.put, List.setIfInBounds_toArray, List.set_cons_zero, List.set_cons_succ, i64_w, i32_w]
  rfl
 refine one_ (i := 9) (N := some 14) #[true, true, true, true, true, true, true, true, true, true, false, false, false] rfl rfl (one_of HT_.out (by kernel_rfl)) (by decide) (fun K hK => ?_)
 refine goes_ Tryz.func64 (by kernel_rfl) rfl #[.int .i64 a0_1, .int .i64 a1_1] (by rfl) rfl rfl (by (try simp only [List.map_toArray, List.map_cons, List.map_nil]); first | done | rfl | (simp only [List.length_drop, List.length_take]; rfl)) ?_
 with_reducible refine (zC7.calls a0_1 a1_1 t115 _ A4.out).mono ?_
 rintro e w' ⟨rfl, ⟨nd, rfl⟩⟩
 refine ⟨_, rfl, ?_⟩
 refine hK.out _ _ ⟨(zA7 BK112.out 0).trans rfl, (zA7 BK112.out 1).trans rfl, (zA7 BK113.out 0).trans rfl, (zA7 BK113.out 1).trans rfl⟩ (fun hHeld => ?_)
 clear hK K
 refine norm_ (a' := ?_) ?_ ?_
 rotate_left
 ·show Act.put _ (some 14) _ = _
  simp only [Act.put, List.setIfInBounds_toArray, List.set_cons_zero, List.set_cons_succ, i64_w, i32_w]
  rfl
 refine one_ (i := 10) (N := some 15) #[true, true, true, true, true, true, true, true, true, true, true, false, false] rfl rfl (one_of HT_.out (by kernel_rfl)) (by decide) (fun K hK => ?_)
 refine R_lit_stepG (Kd.int .i64) _ 3 ?hg (N := 15) ?hd (xs := ([t114, t115] : List Int)) (inner := [.int .i64 t114, .int .i64 t115]) (ok := fun _ => True) (okp := fun _ => True) ?hr ?hp (fun _ hk => hk) trivial (Below.refl _ _) (Nat.le_refl _) (by simp) ?_; (case hd => rfl); (case hg => rfl); (case hr => first | (go_simp; done) | (go_simp; rfl)); (case hp => exact (Reps.one (show Kd.M (Kd.int .i64) _ _ _ t114 [.int .i64 t114] from rfl) (Reps.one (show Kd.M (Kd.int .i64) _ _ _ t115 [.int .i64 t115] from rfl) (Reps.none _ _))))
 intro v117 w9 ho10 hb hg_ hnew_ hgr
 have HX0 := zA2.mk (Gr.trans (by repeat (first | (with_reducible first | exact HX.out | apply Gr.alloc | apply Gr.drewN | apply Gr.drew) | exact HX.out)) hgr)
 clear hgr
 clear HX
 have HX := HX0
 clear HX0
 clear hg_ hnew_
 (first | rw [← Ny116.out] at ho10 | (simp only [Int.reduceToNat] at ho10; rw [← Ny116.out] at ho10))
 have n0_ := zA2.mk (Kd.R_lower ho10 (zAb (by repeat (first | (with_reducible first | exact HB.out | apply zA1 | apply zA0 | apply zA3 | refine zA4 ?_ GE112.out | refine zA4 ?_ GE113.out) | exact HB.out))))
 have n1_ := zA2.mk (zAl (g := gb112) (o := .cells #[.int .i64 a0_0, .int .i64 a0_1] 58 (0, 0)) (by (with_reducible repeat (first | refine zA6 ?_ _ | refine zA8 ?_ | refine zA5 ?_ _)); exact BK112.out) hb)
 have n2_ := zA2.mk (zAl (g := gb113) (o := .cells #[.int .i64 a1_0, .int .i64 a1_1] 58 (0, 0)) (by (with_reducible repeat (first | refine zA6 ?_ _ | refine zA8 ?_ | refine zA5 ?_ _)); exact BK113.out) hb)
 have n3_ := zA2.mk (zAe (by repeat (first | (with_reducible first | exact HB.out | apply zA1 | apply zA0 | apply zA3 | refine zA4 ?_ GE112.out | refine zA4 ?_ GE113.out) | exact HB.out)) hb)
 clear BK112
 clear BK113
 clear HB
 have HO118 := n0_
 have BK112 := n1_
 have BK113 := n2_
 have HB := n3_
 clear n0_ n1_ n2_ n3_
 clear hb ho10
 obtain ⟨Ao11, co11, eo11⟩ := Kd.zCa HO118.out
 (first | subst eo11 | (injection eo11 with f1_ f2_ f3_; have f4_ := f1_.symm; have f5_ := f3_.symm; clear f1_ f2_ f3_; subst f4_; subst f5_))
 refine hK.out _ _ ⟨(zA7 BK112.out 0).trans rfl, (zA7 BK112.out 1).trans rfl, (zA7 BK113.out 0).trans rfl, (zA7 BK113.out 1).trans rfl⟩ (fun hHeld => ?_)
 clear hK K
 refine norm_ (a' := ?_) ?_ ?_
 rotate_left
 ·show Act.put _ (some 15) _ = _
  simp only [Act.put, List.setIfInBounds_toArray, List.set_cons_zero, List.set_cons_succ, i64_w, i32_w]
  rfl
 refine one_ (i := 11) (N := some 16) #[true, true, true, true, true, true, true, true, true, true, true, true, false] rfl rfl (one_of HT_.out (by kernel_rfl)) (by decide) (fun K hK => ?_)
 refine goes_ Tryz.func63 (by kernel_rfl) rfl #[.slice Ao11 y116.length co11] (by rfl) rfl rfl (by (try simp only [List.map_toArray, List.map_cons, List.map_nil]); first | done | rfl | (simp only [List.length_drop, List.length_take]; rfl)) ?_
 with_reducible refine (zBy.calls k _ _ y116 t119 _ ?side1 ?side2 A5.out).mono ?_
 (case side1 => repeat (first | exact (Kd.zBp HO118.out).2.2 | (with_reducible refine Kd.zAj ?_ _) | (with_reducible refine Kd.zAs ?_ _) | (with_reducible refine Kd.zB2 ?_)))
 (case side2 => exact (Kd.zBp HO118.out).2.1)
 rintro e w' ⟨rfl, ⟨nd, rfl⟩⟩
 refine ⟨_, rfl, ?_⟩
 refine hK.out _ _ ⟨(zA7 BK112.out 0).trans rfl, (zA7 BK112.out 1).trans rfl, (zA7 BK113.out 0).trans rfl, (zA7 BK113.out 1).trans rfl⟩ (fun hHeld => ?_)
 clear hK K
 refine norm_ (a' := ?_) ?_ ?_
 rotate_left
 ·show Act.put _ (some 16) _ = _
  simp only [Act.put, List.setIfInBounds_toArray, List.set_cons_zero, List.set_cons_succ, i64_w, i32_w]
  rfl
 refine pure_ (i := 12) (N := some 4) (v := ?_) (a' := ?_) #[true, true, true, true, true, true, true, true, true, true, true, true, true] rfl rfl (zBe HT_.out (by kernel_rfl)) (fun _ _ _ h => h) (Or.inl ⟨by rfl, ?_⟩) ?_ ?_
 rotate_left
 ·intro w'
  go_simp
  with_reducible rfl
 rotate_left
 ·simp only [Act.put, List.setIfInBounds_toArray, List.set_cons_zero, List.set_cons_succ, i64_w, i32_w]
  rfl
 refine done_ (done_of HT_.out (by kernel_rfl)) ?_
 try go_wp2
 go_ret
 exact ⟨by first | rfl | (simp [zAr, zAq] <;> rfl) | (simp [*, zAr, zAq] <;> rfl), by repeat (first | (with_reducible first | exact HB.out | apply zA1 | apply zA0 | apply zA3 | refine zA4 ?_ GE112.out | refine zA4 ?_ GE113.out) | exact HB.out), (by repeat (first | (with_reducible first | exact HX.out | apply Gr.alloc | apply Gr.drewN | apply Gr.drew) | exact HX.out))⟩
theorem zBx.calls (k : Nat) (a0_0 : Int) (a0_1 : Int) (a1_0 : Int) (a1_1 : Int) (r : Int) (w : World) (h : zBx.f k a0_0 a0_1 a1_0 a1_1 = some r) :
  Calls Tryz.prog 45 #[.agg #[.int .i64 a0_0, .int .i64 a0_1], .agg #[.int .i64 a1_0, .int .i64 a1_1]] w fun e w' => e = .returned (.int .i64 r) ∧ Below w.heap.size w w' :=
 (zBx.exact k a0_0 a0_1 a1_0 a1_1 r w h).mono fun _ _ h_ => ⟨h_.1, h_.2.1⟩
end
end Go.Proofs.YtbghfbhlbfcloaaGreatDoor.PL
namespace Go.Proofs.YtbghfbhlbfcloaaGreatDoor.PL
section
open Go.RowKit Go.Sort Go.Proofs Go.Proofs.YtbghfbhlbfcloaaGreatDoorW.PrintWords Go.Proofs.YtbghfbhlbfcloaaGreatDoorW.PrintLast Go.Proofs.YtbghfbhlbfcloaaGreatDoorW.PrintMore
set_option linter.unusedVariables false
set_option linter.unusedSimpArgs false
theorem sixteen : 0 < 16 := by decide
theorem info68m : (Tryz.prog.info? 58).map (fun i => (i.zero, i.size, i.bytes)) = some (some (.agg #[.int .i64 0, .int .i64 0]), 2, 16) := by kernel_rfl
theorem emptyE (w : World) : Kd.R k58 58 (w.alloc (.cells #[] 58)) w.heap.size (fun _ => True) (.slice (some ⟨w.heap.size, 0, none⟩) 0 0) [] :=
 ⟨fun _ _ => trivial, OwnRow.lit w w.heap.size (Reps.none _ _) (Nat.le_refl _) (by simp)⟩
set_option maxHeartbeats 1000000 in
theorem cloneE (A : Option Addr) (c : Nat) (l : List S58) (w : World) (hr : Kd.C k58 w A l.length l) (hc : l.length ≤ c) (hl : l.length ≤ 1000) :
  Calls Tryz.prog 43 #[.slice A l.length c] w fun e w' => ∃ v, e = .returned v ∧ Kd.R k58 58 w' w.heap.size (fun _ => True) v l ∧ Below w.heap.size w w' := by
 rcases A with _ | ad
 ·have h0 : l = [] := by
   rcases Nat.eq_zero_or_pos l.length with h | h
   ·exact List.eq_nil_of_length_eq_zero h
   ·obtain ⟨ad, e, _⟩ := hr.2.2 h
    cases e
  subst h0
  have he := @Lib.run_eql_slice_nil Tryz.prog
  go_enter Tryz.func43, Tryz.ntmps43
  go_wp2
  go_ret
  exact ⟨_, rfl, Kd.R_nil _ _ _ _ _, Below.refl _ _⟩
 ·have HR := zA2.mk hr
  have HL := zA2.mk hl
  have HC := zA2.mk hc
  clear hr hl hc
  have he := Lib.run_eql_slice_nil (P := Tryz.prog) (t := 26) (e := 58) (h := Tryz.underlying26)
  go_enter Tryz.func43, Tryz.ntmps43
  go_wp2_with (at_builtin; go_loud (refine Kd.R_append_rows k58 (Rr := k58.K (w.alloc (.cells #[] 58))) (w0 := w) w.heap.size rfl (.tmp 5) (.tmp 6) 26 58 (.agg #[.int .i64 0, .int .i64 0]) 16 rfl Tryz.underlying26 info68m rfl Nat.zero_lt_two sixteen (.slice (some ⟨w.heap.size, 0, none⟩) 0 0) [] l (some ad) l.length c (fun _ => True) (fun _ => False) rfl rfl ?aO ?aR ?aK ?aN ?aF ?aB ?aS ?aL ?_); (case aO => exact emptyE w); (case aR => exact (Kd.zAj HR.out _)); (case aK => intro x cs hK; obtain rfl := k58_open hK; exact k58_mkM _ _ _ _); (case aN => exact fun _ h => h.elim); (case aF => exact fun _ _ => trivial); (case aB => exact zA1 (Below.refl _ _) _); (case aS => simp); (case aL => have := HL.out; simp; omega); intro v1 w1 ho hb hg hat)
  go_ret
  exact ⟨_, rfl, ho, hb⟩
def adjB : List S58 → Bool
 | a :: b :: r => !(a.f0 == b.f0 && a.f1 == b.f1) && adjB (b :: r)
 | _ => true
theorem adj_at : ∀ (l : List S58) (k : Nat), adjB l = true → 1 ≤ k → k < l.length → ((zAu l (k : Int)).f0 == (zAu l ((k : Int) - 1)).f0 && (zAu l (k : Int)).f1 == (zAu l ((k : Int) - 1)).f1) = false
 | [], k, _, _, h => by simp at h
 | [a], k, _, h1, h => by simp at h; omega
 | a :: b :: r, k, hadj, h1, h => by
  simp only [adjB, Bool.and_eq_true] at hadj
  by_cases hk : k = 1
  ·subst hk
   have h2 := hadj.1
   simp only [Bool.not_eq_true'] at h2
   have e1 : zAu (a :: b :: r) ((1 : Nat) : Int) = b := rfl
   have e2 : zAu (a :: b :: r) (((1 : Nat) : Int) - 1) = a := rfl
   rw [e1, e2]
   rw [← h2]
   congr 1
   ·exact Bool.beq_comm ..
   ·exact Bool.beq_comm ..
  ·obtain ⟨j, rfl⟩ : ∃ j, k = j + 1 := ⟨k - 1, by omega⟩
   have ih := adj_at (b :: r) j hadj.2 (by omega) (by simpa using h)
   have e1 : zAu (a :: b :: r) ((j + 1 : Nat) : Int) = zAu (b :: r) (j : Int) := by
    simp [zAu]
   have e2 : zAu (a :: b :: r) (((j + 1 : Nat) : Int) - 1) = zAu (b :: r) ((j : Int) - 1) := by
    obtain ⟨i, rfl⟩ : ∃ i, j = i + 1 := ⟨j - 1, by omega⟩
    simp only [zAu]
    rw [show (((i + 1 + 1 : Nat) : Int) - 1).toNat = i + 1 by omega, show (((i + 1 : Nat) : Int) - 1).toNat = i by omega]
    rfl
   rw [e1, e2]
   exact ih
theorem adj_atI (l : List S58) (x : Int) (h : adjB l = true) (h1 : 1 ≤ x) (h2 : x < l.length) : ((zAu l x).f0 == (zAu l (x - 1)).f0 && ((zAu l x).f1 == (zAu l (x - 1)).f1)) = false := by
 have := adj_at l x.toNat h (by omega) (by omega)
 rwa [show ((x.toNat : Nat) : Int) = x by omega] at this
attribute [local go_sem high] eqA58
set_option maxHeartbeats 1000000 in
theorem compactE (A : Option Addr) (c : Nat) (l : List S58) (w : World) (hr : Kd.C k58 w A l.length l) (hc : l.length ≤ c) (hl : l.length ≤ 1000) (hadj : adjB l = true) :
  Calls Tryz.prog 46 #[.slice A l.length c] w fun e w' => e = .returned (.slice A l.length c) ∧ zB0 w w' := by
 have HR := zA2.mk hr
 have HC := zA2.mk hc
 have HA := zA2.mk hadj
 clear hr hc hadj
 by_cases h2 : l.length < 2
 ·go_enter Tryz.func46, Tryz.ntmps46
  go_wp2
  go_ret
  exact ⟨rfl, ⟨0, rfl⟩⟩
 ·go_enter Tryz.func46, Tryz.ntmps46
  go_wp2
  go_loopw [3] (fun v3 w' => ∃ x : Int, v3 = .int .i64 x ∧ 1 ≤ x ∧ x ≤ l.length ∧ zB0 w w') (fun v3 _ => l.length - (intOf v3).toNat)
  case atStart => exact ⟨1, rfl, by omega, by omega, ⟨0, rfl⟩⟩
  case round =>
   obtain ⟨x, rfl, hk1, hk2, hd⟩ := hrel
   obtain ⟨n, rfl⟩ := hd.out
   by_cases hlt : x < l.length
   ·obtain ⟨ad, e1, ha0, ha1⟩ := at_T58 HR.out x (by omega) (by omega)
    obtain ⟨ad', e2, hb0, hb1⟩ := at_T58 HR.out (x - 1) (by omega) (by omega)
    subst e1
    cases e2
    have hz := adj_atI l x HA.out hk1 hlt
    have b0 : 0 ≤ x := by omega
    have b1 : 0 ≤ x - 1 := by omega
    have b2 : x - 1 < l.length := by omega
    rw [show (x - 1).toNat = x.toNat - 1 by omega] at hb0 hb1
    have b3 : IntKind.i64.wrap (x - 1) = x - 1 := by rw [i64_w]; unfold wrap64; omega
    go_wp2
    go_quiet (fail)
    clear b3
    go_wp2
    go_roundw
    case rel => exact ⟨x + 1, by go_num, by omega, by omega, ⟨n + nq, rfl⟩⟩
    case measure => simp [intOf]; omega
   ·go_wp2
    go_ret
    exact ⟨rfl, ⟨n, rfl⟩⟩
end
end Go.Proofs.YtbghfbhlbfcloaaGreatDoor.PL
namespace Go.Proofs.YtbghfbhlbfcloaaGreatDoor.PL
section
open Go.RowKit Go.Proofs.YtbghfbhlbfcloaaGreatDoorW.PrintWords Go.Proofs.YtbghfbhlbfcloaaGreatDoorW.PrintLast Go.Proofs.YtbghfbhlbfcloaaGreatDoorW.PrintMore
attribute [local go_sem] zBu zBs zC3 zC2 zBn zBm zBt zBr   -- for this text's walks alone
set_option linter.unusedVariables false
set_option linter.unusedSimpArgs false
def zC5.f (a0 : Int) (a1 : Int) : Option (Bool) := if a1 < 0 then (some true) else (some (decide (a1 ≥ a0)))
set_option maxHeartbeats 8000000 in
set_option maxRecDepth 100000 in
theorem zC5.calls (a0 : Int) (a1 : Int) (r : Bool) (w : World) (h : zC5.f a0 a1 = some r) :
  Calls Tryz.prog 42 #[.int .i64 a0, .int .i64 a1] w fun e w' => e = .returned (.bool r) ∧ zB0 w w' := by
 have H : (if a1 < 0 then (some true) else (some (decide (a1 ≥ a0)))) = some r := h
 clear h
 by_cases c3 : a1 < 0
 ·rw [if_pos c3] at H
  have c3b0 : decide (a1 < 0) = true := decide_eq_true c3
  clear c3
  obtain rfl := Option.some.inj H
  go_enter Tryz.func42, Tryz.ntmps42
  go_wp2
  go_ret
  exact ⟨by first | rfl | (simp; done) | (simp [*]; done), by repeat (first | exact zB0.refl _ | apply zB0.step)⟩
 ·rw [if_neg c3] at H
  have c3b0 : decide (a1 < 0) = false := decide_eq_false c3
  clear c3
  obtain rfl := Option.some.inj H
  go_enter Tryz.func42, Tryz.ntmps42
  go_wp2
  go_ret
  exact ⟨by first | rfl | (simp; done) | (simp [*]; done), by repeat (first | exact zB0.refl _ | apply zB0.step)⟩
end
end Go.Proofs.YtbghfbhlbfcloaaGreatDoor.PL
namespace Go.Proofs.YtbghfbhlbfcloaaGreatDoor.PL
section
open Go.RowKit Go.Sort Go.Proofs Go.Proofs.YtbghfbhlbfcloaaGreatDoorW.PrintWords Go.Proofs.YtbghfbhlbfcloaaGreatDoorW.PrintLast Go.Proofs.YtbghfbhlbfcloaaGreatDoorW.PrintMore
set_option linter.unusedVariables false
set_option linter.unusedSimpArgs false
def ordE (x y : S58) : Int := if x.f0 < y.f0 then -1 else if y.f0 < x.f0 then 1 else if x.f1 < y.f1 then -1 else if y.f1 < x.f1 then 1 else 0
def okE (n : Int) (e : S58) : Bool := decide (0 ≤ e.f0) && decide (e.f0 < n) && (decide (0 ≤ e.f1) && decide (e.f1 < n))
def sortE (l : List S58) : List S58 := isort (leC ordE) l
def nodupE : List S58 → Bool
 | [] => true
 | a :: r => r.all (fun b => !(a.f0 == b.f0 && a.f1 == b.f1)) && nodupE r
def MK.f (a0 : Int) (l1 : List S58) : Option (Int × List S58 × Int) :=
 if 0 ≤ a0 ∧ a0 ≤ 64 ∧ l1.all (okE a0) = true ∧ l1.length ≤ 1000 ∧ nodupE l1 = true then some (a0, sortE l1, 0) else none
theorem cmp_f (a b : Int) : zC7.f a b = some (if a < b then -1 else if b < a then 1 else 0) := by
 unfold zC7.f zC1.f
 simp only [Option.bind_some, bne_self_eq_false, Bool.false_eq_true, if_false]
 by_cases h1 : a < b
 ·rw [if_pos h1, if_pos h1]
 ·rw [if_neg h1, if_neg h1]
  by_cases h2 : b < a
  ·rw [if_pos h2, if_pos h2]
  ·rw [if_neg h2, if_neg h2]
theorem or_f (k : Nat) (p q : Int) : zBy.f (k + 4) [p, q] = some (if p = 0 then q else p) := by
 unfold zBy.f
 by_cases hp : p = 0
 ·by_cases hq : q = 0
  ·subst hp hq
   simp [zBy.l0, Go.Proofs.YtbghfbhlbfcloaaGreatDoorW.PrintWords.rd, wrap64]
  ·subst hp
   simp [zBy.l0, Go.Proofs.YtbghfbhlbfcloaaGreatDoorW.PrintWords.rd, wrap64, hq]
 ·simp [zBy.l0, Go.Proofs.YtbghfbhlbfcloaaGreatDoorW.PrintWords.rd, hp]
theorem order_f (k : Nat) (x y : S58) : zBx.f (k + 4) x.f0 x.f1 y.f0 y.f1 = some (ordE x y) := by
 unfold zBx.f ordE
 rw [cmp_f, cmp_f]
 simp only [Option.bind_some]
 rw [or_f]
 by_cases h1 : x.f0 < y.f0
 ·simp [h1]
 ·by_cases h2 : y.f0 < x.f0
  ·simp [h1, h2]
  ·simp [h1, h2]
theorem ordE_lt (x y : S58) : ltOf ordE x y = decide (x.f0 < y.f0 ∨ (x.f0 = y.f0 ∧ x.f1 < y.f1)) := by
 unfold ltOf ordE
 by_cases h1 : x.f0 < y.f0
 ·simp [h1]
 ·by_cases h2 : y.f0 < x.f0
  ·simp [h1, h2]; omega
  ·have : x.f0 = y.f0 := by omega
   by_cases h3 : x.f1 < y.f1
   ·simp [h3, this]
   ·by_cases h4 : y.f1 < x.f1 <;> simp [h1, h2, h3, h4]
theorem ordE_swo : SWO (ltOf ordE) where
 irrefl x := by rw [ordE_lt]; simp
 trans x y z h1 h2 := by rw [ordE_lt] at *; simp at *; omega
 ntrans x y z h1 h2 := by rw [ordE_lt] at *; simp at *; omega
theorem nodupE_at : ∀ (l : List S58), nodupE l = true → ∀ i j, i < j → j < l.length → ∀ z, ¬ ((l.getD i z).f0 = (l.getD j z).f0 ∧ (l.getD i z).f1 = (l.getD j z).f1)
 | [], _, i, j, _, h, _ => by simp at h
 | a :: r, hn, i, j, hij, hj, z => by
  simp only [nodupE, Bool.and_eq_true] at hn
  obtain ⟨j, rfl⟩ : ∃ q, j = q + 1 := ⟨j - 1, by omega⟩
  have hj' : j < r.length := by simpa using hj
  cases i with
  | zero =>
   have h1 := List.all_eq_true.1 hn.1 r[j] (List.getElem_mem hj')
   simp only [Bool.not_eq_true', Bool.and_eq_false_iff, beq_eq_false_iff_ne] at h1
   rw [List.getD_cons_zero, List.getD_cons_succ, List.getD_eq_getElem?_getD, List.getElem?_eq_getElem hj']
   rintro ⟨e1, e2⟩
   rcases h1 with h1 | h1
   ·exact h1 e1
   ·exact h1 e2
  | succ i =>
   rw [List.getD_cons_succ, List.getD_cons_succ]
   exact nodupE_at r hn.2 i j (by omega) hj' z
theorem nodupE_pair : ∀ (l : List S58), nodupE l = true → l.Pairwise fun a b => ¬ (a.f0 = b.f0 ∧ a.f1 = b.f1)
 | [], _ => List.Pairwise.nil
 | a :: r, hn => by
  simp only [nodupE, Bool.and_eq_true] at hn
  refine List.Pairwise.cons (fun b hb => ?_) (nodupE_pair r hn.2)
  have h1 := List.all_eq_true.1 hn.1 b hb
  simp only [Bool.not_eq_true', Bool.and_eq_false_iff, beq_eq_false_iff_ne] at h1
  rintro ⟨e1, e2⟩
  rcases h1 with h1 | h1
  ·exact h1 e1
  ·exact h1 e2
theorem adj_of_pair : ∀ (l : List S58), (l.Pairwise fun a b => ¬ (a.f0 = b.f0 ∧ a.f1 = b.f1)) → adjB l = true
 | [], _ => rfl
 | [a], _ => rfl
 | a :: b :: r, h => by
  have h1 := List.rel_of_pairwise_cons h (List.mem_cons_self (a := b) (l := r))
  have h2 := adj_of_pair (b :: r) (List.Pairwise.of_cons h)
  simp only [adjB, h2, Bool.and_true, Bool.not_eq_true', Bool.and_eq_false_iff, beq_eq_false_iff_ne]
  by_cases e : a.f0 = b.f0
  ·exact .inr (fun e2 => h1 ⟨e, e2⟩)
  ·exact .inl e
theorem sortE_adj (l : List S58) (h : nodupE l = true) : adjB (sortE l) = true :=
 adj_of_pair _ (((isort_perm _ l).pairwise_iff (fun h e => h ⟨e.1.symm, e.2.symm⟩)).2 (nodupE_pair l h))
theorem cmpE (x y : S58) (cx cy : List Value) (W : World) (hx : k58.K W x cx) (hy : k58.K W y cy) :
  Calls Tryz.prog 45 (#[.agg cx.toArray, .agg cy.toArray] ++ #[]) W fun e w' => e = .returned (.int .i64 (ordE x y)) ∧ Gr W w' := by
 obtain rfl := k58_open hx
 obtain rfl := k58_open hy
 exact (zBx.exact 4 x.f0 x.f1 y.f0 y.f1 (ordE x y) W (order_f 0 x y)).mono fun e w' h => ⟨h.1, h.2.2⟩
theorem sortE_eq (l : List S58) : (l.mergeSort fun x y => !(decide (ordE y x < 0))) = sortE l := merge_cf ordE ordE_swo l (fun a b _ _ h1 h2 => by
 have l1 := ordE_lt a b
 have l2 := ordE_lt b a
 unfold ltOf at l1 l2
 rw [decide_eq_false h1] at l1
 rw [decide_eq_false h2] at l2
 have l1' := of_decide_eq_false l1.symm
 have l2' := of_decide_eq_false l2.symm
 obtain ⟨a0, a1⟩ := a
 obtain ⟨b0, b1⟩ := b
 dsimp only at l1' l2'
 rw [show a0 = b0 by omega, show a1 = b1 by omega])
theorem sortCallE (W : World) (base : Nat) (v : Value) (l : List S58) (hl : l.length ≤ 1000) (hn : nodupE l = true) (HO : Kd.R k58 58 W base (fun _ => True) v l) (hb : base ≤ W.heap.size) :
  Calls Tryz.prog 44 #[v, .func (.func 45) #[] #[]] W fun e w' => e = .returned (.tuple #[]) ∧ Kd.R k58 58 w' base (fun _ => True) v (sortE l) ∧ Below base W w' := by
 rcases Nat.eq_zero_or_pos l.length with h0 | h0
 ·obtain rfl := List.eq_nil_of_length_eq_zero h0
  obtain ⟨A, c, rfl⟩ := Kd.zCa HO
  refine (sortNoneEdge A c _ W).mono fun e w' h => ?_
  obtain ⟨he, rfl⟩ := h
  exact ⟨he, by simpa [sortE, isort] using HO, Below.refl _ _⟩
 ·have HO' := HO
  obtain ⟨_, inner, ⟨_, ho⟩, _⟩ := HO'
  rcases ho with ⟨_, hx⟩ | ⟨g, cap, cur, rfl, hg, _⟩
  ·omega
  ·refine (sortR sortsEdge HO (by omega) h0 z58 ordE ordE_swo ?_ (enters_of Tryz.func45 (by kernel_rfl) rfl) (fun x y cx cy W' _ _ hx hy => cmpE x y cx cy W' hx hy)).mono fun e w' h => ⟨h.1, sortE_eq l ▸ h.2.1, (Below.refl base W).grown h.2.2 hb (fun k hk => by cases hk; exact hg)⟩
   intro i j hi hj h1 h2
   have l1 := ordE_lt (l.getD i z58) (l.getD j z58)
   have l2 := ordE_lt (l.getD j z58) (l.getD i z58)
   unfold ltOf at l1 l2
   rw [decide_eq_false h1] at l1
   rw [decide_eq_false h2] at l2
   have l1' := of_decide_eq_false l1.symm
   have l2' := of_decide_eq_false l2.symm
   rcases Nat.lt_trichotomy i j with h | h | h
   ·exact absurd (by omega) (nodupE_at l hn i j h hj z58)
   ·exact h
   ·exact absurd (by omega) (nodupE_at l hn j i h hi z58)
theorem okE_at {n : Int} {l : List S58} (h : l.all (okE n) = true) (x : Int) (h0 : 0 ≤ x) (h1 : x < l.length) : zC5.f n (zAu l x).f0 = some false ∧ zC5.f n (zAu l x).f1 = some false := by
 have hl : x.toNat < l.length := by omega
 have h2 := List.all_eq_true.1 h l[x.toNat] (List.getElem_mem hl)
 have e : zAu l x = l[x.toNat] := by unfold zAu; rw [List.getD_eq_getElem?_getD, List.getElem?_eq_getElem hl]; rfl
 rw [← e] at h2
 simp only [okE, Bool.and_eq_true, decide_eq_true_eq] at h2
 obtain ⟨⟨a, b⟩, c, d⟩ := h2
 unfold zC5.f
 rw [if_neg (by omega), if_neg (by omega), decide_eq_false (by omega), decide_eq_false (by omega)]
 exact ⟨rfl, rfl⟩
theorem compactS (A : Option Addr) (c : Nat) (l : List S58) (W : World) {base : Nat} (hl : l.length ≤ 1000) (hn : nodupE l = true) (HO : Kd.R k58 58 W base (fun _ => True) (.slice A l.length c) (sortE l)) :
  Calls Tryz.prog 46 #[.slice A l.length c] W fun e w' => e = .returned (.slice A l.length c) ∧ zB0 W w' := by
 have e : (sortE l).length = l.length := (isort_perm _ l).length_eq
 have h := compactE A c (sortE l) W (Kd.zBp HO).2.2 (by rw [e]; exact (Kd.zBp HO).2.1) (by omega) (sortE_adj l hn)
 rwa [e] at h
set_option maxHeartbeats 2000000 in
theorem MK.calls (a0 : Int) (A1 : Option Addr) (c1 : Nat) (l1 : List S58) (r1 : Int) (r2 : List S58) (r3 : Int) (w : World) (hr1 : Kd.C k58 w A1 l1.length l1) (hc1 : l1.length ≤ c1) (h : MK.f a0 l1 = some (r1, r2, r3)) :
  Calls Tryz.prog 24 #[.int .i64 a0, .slice A1 l1.length c1] w fun e w' => ∃ v1_ : Value, e = .returned (.tuple #[.agg #[.int .i64 r1, v1_], .int .i64 r3]) ∧ Kd.R k58 58 w' w.heap.size (fun _ => True) v1_ r2 ∧ Below w.heap.size w w' := by
 unfold MK.f at h
 split at h
 case isFalse => cases h
 case isTrue hh =>
  obtain ⟨h0, h64, hall, hlen, hnd⟩ := hh
  injection h with h
  injection h with e1 h
  injection h with e2 e3
  subst e1 e2 e3
  have HA := zA2.mk hall
  have HN := zA2.mk hnd
  have HR := zA2.mk hr1
  have HC := zA2.mk hc1
  have HL := zA2.mk hlen
  clear hall hnd hr1 hc1 hlen
  have hu28 := Tryz.underlying28
  have hu68 := Tryz.underlying58
  have g1 : ¬ a0 < 0 := by omega
  have g2 : ¬ 64 < a0 := by omega
  go_enter Tryz.func24, Tryz.ntmps24
  go_wp2
  go_loopw [18] (fun v18 wr => ∃ x : Int, v18 = .int .i64 x ∧ 0 ≤ x ∧ x ≤ l1.length ∧ zA2 (wr.heap[w.heap.size]? = some (.cells #[.int .i64 0, .slice none 0 0] 28 (0, 0))) ∧ zA2 (Below w.heap.size w wr)) (fun v18 _ => l1.length - (intOf v18).toNat)
  case atStart => exact ⟨0, rfl, by omega, by omega, ⟨blk_new w _⟩, ⟨zA1 (Below.refl _ _) _⟩⟩
  case round =>
   obtain ⟨x, rfl, hx0, hx1, HK, HB⟩ := hrel
   have hle : (l1.length : Int) ≤ 1000 := by have := HL.out; omega
   by_cases hlt : x < l1.length
   ·obtain ⟨ad, e1, ha0, ha1⟩ := at_T58 HR.out x hx0 hlt
    subst e1
    have hb0 := (HB.out.cell (World.block_lt_of_cell? w _ ha0)).trans ha0
    have hb1 := (HB.out.cell (World.block_lt_of_cell? w _ ha1)).trans ha1
    clear ha0 ha1
    have C := fun W => zC5.calls a0 (zAu l1 x).f0 false W (okE_at HA.out x hx0 hlt).1
    have C' := fun W => zC5.calls a0 (zAu l1 x).f1 false W (okE_at HA.out x hx0 hlt).2
    generalize (zAu l1 x).f0 = p at hb0 C
    generalize (zAu l1 x).f1 = q at hb1 C'
    have HC0 := zA2.mk C
    have HC1 := zA2.mk C'
    clear C C'
    go_wp2_with (go_at_call 42; (first | with_reducible refine (HC0.out _).mono ?_ | with_reducible refine (HC1.out _).mono ?_); rintro e w' ⟨rfl, ⟨nd, rfl⟩⟩)
    go_roundw
    case rel => exact ⟨x + 1, by go_num, by omega, by omega, ⟨by (with_reducible repeat (first | refine zA6 ?_ _ | refine zA8 ?_ | refine zA5 ?_ _)); exact HK.out⟩, ⟨by repeat (first | (with_reducible first | exact HB.out | apply zA1 | apply zA0 | apply zA3) | exact HB.out)⟩⟩
    case measure => simp [intOf]; omega
   ·have CL := cloneE A1 c1 l1 wr (Kd.zAk HR.out HB.out) HC.out HL.out
    have HCL := zA2.mk CL
    clear CL
    go_wp2_with (first | (go_at_call 43; refine HCL.out.mono ?_; rintro e w2 ⟨v, rfl, ho, hb⟩; obtain ⟨Ao, co, rfl⟩ := Kd.zCa ho; have HO := zA2.mk ho; have HB2 := zA2.mk hb; clear ho hb) | (go_at_call 44; refine (sortCallE _ wr.heap.size _ l1 HL.out HN.out HO.out HB2.out.size).mono ?_; rintro e w3 ⟨rfl, ho3, hb3⟩; have HO3 := zA2.mk ho3; have HB3 := zA2.mk hb3; clear ho3 hb3) | (go_at_call 46; refine (compactS Ao co l1 _ HL.out HN.out HO3.out).mono ?_; rintro e w4 ⟨rfl, ⟨nd, rfl⟩⟩; have HK3 := zA2.mk ((HB3.out.block _ (zC8 HK.out)).trans (zAl HK.out HB2.out)); have hcz0 : w3.cell? ⟨w.heap.size, 0, none⟩ = some (.int .i64 0) := (zA7 HK3.out 0).trans rfl; have hcz1 : w3.cell? ⟨w.heap.size, 1, none⟩ = some (.slice none 0 0) := (zA7 HK3.out 1).trans rfl; have hfz0 := zA9 HK3.out 0; have hfz1 := zA9 HK3.out 1))
    refine bodyPost_ret (results_list (rs := [.cell 4 28, .tmp 5]) rfl (by simp) (.cell w.heap.size 28 #[.int .i64 a0, .slice Ao l1.length co] (0, 0) _ rfl (by (with_reducible repeat (first | refine zA6 ?_ _ | refine zA8 ?_ | refine zA5 ?_ _)); refine blk_put (cs := #[.int .i64 a0, .slice none 0 0]) ?_ 1 _ rfl; (with_reducible repeat (first | refine zA6 ?_ _ | refine zA8 ?_ | refine zA5 ?_ _)); refine blk_put (cs := #[.int .i64 0, .slice none 0 0]) ?_ 0 _ rfl; (with_reducible repeat (first | refine zA6 ?_ _ | refine zA8 ?_ | refine zA5 ?_ _)); exact HK3.out) Tryz.underlying28 rfl (by kernel_rfl) (.tmp .nil))) rfl ?_
    have hlt' : w.heap.size ≤ wr.heap.size := HB.out.size
    refine ⟨.slice Ao l1.length co, rfl, ?_, ?_⟩
    ·refine Kd.R_lower (Kd.R_mono (Kd.R_far (p := ⟨w.heap.size, 1, none⟩) (Kd.R_far (p := ⟨w.heap.size, 0, none⟩) (Kd.zB5 (Kd.R_types HO3.out HK3.out (by decide)) _) (fun _ hk => hk.2) (.int .i64 a0)) (fun _ hk => hk.2) (.slice Ao l1.length co)) (fun _ h_ => trivial)) hlt'
    ·refine zA4 (zA4 (zA0 ?_ _) (Nat.le_refl _)) (Nat.le_refl _)
     exact (HB.out.trans (HB2.out.mono hlt')).trans (HB3.out.mono hlt')
end
end Go.Proofs.YtbghfbhlbfcloaaGreatDoor.PL
namespace Go.Proofs.YtbghfbhlbfcloaaGreatDoor.PL
section
open Go.RowKit Go.Proofs.YtbghfbhlbfcloaaGreatDoorW.PrintWords Go.Proofs.YtbghfbhlbfcloaaGreatDoorW.PrintLast Go.Proofs.YtbghfbhlbfcloaaGreatDoorW.PrintMore
attribute [local go_sem] zBu zBs zC3 zC2 zBn zBm zBt zBr   -- for this text's walks alone
set_option linter.unusedVariables false
set_option linter.unusedSimpArgs false
def graph_Make.f (a0 : Int) (l1 : List (S58)) : Option (Int × (List (S58)) × Int) := MK.f a0 l1
theorem graph_Make.calls (a0 : Int) (A1 : Option Addr) (c1 : Nat) (l1 : List (S58)) (r1 : Int) (r2 : List (S58)) (r3 : Int) (w : World) (hr1 : Kd.C k58 w A1 l1.length l1) (hc1 : l1.length ≤ c1) (h : graph_Make.f a0 l1 = some (r1, r2, r3)) :
  Calls Tryz.prog 24 #[.int .i64 a0, .slice A1 l1.length c1] w fun e w' => ∃ v1_ : Value, e = .returned (.tuple #[.agg #[.int .i64 r1, v1_], .int .i64 r3]) ∧ Kd.R k58 58 w' w.heap.size (fun _ => True) v1_ r2 ∧ Below w.heap.size w w' :=
  MK.calls a0 A1 c1 l1 r1 r2 r3 w hr1 hc1 h
end
end Go.Proofs.YtbghfbhlbfcloaaGreatDoor.PL
namespace Go.Proofs.YtbghfbhlbfcloaaGreatDoor.PL
section
open Go.RowKit Go.Proofs.YtbghfbhlbfcloaaGreatDoorW.PrintWords Go.Proofs.YtbghfbhlbfcloaaGreatDoorW.PrintLast Go.Proofs.YtbghfbhlbfcloaaGreatDoorW.PrintMore
attribute [local go_sem] zBu zBs zC3 zC2 zBn zBm zBt zBr   -- for this text's walks alone
set_option linter.unusedVariables false
set_option linter.unusedSimpArgs false
attribute [local go_sem high] eqA58
mutual
def zAv.l0 : Nat → Int → List (S58) → Int → Int → Option (Int × (List (S58)))
 | 0, _, _, _, _ => none
 | k + 1, x0, x3, x4, x5 => if x5 < 6 then (zAv.l1 k x0 x3 x4 x5 0) else ((graph_Make.f 6 x3).bind fun bt214 => (some (bt214.1, bt214.2.1)))
def zAv.l1 : Nat → Int → List (S58) → Int → Int → Int → Option (Int × (List (S58)))
 | 0, _, _, _, _, _ => none
 | k + 1, x0, x3, x4, x5, x6 => if x6 < x5 then (if 0 ≤ x4 then (if (Go.bits .and .u16 (shr .u16 x0 x4) 1) = 1 then ((some (([(⟨x6, x5⟩ : S58), (⟨x5, x6⟩ : S58)] : List (S58)) : List (S58))).bind fun y220 => (if x3.length + y220.length < 8796093022208 then (zAv.l1 k x0 (x3 ++ y220) (wrap64 (x4 + 1)) x5 (wrap64 (x6 + 1))) else (none))) else (zAv.l1 k x0 x3 (wrap64 (x4 + 1)) x5 (wrap64 (x6 + 1)))) else (none)) else (zAv.l0 k x0 x3 x4 (wrap64 (x5 + 1)))
end
def zAv.f (k : Nat) (a0 : Int) : Option (Int × (List (S58))) := zAv.l0 k a0 ([] : List (S58)) 0 1
theorem zAv.zBv : ∀ k, (∀ y0 y1 y2 y3, LeO (zAv.l0 k y0 y1 y2 y3) (zAv.l0 (k + 1) y0 y1 y2 y3)) ∧ (∀ y0 y1 y2 y3 y4, LeO (zAv.l1 k y0 y1 y2 y3 y4) (zAv.l1 (k + 1) y0 y1 y2 y3 y4))
 | 0 => ⟨fun _ _ _ _ r h => by simp [zAv.l0] at h, fun _ _ _ _ _ r h => by simp [zAv.l1] at h⟩
 | k + 1 => by
  obtain ⟨ih0, ih1⟩ := zAv.zBv k
  refine ⟨?_, ?_⟩
  ·intro y0 y1 y2 y3
   unfold zAv.l0
   repeat' first
   | (with_reducible exact ih0 _ _ _ _)
   | (with_reducible exact ih1 _ _ _ _ _)
   | (with_reducible exact LeO.refl _)
   | (with_reducible exact LeO.none _)
   | (with_reducible refine LeO.ite ?_ ?_)
   | (with_reducible refine LeO.bind ?_ (fun _ => ?_))
  ·intro y0 y1 y2 y3 y4
   unfold zAv.l1
   repeat' first
   | (with_reducible exact ih0 _ _ _ _)
   | (with_reducible exact ih1 _ _ _ _ _)
   | (with_reducible exact LeO.refl _)
   | (with_reducible exact LeO.none _)
   | (with_reducible refine LeO.ite ?_ ?_)
   | (with_reducible refine LeO.bind ?_ (fun _ => ?_))
theorem zAv.mono : ∀ a0 k, LeO (zAv.f k a0) (zAv.f (k + 1) a0) := by
 intro a0 k
 obtain ⟨ih0, ih1⟩ := zAv.zBv k
 unfold zAv.f
 repeat' first
   | (with_reducible exact ih0 _ _ _ _)
   | (with_reducible exact ih1 _ _ _ _ _)
   | (with_reducible exact LeO.refl _)
   | (with_reducible exact LeO.none _)
   | (with_reducible refine LeO.ite ?_ ?_)
   | (with_reducible refine LeO.bind ?_ (fun _ => ?_))
set_option maxHeartbeats 8000000 in
set_option maxRecDepth 100000 in
theorem zAv.calls (k : Nat) (a0 : Int) (r1 : Int) (r2 : List (S58)) (w : World) (h : zAv.f k a0 = some (r1, r2)) :
  Calls Tryz.prog 8 #[.int .u16 a0] w fun e w' => ∃ v1_ : Value, e = .returned (.agg #[.int .i64 r1, v1_]) ∧ Kd.R k58 58 w' w.heap.size (fun _ => True) v1_ r2 ∧ Below w.heap.size w w' := by
 have hu28 := Tryz.underlying28
 have hu58 := Tryz.underlying58
 have HB := zA2.mk (Below.refl w.heap.size w)
 have H : (zAv.l0 k a0 ([] : List (S58)) 0 1) = some (r1, r2) := h
 clear h
 have H' := zA2.mk H
 clear H
 go_enter Tryz.func8, Tryz.ntmps8
 go_wp2_with (first | ((with_reducible refine zBl (N := 2) rfl ?_); refine zBj ?hg (N := 2) ?hd (cs := #[.int .i64 0, .slice none 0 0]) (t := 28) ?hr ?_; (case hd => rfl); (case hg => rfl); (case hr => first | (go_simp; done) | (go_simp; rfl)); intro gb213 hg w2 hbox hb; have n0_ := zA2.mk (zAe (by repeat (first | (with_reducible first | exact HB.out | apply zA1 | apply zA0 | apply zA3) | exact HB.out)) hb); have n1_ := zA2.mk (hbox); have n2_ := zA2.mk ((by rw [hg]; exact (zAb (by repeat (first | (with_reducible first | exact HB.out | apply zA1 | apply zA0 | apply zA3) | exact HB.out))) : w.heap.size ≤ gb213)); have n3_ := zA2.mk ((by rw [hg]; exact (zAb (by repeat (first | (with_reducible first | exact HB.out | apply zA1 | apply zA0 | apply zA3) | exact HB.out))) : w.heap.size ≤ gb213)); clear HB; have HB := n0_; have BK213 := n1_; have GW213 := n2_; have GE213 := n3_; clear n0_ n1_ n2_ n3_; clear hb hbox hg))
 go_loopg [3, 4, 5] k (fun kq v3 v4 v5 w' => ∃ (x3_1 : List (S58)) (x4_1 : Int) (x5_1 : Int), v4 = .int .i64 x4_1 ∧ v5 = .int .i64 x5_1 ∧ zA2 (zAv.l0 kq a0 x3_1 x4_1 x5_1 = some (r1, r2)) ∧ zA2 (kq ≤ k) ∧ zA2 (Kd.R k58 58 w' w.heap.size (fun _ => True) v3 x3_1) ∧ zA2 (w'.heap[gb213]? = some (.cells #[.int .i64 0, (.slice none 0 0)] 28 (0, 0))) ∧ zA2 (Below w.heap.size w w'))
 case atStart => exact ⟨(([] : List (S58))), (0), (1), (by first | rfl | (simp; done) | (simp [*]; done)), (by first | rfl | (simp; done) | (simp [*]; done)), H', ⟨Nat.le_refl _⟩, ⟨by first | exact Kd.R_nil _ _ _ _ _ | exact Kd.N_nil _ _ _ _ _ | exact Kd.V_nil _ _ _ _ _ | exact Kd.Q_nil _ _ _ _ _ | exact Kd.S_nil _ _ _ _ _⟩, ⟨by (with_reducible repeat (first | refine zA6 ?_ _ | refine zA8 ?_ | refine zA5 ?_ _)); exact BK213.out⟩, ⟨by repeat (first | (with_reducible first | exact HB.out | apply zA1 | apply zA0 | apply zA3 | refine zA4 ?_ GE213.out) | exact HB.out)⟩⟩
 case round =>
  clear H'
  try clear p2
  obtain ⟨x3_1, x4_1, x5_1, rfl, rfl, HA, HK1, HO_3, BK213, HB⟩ := hrel
  cases gk with
  | zero => exact absurd HA.out (by simp [zAv.l0])
  | succ k1 =>
   have H := HA.out
   clear HA
   simp only [zAv.l0] at H
   by_cases c3 : x5_1 < 6
   ·rw [if_pos c3] at H
    have c3b0 : decide (x5_1 < 6) = true := decide_eq_true c3
    clear c3
    have H' := zA2.mk H
    clear H
    go_wp2
    go_loopg [3, 4, 6] k1 (fun kq v3 v4 v6 w' => ∃ (x3_2 : List (S58)) (x4_2 : Int) (x6_2 : Int), v4 = .int .i64 x4_2 ∧ v6 = .int .i64 x6_2 ∧ zA2 (zAv.l1 kq a0 x3_2 x4_2 x5_1 x6_2 = some (r1, r2)) ∧ zA2 (kq ≤ k1) ∧ zA2 (Kd.R k58 58 w' w.heap.size (fun _ => True) v3 x3_2) ∧ zA2 (w'.heap[gb213]? = some (.cells #[.int .i64 0, (.slice none 0 0)] 28 (0, 0))) ∧ zA2 (Below w.heap.size w w'))
    case atStart => exact ⟨(x3_1), (x4_1), (0), (by first | rfl | (simp; done) | (simp [*]; done)), (by first | rfl | (simp; done) | (simp [*]; done)), H', ⟨Nat.le_refl _⟩, ⟨by (with_reducible repeat (first | apply Kd.zB6 | apply Kd.zB5 | apply Kd.zBf)); exact HO_3.out⟩, ⟨by (with_reducible repeat (first | refine zA6 ?_ _ | refine zA8 ?_ | refine zA5 ?_ _)); exact BK213.out⟩, ⟨by repeat (first | (with_reducible first | exact HB.out | apply zA1 | apply zA0 | apply zA3 | refine zA4 ?_ GE213.out) | exact HB.out)⟩⟩
    case round =>
     clear H'
     try clear p2
     try clear c3
     try clear c3b0
     try clear p2
     obtain ⟨x3_2, x4_2, x6_2, rfl, rfl, HA, HK2, HO_3, BK213, HB⟩ := hrel
     cases gk with
     | zero => exact absurd HA.out (by simp [zAv.l1])
     | succ k2 =>
      have H := HA.out
      clear HA
      simp only [zAv.l1] at H
      by_cases c4 : x6_2 < x5_1
      ·rw [if_pos c4] at H
       have c4b0 : decide (x6_2 < x5_1) = true := decide_eq_true c4
       clear c4
       by_cases c5 : 0 ≤ x4_2
       rotate_left
       ·rw [if_neg c5] at H
        exact absurd H (by simp)
       rw [if_pos c5] at H
       have c5b0 := eq_true c5
       have c5b1 : decide (0 ≤ x4_2) = true := decide_eq_true c5
       clear c5
       obtain ⟨ji6, hji6⟩ : ∃ j_ : Int, (shr .u16 a0 x4_2) = j_ := ⟨_, rfl⟩
       replace H : (if (Go.bits .and .u16 (ji6) 1) = 1 then ((some (([(⟨x6_2, x5_1⟩ : S58), (⟨x5_1, x6_2⟩ : S58)] : List (S58)) : List (S58))).bind fun y220 => (if x3_2.length + y220.length < 8796093022208 then (zAv.l1 k2 a0 (x3_2 ++ y220) (wrap64 (x4_2 + 1)) x5_1 (wrap64 (x6_2 + 1))) else (none))) else (zAv.l1 k2 a0 x3_2 (wrap64 (x4_2 + 1)) x5_1 (wrap64 (x6_2 + 1)))) = some (r1, r2) := by first | (rw [hji6] at H; exact H) | (simp only [hji6] at H ⊢; exact H)
       have hji6_ : (a0 / 2 ^ min x4_2.toNat 16) = ji6 := hji6
       have hji6z : x4_2 ≤ 16 → (a0 / 2 ^ x4_2.toNat) = ji6 := shr_small hji6
       by_cases c7 : (Go.bits .and .u16 (ji6) 1) = 1
       ·rw [if_pos c7] at H
        have c7b0 : ((Go.bits .and .u16 (ji6) 1) == 1) = true := beq_iff_eq.mpr c7
        have c7b1 : ((Go.bits .and .u16 (ji6) 1) != 1) = false := bne_eq_false_iff_eq.mpr c7
        clear c7
        obtain ⟨y220, hy220⟩ : ∃ y_ : List (S58), y_ = (([(⟨x6_2, x5_1⟩ : S58), (⟨x5_1, x6_2⟩ : S58)] : List (S58))) := ⟨_, rfl⟩
        replace H : (if x3_2.length + y220.length < 8796093022208 then (zAv.l1 k2 a0 (x3_2 ++ y220) (wrap64 (x4_2 + 1)) x5_1 (wrap64 (x6_2 + 1))) else (none)) = some (r1, r2) := by first | (rw [hy220]; with_reducible exact H) | (have H2_ := (Option.bind_some _ _).symm.trans H; rw [hy220]; with_reducible exact H2_) | (have H2_ := (Option.bind_some _ _).symm.trans H; with_reducible exact H2_) | with_reducible exact H | (rw [hy220]; exact H) | exact H
        have Ny220 := zA2.mk hy220
        clear hy220
        by_cases c8 : x3_2.length + y220.length < 8796093022208
        rotate_left
        ·rw [if_neg c8] at H
         exact absurd H (by simp)
        rw [if_pos c8] at H
        have LMc8 := zA2.mk c8
        clear c8
        obtain ⟨y223, hy223⟩ : ∃ y_ : List (S58), y_ = (x3_2 ++ y220) := ⟨_, rfl⟩
        replace H : (zAv.l1 k2 a0 y223 (wrap64 (x4_2 + 1)) x5_1 (wrap64 (x6_2 + 1))) = some (r1, r2) := by first | (rw [hy223]; with_reducible exact H) | (have H2_ := (Option.bind_some _ _).symm.trans H; rw [hy223]; with_reducible exact H2_) | (have H2_ := (Option.bind_some _ _).symm.trans H; with_reducible exact H2_) | with_reducible exact H | (rw [hy223]; exact H) | exact H
        have Ny223 := zA2.mk hy223
        clear hy223
        have H' := zA2.mk H
        clear H
        go_wp2_with (first | ((with_reducible refine zBl (N := 30) rfl ?_); refine Kd.R_lit k58 _ 58 ?hg (N := 30) ?hd (xs := ([(⟨x6_2, x5_1⟩ : S58), (⟨x5_1, x6_2⟩ : S58)] : List (S58))) (inner := [.int .i64 x6_2, .int .i64 x5_1, .int .i64 x5_1, .int .i64 x6_2]) (ok := fun _ => True) (okp := fun _ => True) ?hr ?hp (fun _ hk => hk) trivial (Below.refl _ _) (Nat.le_refl _) (by simp) ?_; (case hd => rfl); (case hg => rfl); (case hr => first | (go_simp; done) | (go_simp; rfl)); (case hp => exact (Reps.c2 (show Kd.M k58 _ _ _ (⟨x6_2, x5_1⟩ : S58) [.int .i64 x6_2, .int .i64 x5_1] from (k58_mkM _ _ _ (⟨x6_2, x5_1⟩ : S58) )) (Reps.c2 (show Kd.M k58 _ _ _ (⟨x5_1, x6_2⟩ : S58) [.int .i64 x5_1, .int .i64 x6_2] from (k58_mkM _ _ _ (⟨x5_1, x6_2⟩ : S58) )) (Reps.none _ _)))); intro v221 w9 ho10 hb hg_ hnew_; clear hg_ hnew_; (first | rw [← Ny220.out] at ho10 | (simp only [Int.reduceToNat] at ho10; rw [← Ny220.out] at ho10)); have n0_ := zA2.mk (Kd.R_elder' (by (with_reducible repeat (first | apply Kd.zB6 | apply Kd.zB5 | apply Kd.zBf)); exact HO_3.out) (Kd.R_base ho10) hb); have n1_ := zA2.mk (Kd.R_lower (Kd.R_new' ho10 (Kd.R_lt (by (with_reducible repeat (first | apply Kd.zB6 | apply Kd.zB5 | apply Kd.zBf)); exact HO_3.out))) (zAb (by repeat (first | (with_reducible first | exact HB.out | apply zA1 | apply zA0 | apply zA3 | refine zA4 ?_ GE213.out) | exact HB.out)))); have n2_ := zA2.mk (zAl (g := gb213) (o := .cells #[.int .i64 0, .slice none 0 0] 28 (0, 0)) (by (with_reducible repeat (first | refine zA6 ?_ _ | refine zA8 ?_ | refine zA5 ?_ _)); exact BK213.out) hb); have n3_ := zA2.mk (zAe (by repeat (first | (with_reducible first | exact HB.out | apply zA1 | apply zA0 | apply zA3 | refine zA4 ?_ GE213.out) | exact HB.out)) hb); clear HO_3; clear BK213; clear HB; have HO_3 := n0_; have HO222 := n1_; have BK213 := n2_; have HB := n3_; clear n0_ n1_ n2_ n3_; clear hb ho10; obtain ⟨Ao12, co12, eo12⟩ := Kd.zCa HO222.out; subst eo12) | ((with_reducible refine zCe (b := .append) (xs := #[.tmp 23, .tmp 30]) rfl ?_); at_builtin; refine Kd.R_append_rows k58 (w0 := w) w.heap.size rfl (.tmp 23) (.tmp 30) 26 58 (.agg #[(.int .i64 0), (.int .i64 0)]) 16 rfl Tryz.underlying26 info58 rfl (by decide) (by omega) u3 x3_2 y220 _ _ _ (fun k_ => some k_ ≠ (.slice Ao12 y220.length co12 : Value).ownBlock) (fun _ => False) rfl rfl ?aO ?aR (fun _ _ h => h) (fun _ h => h.elim) ?aF ?aB ?aS ?aL ?_; (case aR => repeat (first | exact (Kd.zBp HO222.out).2.2 | (with_reducible refine Kd.zAj ?_ _) | (with_reducible refine Kd.zAs ?_ _) | (with_reducible refine Kd.zB2 ?_))); (case aB => exact (by repeat (first | (with_reducible first | exact HB.out | apply zA1 | apply zA0 | apply zA3 | refine zA4 ?_ GE213.out) | exact HB.out))); (case aF => exact (fun k_ hk => Kd.fresh' (Kd.R_lt (by (with_reducible repeat (first | apply Kd.zB6 | apply Kd.zB5 | apply Kd.zBf)); exact HO222.out)) k_ hk)); (case aO => exact (by (with_reducible repeat (first | apply Kd.zB6 | apply Kd.zB5 | apply Kd.zBf)); exact Kd.R_mono HO_3.out (fun _ hk => hk.2))); (case aS => exact (zAb (by repeat (first | (with_reducible first | exact HB.out | apply zA1 | apply zA0 | apply zA3 | refine zA4 ?_ GE213.out) | exact HB.out)))); (case aL => have := LMc8.out; omega); intro v224 w11 ho hb hg hat; rw [← Ny223.out] at ho; have n0_ := zA2.mk (blk_grown (g := gb213) (o := .cells #[.int .i64 0, .slice none 0 0] 28 (0, 0)) (by (with_reducible repeat (first | refine zA6 ?_ _ | refine zA8 ?_ | refine zA5 ?_ _)); exact BK213.out) hg (Kd.R_ne HO_3.out BK213.out (by decide))); have n1_ := zA2.mk (Kd.R_after (ok := (fun _ => True)) (by (with_reducible repeat (first | apply Kd.zB6 | apply Kd.zB5 | apply Kd.zBf)); exact HO222.out) hg hat); have n2_ := zA2.mk (hb); have n3_ := zA2.mk (ho); clear BK213; clear HO222; clear HB; clear HO_3; have BK213 := n0_; have HO222 := n1_; have HB := n2_; have HO225 := n3_; clear n0_ n1_ n2_ n3_; clear ho hb hg hat))
        go_roundg k2
        case measure => have := HK1.out; have := HK2.out; omega
        case rel => exact ⟨(y223), (wrap64 (x4_2 + 1)), (wrap64 (x6_2 + 1)), (by first | rfl | (simp; done) | (simp [*]; done)), (by first | rfl | (simp; done) | (simp [*]; done)), H', ⟨by have := HK1.out; have := HK2.out; omega⟩, ⟨by (with_reducible repeat (first | apply Kd.zB6 | apply Kd.zB5 | apply Kd.zBf)); exact Kd.R_mono HO225.out (fun _ hk => trivial)⟩, ⟨by (with_reducible repeat (first | refine zA6 ?_ _ | refine zA8 ?_ | refine zA5 ?_ _)); exact BK213.out⟩, ⟨by repeat (first | (with_reducible first | exact HB.out | apply zA1 | apply zA0 | apply zA3 | refine zA4 ?_ GE213.out) | exact HB.out)⟩⟩
       ·rw [if_neg c7] at H
        have c7b0 : ((Go.bits .and .u16 (ji6) 1) == 1) = false := beq_eq_false_iff_ne.mpr c7
        have c7b1 : ((Go.bits .and .u16 (ji6) 1) != 1) = true := bne_iff_ne.mpr c7
        have H' := zA2.mk H
        clear H
        go_wp2
        go_roundg k2
        case measure => have := HK1.out; have := HK2.out; omega
        case rel => exact ⟨(x3_2), (wrap64 (x4_2 + 1)), (wrap64 (x6_2 + 1)), (by first | rfl | (simp; done) | (simp [*]; done)), (by first | rfl | (simp; done) | (simp [*]; done)), H', ⟨by have := HK1.out; have := HK2.out; omega⟩, ⟨by (with_reducible repeat (first | apply Kd.zB6 | apply Kd.zB5 | apply Kd.zBf)); exact HO_3.out⟩, ⟨by (with_reducible repeat (first | refine zA6 ?_ _ | refine zA8 ?_ | refine zA5 ?_ _)); exact BK213.out⟩, ⟨by repeat (first | (with_reducible first | exact HB.out | apply zA1 | apply zA0 | apply zA3 | refine zA4 ?_ GE213.out) | exact HB.out)⟩⟩
      ·rw [if_neg c4] at H
       have c4b0 : decide (x6_2 < x5_1) = false := decide_eq_false c4
       clear c4
       have H' := zA2.mk H
       clear H
       go_wp2
       go_roundg k2
       case measure => have := HK1.out; have := HK2.out; omega
       case rel => exact ⟨(x3_2), (x4_2), (wrap64 (x5_1 + 1)), (by first | rfl | (simp; done) | (simp [*]; done)), (by first | rfl | (simp; done) | (simp [*]; done)), H', ⟨by have := HK1.out; have := HK2.out; omega⟩, ⟨by (with_reducible repeat (first | apply Kd.zB6 | apply Kd.zB5 | apply Kd.zBf)); exact HO_3.out⟩, ⟨by (with_reducible repeat (first | refine zA6 ?_ _ | refine zA8 ?_ | refine zA5 ?_ _)); exact BK213.out⟩, ⟨by repeat (first | (with_reducible first | exact HB.out | apply zA1 | apply zA0 | apply zA3 | refine zA4 ?_ GE213.out) | exact HB.out)⟩⟩
   ·rw [if_neg c3] at H
    have c3b0 : decide (x5_1 < 6) = false := decide_eq_false c3
    clear c3
    replace H := Option.bind_eq_some_iff.mp H
    obtain ⟨⟨t214, t215, t218⟩, A130, H⟩ := H
    replace H : (some (t214, t215)) = some (r1, r2) := H
    have A13 := zA2.mk A130
    clear A130
    simp only [Option.some.injEq, Prod.mk.injEq] at H
    obtain ⟨rfl, rfl⟩ := H
    obtain ⟨Ao14, co14, eo14⟩ := Kd.zCa HO_3.out
    subst eo14
    go_wp2_with (first | ((with_reducible refine zAp (f := 24) rfl ?_); refine zBq (some 36) rfl rfl Tryz.func24 (by kernel_rfl) rfl #[.int .i64 6, .slice Ao14 x3_1.length co14] rfl (by (try simp only [List.map_toArray, List.map_cons, List.map_nil]); first | done | rfl | (simp only [List.length_drop, List.length_take]; rfl)) ?_; (with_reducible refine (graph_Make.calls 6 _ _ x3_1 t214 t215 t218 _ ?side1 ?side2 A13.out).mono ?_); (case side1 => repeat (first | exact (Kd.zBp HO_3.out).2.2 | (with_reducible refine Kd.zAj ?_ _) | (with_reducible refine Kd.zAs ?_ _) | (with_reducible refine Kd.zB2 ?_))); (case side2 => exact (Kd.zBp HO_3.out).2.1); rintro e w15 ⟨v216, rfl, ho0, hb⟩; refine ⟨_, rfl, ?_⟩; have n0_ := zA2.mk (Kd.R_elder' (by (with_reducible repeat (first | apply Kd.zB6 | apply Kd.zB5 | apply Kd.zBf)); exact HO_3.out) (Kd.R_base ho0) hb); have n1_ := zA2.mk (Kd.R_lower (Kd.R_new' ho0 (Kd.R_lt (by (with_reducible repeat (first | apply Kd.zB6 | apply Kd.zB5 | apply Kd.zBf)); exact HO_3.out))) (zAb (by repeat (first | (with_reducible first | exact HB.out | apply zA1 | apply zA0 | apply zA3 | refine zA4 ?_ GE213.out) | exact HB.out)))); have n2_ := zA2.mk (zAl (g := gb213) (o := .cells #[.int .i64 0, .slice none 0 0] 28 (0, 0)) (by (with_reducible repeat (first | refine zA6 ?_ _ | refine zA8 ?_ | refine zA5 ?_ _)); exact BK213.out) hb); have n3_ := zA2.mk (zAe (by repeat (first | (with_reducible first | exact HB.out | apply zA1 | apply zA0 | apply zA3 | refine zA4 ?_ GE213.out) | exact HB.out)) hb); clear HO_3; clear BK213; clear HB; have HO_3 := n0_; have HO217 := n1_; have BK213 := n2_; have HB := n3_; clear n0_ n1_ n2_ n3_; (try clear hb); (try clear hb2); (try clear hk); (try clear hi); (try clear ho0)) | ((with_reducible refine zBl (N := 7) rfl ?_); refine zBj ?hg (N := 7) ?hd (cs := #[.int .i64 0, .slice none 0 0]) (t := 28) ?hr ?_; (case hd => rfl); (case hg => rfl); (case hr => first | (go_simp; done) | (go_simp; rfl)); intro gb219 hg w16 hbox hb; have n0_ := zA2.mk (Kd.R_below (by (with_reducible repeat (first | apply Kd.zB6 | apply Kd.zB5 | apply Kd.zBf)); exact HO_3.out) hb); have n1_ := zA2.mk (Kd.R_below (by (with_reducible repeat (first | apply Kd.zB6 | apply Kd.zB5 | apply Kd.zBf)); exact HO217.out) hb); have n2_ := zA2.mk (zAl (g := gb213) (o := .cells #[.int .i64 0, .slice none 0 0] 28 (0, 0)) (by (with_reducible repeat (first | refine zA6 ?_ _ | refine zA8 ?_ | refine zA5 ?_ _)); exact BK213.out) hb); have n3_ := zA2.mk (zAe (by repeat (first | (with_reducible first | exact HB.out | apply zA1 | apply zA0 | apply zA3 | refine zA4 ?_ GE213.out) | exact HB.out)) hb); have n4_ := zA2.mk (hbox); have n5_ := zA2.mk ((by rw [hg]; exact (zAb (by repeat (first | (with_reducible first | exact HB.out | apply zA1 | apply zA0 | apply zA3 | refine zA4 ?_ GE213.out) | exact HB.out))) : w.heap.size ≤ gb219)); have n6_ := zA2.mk ((by rw [hg]; exact (zAb (by repeat (first | (with_reducible first | exact HB.out | apply zA1 | apply zA0 | apply zA3 | refine zA4 ?_ GE213.out) | exact HB.out))) : w.heap.size ≤ gb219)); have n7_ := zA2.mk ((by rw [hg]; exact Nat.ne_of_lt (zC8 (g := gb213) (o := .cells #[.int .i64 0, .slice none 0 0] 28 (0, 0)) (by (with_reducible repeat (first | refine zA6 ?_ _ | refine zA8 ?_ | refine zA5 ?_ _)); exact BK213.out)) : gb213 ≠ gb219)); have n8_ := zA2.mk ((by rw [hg]; exact Nat.ne_of_gt (zC8 (g := gb213) (o := .cells #[.int .i64 0, .slice none 0 0] 28 (0, 0)) (by (with_reducible repeat (first | refine zA6 ?_ _ | refine zA8 ?_ | refine zA5 ?_ _)); exact BK213.out)) : gb219 ≠ gb213)); clear HO_3; clear HO217; clear BK213; clear HB; have HO_3 := n0_; have HO217 := n1_; have BK213 := n2_; have HB := n3_; have BK219 := n4_; have GW219 := n5_; have GE219 := n6_; have NB213_219 := n7_; have NB219_213 := n8_; clear n0_ n1_ n2_ n3_ n4_ n5_ n6_ n7_ n8_; clear hb hbox hg; have hnb17 := NB219_213.out; have hnc17 := NB213_219.out; have hcz18_0 : w16.cell? ⟨gb219, 0, none⟩ = some (.int .i64 0) := (zA7 BK219.out 0).trans rfl; have hcz18_1 : w16.cell? ⟨gb219, 1, none⟩ = some (.slice none 0 0) := (zA7 BK219.out 1).trans rfl; have hfz18_0 := zA9 BK219.out 0; have hfz18_1 := zA9 BK219.out 1; obtain ⟨Ao19, co19, eo19⟩ := Kd.zCa HO217.out; subst eo19; have hcz20_0 : w16.cell? ⟨gb213, 0, none⟩ = some (.int .i64 0) := (zA7 BK213.out 0).trans rfl; have hcz20_1 : w16.cell? ⟨gb213, 1, none⟩ = some (.slice none 0 0) := (zA7 BK213.out 1).trans rfl; have hfz20_0 := zA9 BK213.out 0; have hfz20_1 := zA9 BK213.out 1))
    refine bodyPost_ret (results_cell_row rfl _ _ gb213 28 #[.int .i64 t214, .slice Ao19 t215.length co19] (0, 0) _ rfl (by (with_reducible repeat (first | refine zA6 ?_ _ | refine zA8 ?_ | refine zA5 ?_ _)); refine blk_put (cs := #[.int .i64 t214, .slice none 0 0]) ?_ 1 _ rfl; (with_reducible repeat (first | refine zA6 ?_ _ | refine zA8 ?_ | refine zA5 ?_ _)); refine blk_put (cs := #[.int .i64 0, .slice none 0 0]) ?_ 0 _ rfl; (with_reducible repeat (first | refine zA6 ?_ _ | refine zA8 ?_ | refine zA5 ?_ _)); refine blk_far ?_ NB213_219.out _; (with_reducible repeat (first | refine zA6 ?_ _ | refine zA8 ?_ | refine zA5 ?_ _)); refine blk_far ?_ NB213_219.out _; (with_reducible repeat (first | refine zA6 ?_ _ | refine zA8 ?_ | refine zA5 ?_ _)); exact BK213.out) Tryz.underlying28 rfl (by kernel_rfl)) rfl ?_
    exact ⟨_, by first | rfl | (simp [zAr, zAq] <;> rfl) | (simp [*, zAr, zAq] <;> rfl), by (with_reducible repeat (first | apply Kd.zB6 | apply Kd.zB5 | apply Kd.zBf)); exact Kd.R_mono (Kd.R_far (p := ⟨gb213, 1, none⟩) (Kd.R_far (p := ⟨gb213, 0, none⟩) (Kd.R_far (p := ⟨gb219, 1, none⟩) (Kd.R_far (p := ⟨gb219, 0, none⟩) (Kd.R_types (Kd.R_types HO217.out BK219.out (by decide)) BK213.out (by decide)) (fun _ hk => hk.1.2) (.int .i64 t214)) (fun _ hk => hk.1.2) (.slice Ao19 t215.length co19)) (fun _ hk => hk.2) (.int .i64 t214)) (fun _ hk => hk.2) (.slice Ao19 t215.length co19)) (fun _ hk => trivial), by repeat (first | (with_reducible first | exact HB.out | apply zA1 | apply zA0 | apply zA3 | refine zA4 ?_ GE213.out | refine zA4 ?_ GE219.out) | exact HB.out)⟩
end
end Go.Proofs.YtbghfbhlbfcloaaGreatDoor.PL
namespace Go.Proofs.YtbghfbhlbfcloaaGreatDoor.PL
section
open Go.RowKit Go.Proofs.YtbghfbhlbfcloaaGreatDoorW.PrintWords Go.Proofs.YtbghfbhlbfcloaaGreatDoorW.PrintLast Go.Proofs.YtbghfbhlbfcloaaGreatDoorW.PrintMore
attribute [local go_sem] zBu zBs zC3 zC2 zBn zBm zBt zBr   -- for this text's walks alone
set_option linter.unusedVariables false
set_option linter.unusedSimpArgs false
attribute [local go_sem high] eqA58
mutual
def zAn.l0 : Nat → List Int → Int → List Int → Int → Int → Option (Int)
 | 0, _, _, _, _, _ => none
 | k + 1, x0, x1, x7, x8, x9 => if x9 < x8 then (if 0 ≤ x9 then (if x9 < (x7.length : Int) then (if (rd x7 x9) < 0 then (zAn.j1 k x0 x1 x9 (rd x7 x9) x7 x8 x9 true) else (zAn.j1 k x0 x1 x9 (rd x7 x9) x7 x8 x9 (decide ((rd x7 x9) ≥ x1)))) else (none)) else (none)) else (some 0)
def zAn.j1 : Nat → List Int → Int → Int → Int → List Int → Int → Int → Bool → Option (Int)
 | 0, _, _, _, _, _, _, _, _ => none
 | k + 1, x0, x1, x5, x6, x7, x8, x9, x20 => if x20 = true then (some 2) else (if x5 > 0 then (if 0 ≤ (wrap64 (x5 - 1)) then (if (wrap64 (x5 - 1)) < (x0.length : Int) then (if (rd x0 (wrap64 (x5 - 1))) ≥ x6 then (some 8) else (zAn.l0 k x0 x1 x7 x8 (wrap64 (x9 + 1)))) else (none)) else (none)) else (zAn.l0 k x0 x1 x7 x8 (wrap64 (x9 + 1))))
end
def zAn.f (k : Nat) (l0 : List Int) (a1 : Int) : Option (Int) := zAn.l0 k l0 a1 l0 (l0.length : Int) 0
theorem zAn.zBv : ∀ k, (∀ y0 y1 y2 y3 y4, LeO (zAn.l0 k y0 y1 y2 y3 y4) (zAn.l0 (k + 1) y0 y1 y2 y3 y4)) ∧ (∀ y0 y1 y2 y3 y4 y5 y6 y7, LeO (zAn.j1 k y0 y1 y2 y3 y4 y5 y6 y7) (zAn.j1 (k + 1) y0 y1 y2 y3 y4 y5 y6 y7))
 | 0 => ⟨fun _ _ _ _ _ r h => by simp [zAn.l0] at h, fun _ _ _ _ _ _ _ _ r h => by simp [zAn.j1] at h⟩
 | k + 1 => by
  obtain ⟨ih0, ih1⟩ := zAn.zBv k
  refine ⟨?_, ?_⟩
  ·intro y0 y1 y2 y3 y4
   unfold zAn.l0
   repeat' first
   | (with_reducible exact ih0 _ _ _ _ _)
   | (with_reducible exact ih1 _ _ _ _ _ _ _ _)
   | (with_reducible exact LeO.refl _)
   | (with_reducible exact LeO.none _)
   | (with_reducible refine LeO.ite ?_ ?_)
   | (with_reducible refine LeO.bind ?_ (fun _ => ?_))
  ·intro y0 y1 y2 y3 y4 y5 y6 y7
   unfold zAn.j1
   repeat' first
   | (with_reducible exact ih0 _ _ _ _ _)
   | (with_reducible exact ih1 _ _ _ _ _ _ _ _)
   | (with_reducible exact LeO.refl _)
   | (with_reducible exact LeO.none _)
   | (with_reducible refine LeO.ite ?_ ?_)
   | (with_reducible refine LeO.bind ?_ (fun _ => ?_))
theorem zAn.mono : ∀ a0 a1 k, LeO (zAn.f k a0 a1) (zAn.f (k + 1) a0 a1) := by
 intro a0 a1 k
 obtain ⟨ih0, ih1⟩ := zAn.zBv k
 unfold zAn.f
 repeat' first
   | (with_reducible exact ih0 _ _ _ _ _)
   | (with_reducible exact ih1 _ _ _ _ _ _ _ _)
   | (with_reducible exact LeO.refl _)
   | (with_reducible exact LeO.none _)
   | (with_reducible refine LeO.ite ?_ ?_)
   | (with_reducible refine LeO.bind ?_ (fun _ => ?_))
set_option maxHeartbeats 8000000 in
set_option maxRecDepth 100000 in
theorem zAn.calls (k : Nat) (A0 : Option Addr) (c0 : Nat) (l0 : List Int) (a1 : Int) (r : Int) (w : World) (hr0 : Kd.C (Kd.int .i64) w A0 l0.length l0) (hc0 : l0.length ≤ c0) (h : zAn.f k l0 a1 = some r) :
  Calls Tryz.prog 49 #[.slice A0 l0.length c0, .int .i64 a1] w fun e w' => e = .returned (.int .i64 r) ∧ zB0 w w' := by
 have HR0 := zA2.mk hr0
 have HC0 := zA2.mk hc0
 clear hr0 hc0
 have H : (zAn.l0 k l0 a1 l0 (l0.length : Int) 0) = some r := h
 clear h
 have H' := zA2.mk H
 clear H
 go_enter Tryz.func49, Tryz.ntmps49
 go_wp2
 go_loopg [9] k (fun kq v9 w' => ∃ (x9_1 : Int), v9 = .int .i64 x9_1 ∧ zA2 (zAn.l0 kq l0 a1 l0 (l0.length : Int) x9_1 = some r) ∧ zA2 (kq ≤ k) ∧ zB0 w w')
 case atStart => exact ⟨(0), (by first | rfl | (simp; done) | (simp [*]; done)), H', ⟨Nat.le_refl _⟩, by repeat (first | exact zB0.refl _ | apply zB0.step)⟩
 case round =>
  clear H'
  try clear p2
  obtain ⟨x9_1, rfl, HA, HK1, ⟨m1, rfl⟩⟩ := hrel
  cases gk with
  | zero => exact absurd HA.out (by simp [zAn.l0])
  | succ k1 =>
   have H := HA.out
   clear HA
   simp only [zAn.l0] at H
   by_cases c3 : x9_1 < (l0.length : Int)
   ·rw [if_pos c3] at H
    have c3b0 : decide (x9_1 < (l0.length : Int)) = true := decide_eq_true c3
    clear c3
    by_cases c4 : 0 ≤ x9_1
    rotate_left
    ·rw [if_neg c4] at H
     exact absurd H (by simp)
    rw [if_pos c4] at H
    have c4b0 : decide (0 ≤ x9_1) = true := decide_eq_true c4
    clear c4
    by_cases c5 : x9_1 < (l0.length : Int)
    rotate_left
    ·rw [if_neg c5] at H
     exact absurd H (by simp)
    rw [if_pos c5] at H
    have c5b0 : decide (x9_1 < (l0.length : Int)) = true := decide_eq_true c5
    clear c5
    have HC6 := zA2.mk H
    clear H
    have p137 : 0 ≤ (x9_1 : Int) := of_decide_eq_true (by first | (with_reducible assumption) | assumption)
    have q137 : x9_1 < (l0.length : Int) := of_decide_eq_true (by first | (with_reducible assumption) | assumption)
    obtain ⟨ad137, e137, hx137_0⟩ := Kd.zC6 HR0.out x9_1 p137 q137
    cases e137
    replace p137 := eq_true p137
    replace q137 := eq_true q137
    go_upto_region 4 with (fail)
    go_cut [20] (fun v20 wc => ∃ (kq : Nat) (x20_5 : Bool), v20 = .bool x20_5 ∧ zA2 (zAn.j1 kq l0 a1 x9_1 (rd l0 x9_1) l0 (l0.length : Int) x9_1 x20_5 = some r) ∧ zA2 (kq ≤ k1) ∧ zB0 w wc)
    case first =>
     have H := HC6.out
     clear HC6
     by_cases c7 : (rd l0 x9_1) < 0
     ·rw [if_pos c7] at H
      have c7b0 : decide ((rd l0 x9_1) < 0) = true := decide_eq_true c7
      clear c7
      (first | rw [c7b0] | (simp only [i64_w, i32_w]; rw [c7b0]) | skip)
      have H' := zA2.mk H
      clear H
      go_wp2
      go_meet
      case rel => exact ⟨_, (true), (by first | rfl | (simp; done) | (simp [*]; done)), H', ⟨by have := HK1.out; first | omega | exact Nat.le_refl _⟩, by repeat (first | exact zB0.refl _ | apply zB0.step)⟩
     ·rw [if_neg c7] at H
      have c7b0 : decide ((rd l0 x9_1) < 0) = false := decide_eq_false c7
      clear c7
      (first | rw [c7b0] | (simp only [i64_w, i32_w]; rw [c7b0]) | skip)
      have H' := zA2.mk H
      clear H
      go_wp2
      go_meet
      case rel => exact ⟨_, (decide ((rd l0 x9_1) ≥ a1)), (by first | rfl | (simp; done) | (simp [*]; done)), H', ⟨by have := HK1.out; first | omega | exact Nat.le_refl _⟩, by repeat (first | exact zB0.refl _ | apply zB0.step)⟩
    case rest =>
     clear HC6
     try clear p1
     try clear q1
     try clear hx1
     try clear p2
     try clear c3
     try clear c3b0
     try clear c4
     try clear c4b0
     try clear c5
     try clear c5b0
     try clear c7
     try clear c7b0
     try clear hx137_0
     try clear p137
     try clear p2
     try clear q137
     obtain ⟨kq, x20_5, rfl, HA, HJ5, ⟨mc5, rfl⟩⟩ := hcut
     cases kq with
     | zero => exact absurd HA.out (by simp [zAn.j1])
     | succ kj5 =>
      have H := HA.out
      clear HA
      simp only [zAn.j1] at H
      by_cases c8 : x20_5 = true
      ·subst c8
       have H1 : (some 2) = some r := by rw [if_pos rfl] at H; exact H
       clear H
       have H := H1
       clear H1
       obtain rfl := Option.some.inj H
       go_wp2
       go_ret
       exact ⟨by first | rfl | (simp; done) | (simp [*]; done), by repeat (first | exact zB0.refl _ | apply zB0.step)⟩
      ·replace c8 := Bool.eq_false_iff.mpr c8
       subst c8
       have H1 : (if x9_1 > 0 then (if 0 ≤ (wrap64 (x9_1 - 1)) then (if (wrap64 (x9_1 - 1)) < (l0.length : Int) then (if (rd l0 (wrap64 (x9_1 - 1))) ≥ (rd l0 x9_1) then (some 8) else (zAn.l0 kj5 l0 a1 l0 (l0.length : Int) (wrap64 (x9_1 + 1)))) else (none)) else (none)) else (zAn.l0 kj5 l0 a1 l0 (l0.length : Int) (wrap64 (x9_1 + 1)))) = some r := by rw [if_neg (show ¬ (false = true) by decide)] at H; exact H
       clear H
       have H := H1
       clear H1
       by_cases c9 : x9_1 > 0
       ·rw [if_pos c9] at H
        have c9b0 : decide (0 < x9_1) = true := decide_eq_true c9
        clear c9
        obtain ⟨ji10, hji10⟩ : ∃ j_ : Int, (wrap64 (x9_1 - 1)) = j_ := ⟨_, rfl⟩
        replace H : (if 0 ≤ (ji10) then (if (ji10) < (l0.length : Int) then (if (rd l0 (ji10)) ≥ (rd l0 x9_1) then (some 8) else (zAn.l0 kj5 l0 a1 l0 (l0.length : Int) (wrap64 (x9_1 + 1)))) else (none)) else (none)) = some r := by first | (rw [hji10] at H; exact H) | (simp only [hji10] at H ⊢; exact H)
        have hji10w : (IntKind.i64.wrap (x9_1 - 1)) = ji10 := (i64_w _).trans hji10
        by_cases c11 : 0 ≤ (ji10)
        rotate_left
        ·rw [if_neg c11] at H
         exact absurd H (by simp)
        rw [if_pos c11] at H
        have c11b0 : decide (0 ≤ (ji10)) = true := decide_eq_true c11
        clear c11
        by_cases c12 : (ji10) < (l0.length : Int)
        rotate_left
        ·rw [if_neg c12] at H
         exact absurd H (by simp)
        rw [if_pos c12] at H
        have c12b0 : decide ((ji10) < (l0.length : Int)) = true := decide_eq_true c12
        clear c12
        by_cases c13 : (rd l0 (ji10)) ≥ (rd l0 x9_1)
        ·rw [if_pos c13] at H
         have c13b0 : decide ((rd l0 x9_1) ≤ (rd l0 (ji10))) = true := decide_eq_true c13
         clear c13
         obtain rfl := Option.some.inj H
         have p138 : 0 ≤ ((ji10) : Int) := of_decide_eq_true (by first | (with_reducible assumption) | assumption)
         have q138 : (ji10) < (l0.length : Int) := of_decide_eq_true (by first | (with_reducible assumption) | assumption)
         obtain ⟨ad138, e138, hx138_0⟩ := Kd.zC6 HR0.out (ji10) p138 q138
         obtain rfl : ad137 = ad138 := (by injection e138)
         replace p138 := eq_true p138
         replace q138 := eq_true q138
         go_wp2
         go_ret
         exact ⟨by first | rfl | (simp; done) | (simp only [← hji10] <;> (first | rfl | simp)) | (simp [*]; done), by repeat (first | exact zB0.refl _ | apply zB0.step)⟩
        ·rw [if_neg c13] at H
         have c13b0 : decide ((rd l0 x9_1) ≤ (rd l0 (ji10))) = false := decide_eq_false c13
         clear c13
         have H' := zA2.mk H
         clear H
         have p138 : 0 ≤ ((ji10) : Int) := of_decide_eq_true (by first | (with_reducible assumption) | assumption)
         have q138 : (ji10) < (l0.length : Int) := of_decide_eq_true (by first | (with_reducible assumption) | assumption)
         obtain ⟨ad138, e138, hx138_0⟩ := Kd.zC6 HR0.out (ji10) p138 q138
         obtain rfl : ad137 = ad138 := (by injection e138)
         replace p138 := eq_true p138
         replace q138 := eq_true q138
         go_wp2
         go_roundg kj5
         case measure => have := HK1.out; have := HJ5.out; omega
         case rel => exact ⟨(wrap64 (x9_1 + 1)), (by first | rfl | (simp; done) | (simp [*]; done)), H', ⟨by have := HK1.out; have := HJ5.out; omega⟩, by repeat (first | exact zB0.refl _ | apply zB0.step)⟩
       ·rw [if_neg c9] at H
        have c9b0 : decide (0 < x9_1) = false := decide_eq_false c9
        clear c9
        have H' := zA2.mk H
        clear H
        go_wp2
        go_roundg kj5
        case measure => have := HK1.out; have := HJ5.out; omega
        case rel => exact ⟨(wrap64 (x9_1 + 1)), (by first | rfl | (simp; done) | (simp [*]; done)), H', ⟨by have := HK1.out; have := HJ5.out; omega⟩, by repeat (first | exact zB0.refl _ | apply zB0.step)⟩
   ·rw [if_neg c3] at H
    have c3b0 : decide (x9_1 < (l0.length : Int)) = false := decide_eq_false c3
    clear c3
    obtain rfl := Option.some.inj H
    go_wp2
    go_ret
    exact ⟨by first | rfl | (simp; done) | (simp [*]; done), by repeat (first | exact zB0.refl _ | apply zB0.step)⟩
end
end Go.Proofs.YtbghfbhlbfcloaaGreatDoor.PL
namespace Go.Proofs.YtbghfbhlbfcloaaGreatDoor.PL
section
open Go.RowKit Go.Proofs.YtbghfbhlbfcloaaGreatDoorW.PrintWords Go.Proofs.YtbghfbhlbfcloaaGreatDoorW.PrintLast Go.Proofs.YtbghfbhlbfcloaaGreatDoorW.PrintMore
attribute [local go_sem] zBu zBs zC3 zC2 zBn zBm zBt zBr   -- for this text's walks alone
set_option linter.unusedVariables false
set_option linter.unusedSimpArgs false
def zAw.l0 : Nat → List Int → List (S58) → Int → Int → Option (List Int)
 | 0, _, _, _, _ => none
 | k + 1, x3, x10, x11, x12 => if x12 < x11 then (if 0 ≤ x12 then (if x12 < (x10.length : Int) then (if 0 ≤ ((zAu x10 x12).f0) then (if ((zAu x10 x12).f0) < (x3.length : Int) then (if 0 ≤ ((zAu x10 x12).f1) then (zAw.l0 k (x3.set (((zAu x10 x12).f0) : Int).toNat (Go.bits .or .u64 (rd x3 ((zAu x10 x12).f0)) (shl .u64 1 ((zAu x10 x12).f1)))) x10 x11 (wrap64 (x12 + 1))) else (none)) else (none)) else (none)) else (none)) else (none)) else (some x3)
def zAw.f (k : Nat) (a0_0 : Int) (l0_1 : List (S58)) : Option (List Int) := if 0 ≤ a0_0 then (if (a0_0 : Int).toNat ≤ 35184372088832 then (zAw.l0 k (List.replicate (a0_0 : Int).toNat 0) l0_1 (l0_1.length : Int) 0) else (none)) else (none)
theorem zAw.zBv : ∀ k, (∀ y0 y1 y2 y3, LeO (zAw.l0 k y0 y1 y2 y3) (zAw.l0 (k + 1) y0 y1 y2 y3))
 | 0 => fun _ _ _ _ r h => by simp [zAw.l0] at h
 | k + 1 => by
  have ih0 := zAw.zBv k
  ·intro y0 y1 y2 y3
   unfold zAw.l0
   repeat' first
   | (with_reducible exact ih0 _ _ _ _)
   | (with_reducible exact LeO.refl _)
   | (with_reducible exact LeO.none _)
   | (with_reducible refine LeO.ite ?_ ?_)
   | (with_reducible refine LeO.bind ?_ (fun _ => ?_))
theorem zAw.mono : ∀ a0 a1 k, LeO (zAw.f k a0 a1) (zAw.f (k + 1) a0 a1) := by
 intro a0 a1 k
 have ih0 := zAw.zBv k
 unfold zAw.f
 repeat' first
   | (with_reducible exact ih0 _ _ _ _)
   | (with_reducible exact LeO.refl _)
   | (with_reducible exact LeO.none _)
   | (with_reducible refine LeO.ite ?_ ?_)
   | (with_reducible refine LeO.bind ?_ (fun _ => ?_))
def zAw.T5 : Bool × List (List Nat × List Nat) := (true, [([], []), ([], []), ([1], [1]), ([0, 2], [0, 2]), ([3], [3]), ([], []), ([5], [5]), ([6], [6]), ([4, 7], [4, 7]), ([0, 2, 0, 1, 2, 3, 4, 5, 6, 7, 8], [0, 2]), ([9, 8, 0, 1, 2, 3, 4, 5, 6, 7, 8], [8, 9])])
def zAw.B5 : List Nat := [0, 0, 2, 7, 15, 0, 32, 96, 255, 511, 1023]
theorem zAw.tab5 : rtab .any (opsOf Tryz.f50 5) = zAw.T5 := by kernel_rfl
theorem zAw.bits5 : waitsOk zAw.T5.2 zAw.B5 = true := by kernel_rfl
set_option maxHeartbeats 8000000 in
set_option maxRecDepth 100000 in
theorem zAw.calls (k : Nat) (a0_0 : Int) (A0_1 : Option Addr) (c0_1 : Nat) (l0_1 : List (S58)) (r : List Int) (w : World) (hr0_1 : Kd.C k58 w A0_1 l0_1.length l0_1) (hc0_1 : l0_1.length ≤ c0_1) (h : zAw.f k a0_0 l0_1 = some r) :
  Calls Tryz.prog 50 #[.agg #[.int .i64 a0_0, .slice A0_1 l0_1.length c0_1]] w fun e w' => ∃ v0_ : Value, e = .returned (v0_) ∧ Kd.R (Kd.int .u64) 65 w' w.heap.size (fun _ => True) v0_ r ∧ Below w.heap.size w w' := by
 have hu28 := Tryz.underlying28
 have hu58 := Tryz.underlying58
 have HR0_1 := zA2.mk hr0_1
 have HC0_1 := zA2.mk hc0_1
 clear hr0_1 hc0_1
 have HB := zA2.mk (Below.refl w.heap.size w)
 have H : (if 0 ≤ a0_0 then (if (a0_0 : Int).toNat ≤ 35184372088832 then (zAw.l0 k (List.replicate (a0_0 : Int).toNat 0) l0_1 (l0_1.length : Int) 0) else (none)) else (none)) = some r := h
 clear h
 by_cases c2 : 0 ≤ a0_0
 rotate_left
 ·rw [if_neg c2] at H
  exact absurd H (by simp)
 rw [if_pos c2] at H
 have c2b0 := eq_true c2
 have c2b1 : decide (0 ≤ a0_0) = true := decide_eq_true c2
 clear c2
 by_cases c3 : (a0_0 : Int).toNat ≤ 35184372088832
 rotate_left
 ·rw [if_neg c3] at H
  exact absurd H (by simp)
 rw [if_pos c3] at H
 have c3b0 := eq_true c3
 have c3b1 : decide ((a0_0 : Int).toNat ≤ 35184372088832) = true := decide_eq_true c3
 clear c3
 obtain ⟨y140, hy140⟩ : ∃ y_ : List Int, y_ = (List.replicate (a0_0 : Int).toNat 0) := ⟨_, rfl⟩
 replace H : (zAw.l0 k y140 l0_1 (l0_1.length : Int) 0) = some r := by first | (rw [hy140]; with_reducible exact H) | (have H2_ := (Option.bind_some _ _).symm.trans H; rw [hy140]; with_reducible exact H2_) | (have H2_ := (Option.bind_some _ _).symm.trans H; with_reducible exact H2_) | with_reducible exact H | (rw [hy140]; exact H) | exact H
 have Ny140 := zA2.mk hy140
 clear hy140
 have H' := zA2.mk H
 clear H
 go_enter Tryz.func50, Tryz.ntmps50
 go_wp2_with (first | ((with_reducible refine zBl (N := 1) rfl ?_); refine zBj ?hg (N := 1) ?hd (cs := #[.int .i64 a0_0, .slice A0_1 l0_1.length c0_1]) (t := 28) ?hr ?_; (case hd => rfl); (case hg => rfl); (case hr => first | (go_simp; done) | (go_simp; rfl)); intro gb139 hg w4 hbox hb; have n0_ := zA2.mk (zAe (by repeat (first | (with_reducible first | exact HB.out | apply zA1 | apply zA0 | apply zA3) | exact HB.out)) hb); have n1_ := zA2.mk (hbox); have n2_ := zA2.mk ((by rw [hg]; exact (zAb (by repeat (first | (with_reducible first | exact HB.out | apply zA1 | apply zA0 | apply zA3) | exact HB.out))) : w.heap.size ≤ gb139)); have n3_ := zA2.mk ((by rw [hg]; exact (zAb (by repeat (first | (with_reducible first | exact HB.out | apply zA1 | apply zA0 | apply zA3) | exact HB.out))) : w.heap.size ≤ gb139)); clear HB; have HB := n0_; have BK139 := n1_; have GW139 := n2_; have GE139 := n3_; clear n0_ n1_ n2_ n3_; clear hb hbox hg; have hcz5_0 : w4.cell? ⟨gb139, 0, none⟩ = some (.int .i64 a0_0) := (zA7 BK139.out 0).trans rfl; have hcz5_1 : w4.cell? ⟨gb139, 1, none⟩ = some (.slice A0_1 l0_1.length c0_1) := (zA7 BK139.out 1).trans rfl; have hfz5_0 := zA9 BK139.out 0; have hfz5_1 := zA9 BK139.out 1) | ((with_reducible refine zBl (N := 8) rfl ?_); refine Kd.R_make (Kd.int .u64) _ 65 rfl (N := 8) rfl 64 _ _ rfl a0_0 rfl rfl Tryz.underlying64 (.int .u64 0) 8 info65 rfl (by decide) (by omega) 0 (ok := fun _ => True) (okp := fun _ => True) rfl (fun _ hk => hk) trivial (of_decide_eq_true (by first | (with_reducible assumption) | assumption)) (Nat.le_trans (Nat.mul_le_mul_right _ (of_decide_eq_true (by first | (with_reducible assumption) | assumption) : a0_0.toNat ≤ 35184372088832)) (by omega)) (Below.refl _ _) (Nat.le_refl _) ?_; intro v141 w6 ho7 hb hg_ hnew_; clear hg_ hnew_; (first | rw [← Ny140.out] at ho7 | (simp only [Int.reduceToNat] at ho7; rw [← Ny140.out] at ho7)); have n0_ := zA2.mk (Kd.R_lower ho7 (zAb (by repeat (first | (with_reducible first | exact HB.out | apply zA1 | apply zA0 | apply zA3 | refine zA4 ?_ GE139.out) | exact HB.out)))); have n1_ := zA2.mk (zAl (g := gb139) (o := .cells #[.int .i64 a0_0, .slice A0_1 l0_1.length c0_1] 28 (0, 0)) (by (with_reducible repeat (first | refine zA6 ?_ _ | refine zA8 ?_ | refine zA5 ?_ _)); exact BK139.out) hb); have n2_ := zA2.mk (zAe (by repeat (first | (with_reducible first | exact HB.out | apply zA1 | apply zA0 | apply zA3 | refine zA4 ?_ GE139.out) | exact HB.out)) hb); clear BK139; clear HB; have HO142 := n0_; have BK139 := n1_; have HB := n2_; clear n0_ n1_ n2_; clear hb ho7; have hcz8_0 : w6.cell? ⟨gb139, 0, none⟩ = some (.int .i64 a0_0) := (zA7 BK139.out 0).trans rfl; have hcz8_1 : w6.cell? ⟨gb139, 1, none⟩ = some (.slice A0_1 l0_1.length c0_1) := (zA7 BK139.out 1).trans rfl; have hfz8_0 := zA9 BK139.out 0; have hfz8_1 := zA9 BK139.out 1))
 go_loopg [12] k (fun kq v12 w' => ∃ (x3_1 : List Int) (x12_1 : Int), v12 = .int .i64 x12_1 ∧ zA2 (zAw.l0 kq x3_1 l0_1 (l0_1.length : Int) x12_1 = some r) ∧ zA2 (kq ≤ k) ∧ zA2 (Kd.R (Kd.int .u64) 65 w' w.heap.size (fun _ => True) v141 x3_1) ∧ zA2 (w'.heap[gb139]? = some (.cells #[.int .i64 a0_0, (.slice A0_1 l0_1.length c0_1)] 28 (0, 0))) ∧ zA2 (Below w.heap.size w w'))
 case atStart => exact ⟨(y140), (0), (by first | rfl | (simp; done) | (simp [*]; done)), H', ⟨Nat.le_refl _⟩, ⟨by (with_reducible repeat (first | apply Kd.zB6 | apply Kd.zB5 | apply Kd.zBf)); exact HO142.out⟩, ⟨by (with_reducible repeat (first | refine zA6 ?_ _ | refine zA8 ?_ | refine zA5 ?_ _)); exact BK139.out⟩, ⟨by repeat (first | (with_reducible first | exact HB.out | apply zA1 | apply zA0 | apply zA3 | refine zA4 ?_ GE139.out) | exact HB.out)⟩⟩
 case round =>
  clear H'
  try clear c2
  try clear c2b0
  try clear c2b1
  try clear p2
  try clear c3
  try clear c3b0
  try clear c3b1
  try clear c5
  try clear hcz5_0
  try clear hcz5_1
  try clear hcz8_0
  try clear hcz8_1
  try clear hfz5_0
  try clear hfz5_1
  try clear hfz8_0
  try clear hfz8_1
  obtain ⟨x3_1, x12_1, rfl, HA, HK1, HO_3, BK139, HB⟩ := hrel
  cases gk with
  | zero => exact absurd HA.out (by simp [zAw.l0])
  | succ k1 =>
   have H := HA.out
   clear HA
   simp only [zAw.l0] at H
   by_cases c9 : x12_1 < (l0_1.length : Int)
   ·rw [if_pos c9] at H
    have c9b0 : decide (x12_1 < (l0_1.length : Int)) = true := decide_eq_true c9
    clear c9
    by_cases c10 : 0 ≤ x12_1
    rotate_left
    ·rw [if_neg c10] at H
     exact absurd H (by simp)
    rw [if_pos c10] at H
    have c10b0 : decide (0 ≤ x12_1) = true := decide_eq_true c10
    clear c10
    by_cases c11 : x12_1 < (l0_1.length : Int)
    rotate_left
    ·rw [if_neg c11] at H
     exact absurd H (by simp)
    rw [if_pos c11] at H
    have c11b0 : decide (x12_1 < (l0_1.length : Int)) = true := decide_eq_true c11
    clear c11
    by_cases c12 : 0 ≤ ((zAu l0_1 x12_1).f0)
    rotate_left
    ·rw [if_neg c12] at H
     exact absurd H (by simp)
    rw [if_pos c12] at H
    have c12b0 : decide (0 ≤ ((zAu l0_1 x12_1).f0)) = true := decide_eq_true c12
    clear c12
    by_cases c13 : ((zAu l0_1 x12_1).f0) < (x3_1.length : Int)
    rotate_left
    ·rw [if_neg c13] at H
     exact absurd H (by simp)
    rw [if_pos c13] at H
    have c13b0 : decide (((zAu l0_1 x12_1).f0) < (x3_1.length : Int)) = true := decide_eq_true c13
    clear c13
    by_cases c14 : 0 ≤ ((zAu l0_1 x12_1).f1)
    rotate_left
    ·rw [if_neg c14] at H
     exact absurd H (by simp)
    rw [if_pos c14] at H
    have c14b0 := eq_true c14
    have c14b1 : decide (0 ≤ ((zAu l0_1 x12_1).f1)) = true := decide_eq_true c14
    clear c14
    obtain ⟨ji15, hji15⟩ : ∃ j_ : Int, (shl .u64 1 ((zAu l0_1 x12_1).f1)) = j_ := ⟨_, rfl⟩
    replace H : (zAw.l0 k1 (x3_1.set (((zAu l0_1 x12_1).f0) : Int).toNat (Go.bits .or .u64 (rd x3_1 ((zAu l0_1 x12_1).f0)) (ji15))) l0_1 (l0_1.length : Int) (wrap64 (x12_1 + 1))) = some r := by first | (rw [hji15] at H; exact H) | (simp only [hji15] at H ⊢; exact H)
    have hji15_ : (IntKind.u64.wrap (1 * 2 ^ min ((zAu l0_1 x12_1).f1).toNat 64)) = ji15 := hji15
    have hji15z : ((zAu l0_1 x12_1).f1) ≤ 64 → (IntKind.u64.wrap (1 * 2 ^ ((zAu l0_1 x12_1).f1).toNat)) = ji15 := shl_small hji15
    have hji15u : (IntKind.u64.wrap (2 ^ min ((zAu l0_1 x12_1).f1).toNat 64)) = ji15 := by have h_ := hji15_; rw [Int.one_mul] at h_; exact h_
    have hji15v : ((zAu l0_1 x12_1).f1) ≤ 64 → (IntKind.u64.wrap (2 ^ ((zAu l0_1 x12_1).f1).toNat)) = ji15 := fun hle_ => by have h_ := hji15z hle_; rw [Int.one_mul] at h_; exact h_
    obtain ⟨y146, hy146⟩ : ∃ y_ : List Int, y_ = (x3_1.set (((zAu l0_1 x12_1).f0) : Int).toNat (Go.bits .or .u64 (rd x3_1 ((zAu l0_1 x12_1).f0)) (ji15))) := ⟨_, rfl⟩
    replace H : (zAw.l0 k1 y146 l0_1 (l0_1.length : Int) (wrap64 (x12_1 + 1))) = some r := by first | (rw [hy146]; with_reducible exact H) | (have H2_ := (Option.bind_some _ _).symm.trans H; rw [hy146]; with_reducible exact H2_) | (have H2_ := (Option.bind_some _ _).symm.trans H; with_reducible exact H2_) | with_reducible exact H | (rw [hy146]; exact H) | exact H
    have Ny146 := zA2.mk hy146
    clear hy146
    have H' := zA2.mk H
    clear H
    have p143 : 0 ≤ (x12_1 : Int) := of_decide_eq_true (by first | (with_reducible assumption) | assumption)
    have q143 : x12_1 < (l0_1.length : Int) := of_decide_eq_true (by first | (with_reducible assumption) | assumption)
    obtain ⟨ad143, e143, hx143_0, hx143_1⟩ := at_T58 HR0_1.out x12_1 p143 q143
    cases e143
    replace hx143_0 := (HB.out.cell (World.block_lt_of_cell? w _ hx143_0)).trans hx143_0
    replace hx143_1 := (HB.out.cell (World.block_lt_of_cell? w _ hx143_1)).trans hx143_1
    replace p143 := eq_true p143
    replace q143 := eq_true q143
    try go_wp2_with (first | ((with_reducible refine zBl (N := 5) rfl ?_); refine zBj ?hg (N := 5) ?hd (cs := #[.int .i64 0, .int .i64 0]) (t := 58) ?hr ?_; (case hd => rfl); (case hg => rfl); (case hr => first | (go_simp; done) | (go_simp; rfl)); intro gb144 hg w17 hbox hb; have n0_ := zA2.mk (Kd.R_below (by (with_reducible repeat (first | apply Kd.zB6 | apply Kd.zB5 | apply Kd.zBf)); exact HO_3.out) hb); have n1_ := zA2.mk (zAl (g := gb139) (o := .cells #[.int .i64 a0_0, .slice (some ad143) l0_1.length c0_1] 28 (0, 0)) (by (with_reducible repeat (first | refine zA6 ?_ _ | refine zA8 ?_ | refine zA5 ?_ _)); exact BK139.out) hb); have n2_ := zA2.mk (zAe (by repeat (first | (with_reducible first | exact HB.out | apply zA1 | apply zA0 | apply zA3 | refine zA4 ?_ GE139.out) | exact HB.out)) hb); have n3_ := zA2.mk (hbox); have n4_ := zA2.mk ((by rw [hg]; exact (zAb (by repeat (first | (with_reducible first | exact HB.out | apply zA1 | apply zA0 | apply zA3 | refine zA4 ?_ GE139.out) | exact HB.out))) : w.heap.size ≤ gb144)); have n5_ := zA2.mk ((by rw [hg]; exact (zAb (by repeat (first | (with_reducible first | exact HB.out | apply zA1 | apply zA0 | apply zA3 | refine zA4 ?_ GE139.out) | exact HB.out))) : w.heap.size ≤ gb144)); have n6_ := zA2.mk ((by rw [hg]; exact Nat.ne_of_lt (zC8 (g := gb139) (o := .cells #[.int .i64 a0_0, .slice (some ad143) l0_1.length c0_1] 28 (0, 0)) (by (with_reducible repeat (first | refine zA6 ?_ _ | refine zA8 ?_ | refine zA5 ?_ _)); exact BK139.out)) : gb139 ≠ gb144)); have n7_ := zA2.mk ((by rw [hg]; exact Nat.ne_of_gt (zC8 (g := gb139) (o := .cells #[.int .i64 a0_0, .slice (some ad143) l0_1.length c0_1] 28 (0, 0)) (by (with_reducible repeat (first | refine zA6 ?_ _ | refine zA8 ?_ | refine zA5 ?_ _)); exact BK139.out)) : gb144 ≠ gb139)); clear HO_3; clear BK139; clear HB; have HO_3 := n0_; have BK139 := n1_; have HB := n2_; have BK144 := n3_; have GW144 := n4_; have GE144 := n5_; have NB139_144 := n6_; have NB144_139 := n7_; clear n0_ n1_ n2_ n3_ n4_ n5_ n6_ n7_; clear hb hbox hg; have hnb18 := NB144_139.out; have hnc18 := NB139_144.out; have hcz19_0 : w17.cell? ⟨gb144, 0, none⟩ = some (.int .i64 0) := (zA7 BK144.out 0).trans rfl; have hcz19_1 : w17.cell? ⟨gb144, 1, none⟩ = some (.int .i64 0) := (zA7 BK144.out 1).trans rfl; have hfz19_0 := zA9 BK144.out 0; have hfz19_1 := zA9 BK144.out 1))
    have n0_ : zA2 (Kd.R (Kd.int .u64) 65 ((w17.setCell ⟨gb144, 0, none⟩ (.int .i64 ((zAu l0_1 x12_1).f0))).setCell ⟨gb144, 1, none⟩ (.int .i64 ((zAu l0_1 x12_1).f1))) w.heap.size (fun _ => True) v141 x3_1) := ⟨by (with_reducible repeat (first | apply Kd.zB6 | apply Kd.zB5 | apply Kd.zBf)); exact Kd.R_mono (Kd.R_far (p := ⟨gb144, 1, none⟩) (Kd.R_far (p := ⟨gb144, 0, none⟩) (Kd.R_types HO_3.out BK144.out (by decide)) (fun _ hk => hk.2) (.int .i64 ((zAu l0_1 x12_1).f0))) (fun _ hk => hk.2) (.int .i64 ((zAu l0_1 x12_1).f1))) (fun _ hk => trivial)⟩
    have n1_ : zA2 (((w17.setCell ⟨gb144, 0, none⟩ (.int .i64 ((zAu l0_1 x12_1).f0))).setCell ⟨gb144, 1, none⟩ (.int .i64 ((zAu l0_1 x12_1).f1))).heap[gb139]? = some (.cells #[.int .i64 a0_0, .slice (some ad143) l0_1.length c0_1] 28 (0, 0))) := ⟨by (with_reducible repeat (first | refine zA6 ?_ _ | refine zA8 ?_ | refine zA5 ?_ _)); refine blk_far ?_ NB139_144.out _; (with_reducible repeat (first | refine zA6 ?_ _ | refine zA8 ?_ | refine zA5 ?_ _)); refine blk_far ?_ NB139_144.out _; (with_reducible repeat (first | refine zA6 ?_ _ | refine zA8 ?_ | refine zA5 ?_ _)); exact BK139.out⟩
    have n2_ : zA2 (((w17.setCell ⟨gb144, 0, none⟩ (.int .i64 ((zAu l0_1 x12_1).f0))).setCell ⟨gb144, 1, none⟩ (.int .i64 ((zAu l0_1 x12_1).f1))).heap[gb144]? = some (.cells #[.int .i64 ((zAu l0_1 x12_1).f0), .int .i64 ((zAu l0_1 x12_1).f1)] 58 (0, 0))) := ⟨by (with_reducible repeat (first | refine zA6 ?_ _ | refine zA8 ?_ | refine zA5 ?_ _)); refine blk_put (cs := #[.int .i64 ((zAu l0_1 x12_1).f0), .int .i64 0]) ?_ 1 _ rfl; (with_reducible repeat (first | refine zA6 ?_ _ | refine zA8 ?_ | refine zA5 ?_ _)); refine blk_put (cs := #[.int .i64 0, .int .i64 0]) ?_ 0 _ rfl; (with_reducible repeat (first | refine zA6 ?_ _ | refine zA8 ?_ | refine zA5 ?_ _)); exact BK144.out⟩
    have n3_ : zA2 (Below w.heap.size w ((w17.setCell ⟨gb144, 0, none⟩ (.int .i64 ((zAu l0_1 x12_1).f0))).setCell ⟨gb144, 1, none⟩ (.int .i64 ((zAu l0_1 x12_1).f1)))) := ⟨by repeat (first | (with_reducible first | exact HB.out | apply zA1 | apply zA0 | apply zA3 | refine zA4 ?_ GE139.out | refine zA4 ?_ GE144.out) | exact HB.out)⟩
    (try clear HO_3)
    (try clear BK139)
    (try clear BK144)
    (try clear HB)
    generalize ((w17.setCell ⟨gb144, 0, none⟩ (.int .i64 ((zAu l0_1 x12_1).f0))).setCell ⟨gb144, 1, none⟩ (.int .i64 ((zAu l0_1 x12_1).f1))) = w20 at n0_ n1_ n2_ n3_ ⊢
    have HO_3 := n0_
    have BK139 := n1_
    have BK144 := n2_
    have HB := n3_
    clear n0_ n1_ n2_ n3_
    have n0_ := zA2.mk (Kd.zBf HO_3.out)
    have n1_ := zA2.mk (zA8 BK139.out)
    have n2_ := zA2.mk (zA8 BK144.out)
    have n3_ := zA2.mk (zA3 HB.out)
    clear HO_3
    clear BK139
    clear BK144
    clear HB
    have HO_3 := n0_
    have BK139 := n1_
    have BK144 := n2_
    have HB := n3_
    clear n0_ n1_ n2_ n3_
    obtain ⟨Ao22, co22, eo22⟩ := Kd.zCa HO_3.out
    (first | subst eo22 | (injection eo22 with f1_ f2_ f3_; have f4_ := f1_.symm; have f5_ := f3_.symm; clear f1_ f2_ f3_; subst f4_; subst f5_))
    have p145 : 0 ≤ (((zAu l0_1 x12_1).f0) : Int) := of_decide_eq_true (by first | (with_reducible assumption) | assumption)
    have q145 : ((zAu l0_1 x12_1).f0) < (x3_1.length : Int) := of_decide_eq_true (by first | (with_reducible assumption) | assumption)
    obtain ⟨ad145, e145, hx145_0⟩ := Kd.zC6 (Kd.zBp HO_3.out).2.2 ((zAu l0_1 x12_1).f0) p145 q145
    cases e145
    replace p145 := eq_true p145
    replace q145 := eq_true q145
    have p16 : 0 ≤ (((zAu l0_1 x12_1).f0) : Int) := of_decide_eq_true (by first | (with_reducible assumption) | assumption)
    have q16 : (((zAu l0_1 x12_1).f0) : Int) < ((x3_1.length : Int) : Int) := of_decide_eq_true (by first | (with_reducible assumption) | assumption)
    obtain ⟨go16, co16, eo16, gb16, gl16, cl16, HG16⟩ := Kd.R_form HO_3.out (by omega)
    (first | cases eo16 | (injection eo16 with ea_ en_ ec_; (first | subst ea_ | (injection ea_ with ea_; subst ea_)); subst ec_; clear en_))
    have GB16 := zA2.mk gb16
    have GG16 := zA2.mk HG16
    clear gb16 gl16 HG16
    (first | simp only [add_plain] at hx145_0 | skip)
    obtain ⟨hx16_0, hf16_0⟩ := Kd.R_celln 0 HO_3.out (((zAu l0_1 x12_1).f0) : Int) p16 q16
    replace p16 := eq_true p16
    replace q16 := eq_true q16
    have HP23 := Kd.R_putn HO_3.out (((zAu l0_1 x12_1).f0) : Int) (Go.bits .or .u64 (rd x3_1 ((zAu l0_1 x12_1).f0)) (ji15))
    rw [← Ny146.out] at HP23
    have HQ23 := zA2.mk HP23
    clear HP23
    refine start_ (n := 11) (S := fun w' => w'.cell? ⟨gb144, 0, none⟩ = some (.int .i64 ((zAu l0_1 x12_1).f0)) ∧ w'.cell? ⟨gb144, 1, none⟩ = some (.int .i64 ((zAu l0_1 x12_1).f1)) ∧ w'.cell? ⟨go16, (((zAu l0_1 x12_1).f0)).toNat, none⟩ = some (.int .u64 (rd x3_1 ((zAu l0_1 x12_1).f0)))) (ds := [10]) #[false, false, false, false, false, false, false, false, false, false, false] (by kernel_rfl) rfl rfl ⟨(zA7 BK144.out 0).trans rfl, (zA7 BK144.out 1).trans rfl, hx145_0⟩ (fun hHeld => ?_); refine with_tabW zAw.tab5 zAw.bits5 (fun HT_ HW_ => ?_)
    generalize w20.drew = w21 at HO_3 BK139 BK144 HB GG16 HQ23 hf16_0 hx145_0 hx16_0 hHeld ⊢
    refine pure_ (i := 0) (N := some 16) (v := ?_) (a' := ?_) #[true, false, false, false, false, false, false, false, false, false, false] rfl rfl (zBe HT_.out (by kernel_rfl)) (fun _ _ _ h => h) (Or.inl ⟨by rfl, ?_⟩) ?_ ?_
    rotate_left
    ·intro w'
     go_simp
     with_reducible rfl
    rotate_left
    ·simp only [Act.put, List.setIfInBounds_toArray, List.set_cons_zero, List.set_cons_succ, i64_w, i32_w]
     rfl
    refine pure_ (i := 1) (N := some 17) (v := ?_) (a' := ?_) #[true, true, false, false, false, false, false, false, false, false, false] rfl rfl (zBe HT_.out (by kernel_rfl)) (fun _ _ _ h => h) (Or.inl ⟨by rfl, ?_⟩) ?_ ?_
    rotate_left
    ·intro w'
     go_simp
     with_reducible rfl
    rotate_left
    ·simp only [Act.put, List.setIfInBounds_toArray, List.set_cons_zero, List.set_cons_succ, i64_w, i32_w]
     rfl
    refine pure_ (i := 5) (N := some 21) (v := ?_) (a' := ?_) #[true, true, false, false, false, true, false, false, false, false, false] rfl rfl (zBe HT_.out (by kernel_rfl)) (fun _ _ _ h => h) (Or.inl ⟨by rfl, ?_⟩) ?_ ?_
    rotate_left
    ·intro w'
     go_simp
     with_reducible rfl
    rotate_left
    ·simp only [Act.put, List.setIfInBounds_toArray, List.set_cons_zero, List.set_cons_succ, i64_w, i32_w]
     rfl
    refine take_ (i := 2) (N := some 18) (v := ?_) (a' := ?_) #[true, true, true, false, false, true, false, false, false, false, false] rfl rfl (zC0 HT_.out HW_.out (by kernel_rfl)) (fun _ _ _ h => h) (Or.inl ⟨by rfl, ?_⟩) hHeld ?_ ?_
    rotate_left
    ·rintro w' ⟨s0, s1, s2⟩
     go_simp
     with_reducible rfl
    rotate_left
    ·simp only [Act.put, List.setIfInBounds_toArray, List.set_cons_zero, List.set_cons_succ, i64_w, i32_w]
     rfl
    refine pure_ (i := 3) (N := some 19) (v := ?_) (a' := ?_) #[true, true, true, true, false, true, false, false, false, false, false] rfl rfl (zBe HT_.out (by kernel_rfl)) (fun _ _ _ h => h) (Or.inl ⟨by rfl, ?_⟩) ?_ ?_
    rotate_left
    ·intro w'
     go_simp
     with_reducible rfl
    rotate_left
    ·simp only [Act.put, List.setIfInBounds_toArray, List.set_cons_zero, List.set_cons_succ, i64_w, i32_w]
     rfl
    refine take_ (i := 4) (N := some 20) (v := ?_) (a' := ?_) #[true, true, true, true, true, true, false, false, false, false, false] rfl rfl (zC0 HT_.out HW_.out (by kernel_rfl)) (fun _ _ _ h => h) (Or.inl ⟨by rfl, ?_⟩) hHeld ?_ ?_
    rotate_left
    ·rintro w' ⟨s0, s1, s2⟩
     go_simp
     with_reducible rfl
    rotate_left
    ·simp only [Act.put, List.setIfInBounds_toArray, List.set_cons_zero, List.set_cons_succ, i64_w, i32_w]
     rfl
    refine take_ (i := 6) (N := some 22) (v := ?_) (a' := ?_) #[true, true, true, true, true, true, true, false, false, false, false] rfl rfl (zC0 HT_.out HW_.out (by kernel_rfl)) (fun _ _ _ h => h) (Or.inl ⟨by rfl, ?_⟩) hHeld ?_ ?_
    rotate_left
    ·rintro w' ⟨s0, s1, s2⟩
     go_simp
     with_reducible rfl
    rotate_left
    ·simp only [Act.put, List.setIfInBounds_toArray, List.set_cons_zero, List.set_cons_succ, i64_w, i32_w]
     rfl
    refine pure_ (i := 7) (N := some 23) (v := ?_) (a' := ?_) #[true, true, true, true, true, true, true, true, false, false, false] rfl rfl (zBe HT_.out (by kernel_rfl)) (fun _ _ _ h => h) (Or.inl ⟨by rfl, ?_⟩) ?_ ?_
    rotate_left
    ·intro w'
     go_simp
     with_reducible rfl
    rotate_left
    ·simp only [Act.put, List.setIfInBounds_toArray, List.set_cons_zero, List.set_cons_succ, i64_w, i32_w]
     rfl
    refine pure_ (i := 8) (N := some 24) (v := ?_) (a' := ?_) #[true, true, true, true, true, true, true, true, true, false, false] rfl rfl (zBe HT_.out (by kernel_rfl)) (fun _ _ _ h => h) (Or.inl ⟨by rfl, ?_⟩) ?_ ?_
    rotate_left
    ·intro w'
     go_simp
     with_reducible rfl
    rotate_left
    ·simp only [Act.put, List.setIfInBounds_toArray, List.set_cons_zero, List.set_cons_succ, i64_w, i32_w]
     rfl
    refine pure_ (i := 9) (N := some 25) (v := ?_) (a' := ?_) #[true, true, true, true, true, true, true, true, true, true, false] rfl rfl (zBe HT_.out (by kernel_rfl)) (fun _ _ _ h => h) (Or.inl ⟨by rfl, ?_⟩) ?_ ?_
    rotate_left
    ·intro w'
     go_simp
     with_reducible rfl
    rotate_left
    ·simp only [Act.put, List.setIfInBounds_toArray, List.set_cons_zero, List.set_cons_succ, i64_w, i32_w]
     rfl
    refine last_ (i := 10) (N := none) #[true, true, true, true, true, true, true, true, true, true, true] rfl rfl (one_of HT_.out (by kernel_rfl)) (by decide) (fun K hK => ?_)
    refine skip_ (w1 := ?_) (by rfl) rfl ?_ ?_
    rotate_left
    ·go_simp
     rfl
    refine hK.out _ _ ?_
    clear hK K
    refine done_ (done_of HT_.out (by kernel_rfl)) ?_
    try go_wp2
    go_roundg k1
    case measure => have := HK1.out; omega
    case rel => exact ⟨(y146), (wrap64 (x12_1 + 1)), (by first | rfl | (simp; done) | (simp [*]; done)), H', ⟨by have := HK1.out; omega⟩, ⟨by (with_reducible repeat (first | apply Kd.zB6 | apply Kd.zB5 | apply Kd.zBf)); exact HQ23.out⟩, ⟨by (with_reducible repeat (first | refine zA6 ?_ _ | refine zA8 ?_ | refine zA5 ?_ _)); refine blk_far ?_ (by have h_ := Kd.R_ne HO_3.out BK139.out (by decide); intro e_; exact h_ (by rw [e_]; rfl)) _; (with_reducible repeat (first | refine zA6 ?_ _ | refine zA8 ?_ | refine zA5 ?_ _)); exact BK139.out⟩, ⟨by repeat (first | (with_reducible first | exact HB.out | apply zA1 | apply zA0 | apply zA3 | refine zA4 ?_ GB16.out | refine zA4 ?_ GE139.out | refine zA4 ?_ GE144.out) | exact HB.out)⟩⟩
   ·rw [if_neg c9] at H
    have c9b0 : decide (x12_1 < (l0_1.length : Int)) = false := decide_eq_false c9
    clear c9
    obtain rfl := Option.some.inj H
    go_wp2
    go_ret
    exact ⟨_, by first | rfl | (simp [zAr, zAq] <;> rfl) | (simp [*, zAr, zAq] <;> rfl), by (with_reducible repeat (first | apply Kd.zB6 | apply Kd.zB5 | apply Kd.zBf)); exact HO_3.out, by repeat (first | (with_reducible first | exact HB.out | apply zA1 | apply zA0 | apply zA3 | refine zA4 ?_ GE139.out) | exact HB.out)⟩
end
end Go.Proofs.YtbghfbhlbfcloaaGreatDoor.PL
namespace Go.Proofs.YtbghfbhlbfcloaaGreatDoor.PL
section
open Go.RowKit Go.Proofs.YtbghfbhlbfcloaaGreatDoorW.PrintWords Go.Proofs.YtbghfbhlbfcloaaGreatDoorW.PrintLast Go.Proofs.YtbghfbhlbfcloaaGreatDoorW.PrintMore
attribute [local go_sem] zBu zBs zC3 zC2 zBn zBm zBt zBr   -- for this text's walks alone
set_option linter.unusedVariables false
set_option linter.unusedSimpArgs false
def zAt.l0 : Nat → Int → List Int → Int → Int → Option (Int)
 | 0, _, _, _, _ => none
 | k + 1, x3, x6, x7, x8 => if x8 < x7 then (if 0 ≤ x8 then (if x8 < (x6.length : Int) then (if 0 ≤ (rd x6 x8) then (zAt.l0 k (Go.bits .or .u64 x3 (shl .u64 1 (rd x6 x8))) x6 x7 (wrap64 (x8 + 1))) else (none)) else (none)) else (none)) else (some x3)
def zAt.f (k : Nat) (l0 : List Int) : Option (Int) := zAt.l0 k 0 l0 (l0.length : Int) 0
theorem zAt.zBv : ∀ k, (∀ y0 y1 y2 y3, LeO (zAt.l0 k y0 y1 y2 y3) (zAt.l0 (k + 1) y0 y1 y2 y3))
 | 0 => fun _ _ _ _ r h => by simp [zAt.l0] at h
 | k + 1 => by
  have ih0 := zAt.zBv k
  ·intro y0 y1 y2 y3
   unfold zAt.l0
   repeat' first
   | (with_reducible exact ih0 _ _ _ _)
   | (with_reducible exact LeO.refl _)
   | (with_reducible exact LeO.none _)
   | (with_reducible refine LeO.ite ?_ ?_)
   | (with_reducible refine LeO.bind ?_ (fun _ => ?_))
theorem zAt.mono : ∀ a0 k, LeO (zAt.f k a0) (zAt.f (k + 1) a0) := by
 intro a0 k
 have ih0 := zAt.zBv k
 unfold zAt.f
 repeat' first
   | (with_reducible exact ih0 _ _ _ _)
   | (with_reducible exact LeO.refl _)
   | (with_reducible exact LeO.none _)
   | (with_reducible refine LeO.ite ?_ ?_)
   | (with_reducible refine LeO.bind ?_ (fun _ => ?_))
set_option maxHeartbeats 8000000 in
set_option maxRecDepth 100000 in
theorem zAt.calls (k : Nat) (A0 : Option Addr) (c0 : Nat) (l0 : List Int) (r : Int) (w : World) (hr0 : Kd.C (Kd.int .i64) w A0 l0.length l0) (hc0 : l0.length ≤ c0) (h : zAt.f k l0 = some r) :
  Calls Tryz.prog 51 #[.slice A0 l0.length c0] w fun e w' => e = .returned (.int .u64 r) ∧ zB0 w w' := by
 have HR0 := zA2.mk hr0
 have HC0 := zA2.mk hc0
 clear hr0 hc0
 have H : (zAt.l0 k 0 l0 (l0.length : Int) 0) = some r := h
 clear h
 have H' := zA2.mk H
 clear H
 go_enter Tryz.func51, Tryz.ntmps51
 go_wp2
 go_loopg [3, 8] k (fun kq v3 v8 w' => ∃ (x3_1 : Int) (x8_1 : Int), v3 = .int .u64 x3_1 ∧ v8 = .int .i64 x8_1 ∧ zA2 (zAt.l0 kq x3_1 l0 (l0.length : Int) x8_1 = some r) ∧ zA2 (kq ≤ k) ∧ zB0 w w')
 case atStart => exact ⟨(0), (0), (by first | rfl | (simp; done) | (simp [*]; done)), (by first | rfl | (simp; done) | (simp [*]; done)), H', ⟨Nat.le_refl _⟩, by repeat (first | exact zB0.refl _ | apply zB0.step)⟩
 case round =>
  clear H'
  obtain ⟨x3_1, x8_1, rfl, rfl, HA, HK1, ⟨m1, rfl⟩⟩ := hrel
  cases gk with
  | zero => exact absurd HA.out (by simp [zAt.l0])
  | succ k1 =>
   have H := HA.out
   clear HA
   simp only [zAt.l0] at H
   by_cases c2 : x8_1 < (l0.length : Int)
   ·rw [if_pos c2] at H
    have c2b0 : decide (x8_1 < (l0.length : Int)) = true := decide_eq_true c2
    clear c2
    by_cases c3 : 0 ≤ x8_1
    rotate_left
    ·rw [if_neg c3] at H
     exact absurd H (by simp)
    rw [if_pos c3] at H
    have c3b0 : decide (0 ≤ x8_1) = true := decide_eq_true c3
    clear c3
    by_cases c4 : x8_1 < (l0.length : Int)
    rotate_left
    ·rw [if_neg c4] at H
     exact absurd H (by simp)
    rw [if_pos c4] at H
    have c4b0 : decide (x8_1 < (l0.length : Int)) = true := decide_eq_true c4
    clear c4
    by_cases c5 : 0 ≤ (rd l0 x8_1)
    rotate_left
    ·rw [if_neg c5] at H
     exact absurd H (by simp)
    rw [if_pos c5] at H
    have c5b0 := eq_true c5
    have c5b1 : decide (0 ≤ (rd l0 x8_1)) = true := decide_eq_true c5
    clear c5
    obtain ⟨ji6, hji6⟩ : ∃ j_ : Int, (shl .u64 1 (rd l0 x8_1)) = j_ := ⟨_, rfl⟩
    replace H : (zAt.l0 k1 (Go.bits .or .u64 x3_1 (ji6)) l0 (l0.length : Int) (wrap64 (x8_1 + 1))) = some r := by first | (rw [hji6] at H; exact H) | (simp only [hji6] at H ⊢; exact H)
    have hji6_ : (IntKind.u64.wrap (1 * 2 ^ min (rd l0 x8_1).toNat 64)) = ji6 := hji6
    have hji6z : (rd l0 x8_1) ≤ 64 → (IntKind.u64.wrap (1 * 2 ^ (rd l0 x8_1).toNat)) = ji6 := shl_small hji6
    have hji6u : (IntKind.u64.wrap (2 ^ min (rd l0 x8_1).toNat 64)) = ji6 := by have h_ := hji6_; rw [Int.one_mul] at h_; exact h_
    have hji6v : (rd l0 x8_1) ≤ 64 → (IntKind.u64.wrap (2 ^ (rd l0 x8_1).toNat)) = ji6 := fun hle_ => by have h_ := hji6z hle_; rw [Int.one_mul] at h_; exact h_
    have H' := zA2.mk H
    clear H
    have p147 : 0 ≤ (x8_1 : Int) := of_decide_eq_true (by first | (with_reducible assumption) | assumption)
    have q147 : x8_1 < (l0.length : Int) := of_decide_eq_true (by first | (with_reducible assumption) | assumption)
    obtain ⟨ad147, e147, hx147_0⟩ := Kd.zC6 HR0.out x8_1 p147 q147
    cases e147
    replace p147 := eq_true p147
    replace q147 := eq_true q147
    go_wp2
    go_roundg k1
    case measure => have := HK1.out; omega
    case rel => exact ⟨(Go.bits .or .u64 x3_1 (ji6)), (wrap64 (x8_1 + 1)), (by first | rfl | (simp; done) | (simp only [← hji6] <;> (first | rfl | simp)) | (simp [*]; done)), (by first | rfl | (simp; done) | (simp [*]; done)), H', ⟨by have := HK1.out; omega⟩, by repeat (first | exact zB0.refl _ | apply zB0.step)⟩
   ·rw [if_neg c2] at H
    have c2b0 : decide (x8_1 < (l0.length : Int)) = false := decide_eq_false c2
    clear c2
    obtain rfl := Option.some.inj H
    go_wp2
    go_ret
    exact ⟨by first | rfl | (simp; done) | (simp [*]; done), by repeat (first | exact zB0.refl _ | apply zB0.step)⟩
end
end Go.Proofs.YtbghfbhlbfcloaaGreatDoor.PL
namespace Go.Proofs.YtbghfbhlbfcloaaGreatDoor.PL
section
open Go.RowKit Go.Proofs.YtbghfbhlbfcloaaGreatDoorW.PrintWords Go.Proofs.YtbghfbhlbfcloaaGreatDoorW.PrintLast Go.Proofs.YtbghfbhlbfcloaaGreatDoorW.PrintMore
attribute [local go_sem] zBu zBs zC3 zC2 zBn zBm zBt zBr   -- for this text's walks alone
set_option linter.unusedVariables false
set_option linter.unusedSimpArgs false
mutual
def zAi.j0 : Nat → Bool → Int → List (S58) → Option (Int)
 | 0, _, _, _ => none
 | k + 1, x6, x121000, x121001 => if x6 = true then (some 2) else (if (x121001.length : Int) > (wrap64 (x121000 * x121000)) then (some 6) else (zAi.l0 k x121001 (x121001.length : Int) 0 x121000 x121001))
def zAi.l0 : Nat → List (S58) → Int → Int → Int → List (S58) → Option (Int)
 | 0, _, _, _, _, _ => none
 | k + 1, x26, x27, x28, x121000, x121001 => if x28 < x27 then (if 0 ≤ x28 then (if x28 < (x26.length : Int) then ((zC5.f x121000 ((zAu x26 x28).f0)).bind fun t123 => (if t123 = true then (some 2) else ((zC5.f x121000 ((zAu x26 x28).f1)).bind fun t124 => (if t124 = true then (some 2) else (zAi.l0 k x26 x27 (wrap64 (x28 + 1)) x121000 x121001))))) else (none)) else (none)) else (zAi.l1 k 1 x121000 x121001)
def zAi.l1 : Nat → Int → Int → List (S58) → Option (Int)
 | 0, _, _, _ => none
 | k + 1, x5, x121000, x121001 => if x5 < (x121001.length : Int) then (if 0 ≤ (wrap64 (x5 - 1)) then (if (wrap64 (x5 - 1)) < (x121001.length : Int) then (if 0 ≤ x5 then ((zBx.f k ((zAu x121001 (wrap64 (x5 - 1))).f0) ((zAu x121001 (wrap64 (x5 - 1))).f1) ((zAu x121001 x5).f0) ((zAu x121001 x5).f1)).bind fun t127 => (if t127 ≥ 0 then (some 8) else (zAi.l1 k (wrap64 (x5 + 1)) x121000 x121001))) else (none)) else (none)) else (none)) else (some 0)
end
def zAi.f (k : Nat) (a0_0 : Int) (l0_1 : List (S58)) : Option (Int) := if a0_0 < 0 then (zAi.j0 k true a0_0 l0_1) else (zAi.j0 k (decide (a0_0 > 64)) a0_0 l0_1)
theorem zAi.zBv : ∀ k, (∀ y0 y1 y2, LeO (zAi.j0 k y0 y1 y2) (zAi.j0 (k + 1) y0 y1 y2)) ∧ (∀ y0 y1 y2 y3 y4, LeO (zAi.l0 k y0 y1 y2 y3 y4) (zAi.l0 (k + 1) y0 y1 y2 y3 y4)) ∧ (∀ y0 y1 y2, LeO (zAi.l1 k y0 y1 y2) (zAi.l1 (k + 1) y0 y1 y2))
 | 0 => ⟨fun _ _ _ r h => by simp [zAi.j0] at h, fun _ _ _ _ _ r h => by simp [zAi.l0] at h, fun _ _ _ r h => by simp [zAi.l1] at h⟩
 | k + 1 => by
  obtain ⟨ih0, ih1, ih2⟩ := zAi.zBv k
  refine ⟨?_, ?_, ?_⟩
  ·intro y0 y1 y2
   unfold zAi.j0
   repeat' first
   | (with_reducible exact ih0 _ _ _)
   | (with_reducible exact ih1 _ _ _ _ _)
   | (with_reducible exact ih2 _ _ _)
   | (with_reducible exact zBx.mono _ _ _ _ _)
   | (with_reducible exact LeO.refl _)
   | (with_reducible exact LeO.none _)
   | (with_reducible refine LeO.ite ?_ ?_)
   | (with_reducible refine LeO.bind ?_ (fun _ => ?_))
  ·intro y0 y1 y2 y3 y4
   unfold zAi.l0
   repeat' first
   | (with_reducible exact ih0 _ _ _)
   | (with_reducible exact ih1 _ _ _ _ _)
   | (with_reducible exact ih2 _ _ _)
   | (with_reducible exact zBx.mono _ _ _ _ _)
   | (with_reducible exact LeO.refl _)
   | (with_reducible exact LeO.none _)
   | (with_reducible refine LeO.ite ?_ ?_)
   | (with_reducible refine LeO.bind ?_ (fun _ => ?_))
  ·intro y0 y1 y2
   unfold zAi.l1
   repeat' first
   | (with_reducible exact ih0 _ _ _)
   | (with_reducible exact ih1 _ _ _ _ _)
   | (with_reducible exact ih2 _ _ _)
   | (with_reducible exact zBx.mono _ _ _ _ _)
   | (with_reducible exact LeO.refl _)
   | (with_reducible exact LeO.none _)
   | (with_reducible refine LeO.ite ?_ ?_)
   | (with_reducible refine LeO.bind ?_ (fun _ => ?_))
theorem zAi.mono : ∀ a0 a1 k, LeO (zAi.f k a0 a1) (zAi.f (k + 1) a0 a1) := by
 intro a0 a1 k
 obtain ⟨ih0, ih1, ih2⟩ := zAi.zBv k
 unfold zAi.f
 repeat' first
   | (with_reducible exact ih0 _ _ _)
   | (with_reducible exact ih1 _ _ _ _ _)
   | (with_reducible exact ih2 _ _ _)
   | (with_reducible exact zBx.mono _ _ _ _ _)
   | (with_reducible exact LeO.refl _)
   | (with_reducible exact LeO.none _)
   | (with_reducible refine LeO.ite ?_ ?_)
   | (with_reducible refine LeO.bind ?_ (fun _ => ?_))
def zAi.T14 : Bool × List (List Nat × List Nat) := (true, [([], []), ([0], [0]), ([], []), ([2], [2]), ([1, 3], [1, 3]), ([4], [4]), ([], []), ([6], [6]), ([], []), ([7, 8], [7, 8]), ([9], [9]), ([5, 10], [5, 10]), ([11], [11])])
def zAi.B14 : List Nat := [0, 1, 0, 4, 15, 31, 0, 64, 0, 448, 960, 2047, 4095]
theorem zAi.tab14 : rtab .any (opsOf Tryz.f39 14) = zAi.T14 := by kernel_rfl
theorem zAi.bits14 : waitsOk zAi.T14.2 zAi.B14 = true := by kernel_rfl
set_option maxHeartbeats 8000000 in
set_option maxRecDepth 100000 in
theorem zAi.calls (k : Nat) (a0_0 : Int) (A0_1 : Option Addr) (c0_1 : Nat) (l0_1 : List (S58)) (r : Int) (w : World) (hr0_1 : Kd.C k58 w A0_1 l0_1.length l0_1) (hc0_1 : l0_1.length ≤ c0_1) (h : zAi.f k a0_0 l0_1 = some r) :
  Calls Tryz.prog 39 #[.agg #[.int .i64 a0_0, .slice A0_1 l0_1.length c0_1]] w fun e w' => e = .returned (.int .i64 r) ∧ Below w.heap.size w w' := by
 have hu28 := Tryz.underlying28
 have hu58 := Tryz.underlying58
 have HR0_1 := zA2.mk hr0_1
 have HC0_1 := zA2.mk hc0_1
 clear hr0_1 hc0_1
 have HB := zA2.mk (Below.refl w.heap.size w)
 have H : (if a0_0 < 0 then (zAi.j0 k true a0_0 l0_1) else (zAi.j0 k (decide (a0_0 > 64)) a0_0 l0_1)) = some r := h
 clear h
 have HC2 := zA2.mk H
 clear H
 go_enter Tryz.func39, Tryz.ntmps39
 go_upto_region 1 with (first | ((with_reducible refine zBl (N := 1) rfl ?_); refine zBj ?hg (N := 1) ?hd (cs := #[.int .i64 a0_0, .slice A0_1 l0_1.length c0_1]) (t := 28) ?hr ?_; (case hd => rfl); (case hg => rfl); (case hr => first | (go_simp; done) | (go_simp; rfl)); intro gb120 hg w3 hbox hb; have n0_ := zA2.mk (zAe (by repeat (first | (with_reducible first | exact HB.out | apply zA1 | apply zA0 | apply zA3) | exact HB.out)) hb); have n1_ := zA2.mk (hbox); have n2_ := zA2.mk ((by rw [hg]; exact (zAb (by repeat (first | (with_reducible first | exact HB.out | apply zA1 | apply zA0 | apply zA3) | exact HB.out))) : w.heap.size ≤ gb120)); have n3_ := zA2.mk ((by rw [hg]; exact (zAb (by repeat (first | (with_reducible first | exact HB.out | apply zA1 | apply zA0 | apply zA3) | exact HB.out))) : w.heap.size ≤ gb120)); clear HB; have HB := n0_; have BK120 := n1_; have GW120 := n2_; have GE120 := n3_; clear n0_ n1_ n2_ n3_; clear hb hbox hg))
 (try simp only [Act.put, List.setIfInBounds_toArray, List.set_cons_zero, List.set_cons_succ])
 go_cut [6] (fun v6 wc => ∃ (kq : Nat) (x6_1 : Bool), v6 = .bool x6_1 ∧ zA2 (zAi.j0 kq x6_1 a0_0 l0_1 = some r) ∧ zA2 (kq ≤ k) ∧ zA2 (wc.heap[gb120]? = some (.cells #[.int .i64 a0_0, (.slice A0_1 l0_1.length c0_1)] 28 (0, 0))) ∧ zA2 (Below w.heap.size w wc))
 case first =>
  have H := HC2.out
  clear HC2
  by_cases c4 : a0_0 < 0
  ·rw [if_pos c4] at H
   have c4b0 : decide (a0_0 < 0) = true := decide_eq_true c4
   clear c4
   (first | rw [c4b0] | (simp only [i64_w, i32_w]; rw [c4b0]) | skip)
   have H' := zA2.mk H
   clear H
   have hcz5_0 : w3.cell? ⟨gb120, 0, none⟩ = some (.int .i64 a0_0) := (zA7 BK120.out 0).trans rfl
   have hcz5_1 : w3.cell? ⟨gb120, 1, none⟩ = some (.slice A0_1 l0_1.length c0_1) := (zA7 BK120.out 1).trans rfl
   have hfz5_0 := zA9 BK120.out 0
   have hfz5_1 := zA9 BK120.out 1
   go_wp2
   go_meet
   case rel => exact ⟨_, (true), (by first | rfl | (simp; done) | (simp [*]; done)), H', ⟨by first | omega | exact Nat.le_refl _⟩, ⟨by (with_reducible repeat (first | refine zA6 ?_ _ | refine zA8 ?_ | refine zA5 ?_ _)); exact BK120.out⟩, ⟨by repeat (first | (with_reducible first | exact HB.out | apply zA1 | apply zA0 | apply zA3 | refine zA4 ?_ GE120.out) | exact HB.out)⟩⟩
  ·rw [if_neg c4] at H
   have c4b0 : decide (a0_0 < 0) = false := decide_eq_false c4
   clear c4
   (first | rw [c4b0] | (simp only [i64_w, i32_w]; rw [c4b0]) | skip)
   have H' := zA2.mk H
   clear H
   have hcz6_0 : w3.cell? ⟨gb120, 0, none⟩ = some (.int .i64 a0_0) := (zA7 BK120.out 0).trans rfl
   have hcz6_1 : w3.cell? ⟨gb120, 1, none⟩ = some (.slice A0_1 l0_1.length c0_1) := (zA7 BK120.out 1).trans rfl
   have hfz6_0 := zA9 BK120.out 0
   have hfz6_1 := zA9 BK120.out 1
   go_wp2
   go_meet
   case rel => exact ⟨_, (decide (a0_0 > 64)), (by first | rfl | (simp; done) | (simp [*]; done)), H', ⟨by first | omega | exact Nat.le_refl _⟩, ⟨by (with_reducible repeat (first | refine zA6 ?_ _ | refine zA8 ?_ | refine zA5 ?_ _)); exact BK120.out⟩, ⟨by repeat (first | (with_reducible first | exact HB.out | apply zA1 | apply zA0 | apply zA3 | refine zA4 ?_ GE120.out) | exact HB.out)⟩⟩
 case rest =>
  clear HC2
  try clear p2
  try clear c3
  try clear c4
  try clear c4b0
  try clear hcz5_0
  try clear hcz5_1
  try clear hcz6_0
  try clear hcz6_1
  try clear hfz5_0
  try clear hfz5_1
  try clear hfz6_0
  try clear hfz6_1
  obtain ⟨kq, x6_1, rfl, HA, HJ1, BK120, HB⟩ := hcut
  cases kq with
  | zero => exact absurd HA.out (by simp [zAi.j0])
  | succ kj1 =>
   have H := HA.out
   clear HA
   simp only [zAi.j0] at H
   by_cases c7 : x6_1 = true
   ·subst c7
    have H1 : (some 2) = some r := by rw [if_pos rfl] at H; exact H
    clear H
    have H := H1
    clear H1
    obtain rfl := Option.some.inj H
    go_wp2
    go_ret
    exact ⟨by first | rfl | (simp [zAr, zAq] <;> rfl) | (simp [*, zAr, zAq] <;> rfl), by repeat (first | (with_reducible first | exact HB.out | apply zA1 | apply zA0 | apply zA3 | refine zA4 ?_ GE120.out) | exact HB.out)⟩
   ·replace c7 := Bool.eq_false_iff.mpr c7
    subst c7
    have H1 : (if (l0_1.length : Int) > (wrap64 (a0_0 * a0_0)) then (some 6) else (zAi.l0 kj1 l0_1 (l0_1.length : Int) 0 a0_0 l0_1)) = some r := by rw [if_neg (show ¬ (false = true) by decide)] at H; exact H
    clear H
    have H := H1
    clear H1
    by_cases c8 : (l0_1.length : Int) > (wrap64 (a0_0 * a0_0))
    ·rw [if_pos c8] at H
     have c8b0 : decide ((wrap64 (a0_0 * a0_0)) < (l0_1.length : Int)) = true := decide_eq_true c8
     clear c8
     obtain rfl := Option.some.inj H
     have hcz9_0 : wc.cell? ⟨gb120, 0, none⟩ = some (.int .i64 a0_0) := (zA7 BK120.out 0).trans rfl
     have hcz9_1 : wc.cell? ⟨gb120, 1, none⟩ = some (.slice A0_1 l0_1.length c0_1) := (zA7 BK120.out 1).trans rfl
     have hfz9_0 := zA9 BK120.out 0
     have hfz9_1 := zA9 BK120.out 1
     go_wp2
     go_ret
     exact ⟨by first | rfl | (simp [zAr, zAq] <;> rfl) | (simp [*, zAr, zAq] <;> rfl), by repeat (first | (with_reducible first | exact HB.out | apply zA1 | apply zA0 | apply zA3 | refine zA4 ?_ GE120.out) | exact HB.out)⟩
    ·rw [if_neg c8] at H
     have c8b0 : decide ((wrap64 (a0_0 * a0_0)) < (l0_1.length : Int)) = false := decide_eq_false c8
     clear c8
     have H' := zA2.mk H
     clear H
     have hcz10_0 : wc.cell? ⟨gb120, 0, none⟩ = some (.int .i64 a0_0) := (zA7 BK120.out 0).trans rfl
     have hcz10_1 : wc.cell? ⟨gb120, 1, none⟩ = some (.slice A0_1 l0_1.length c0_1) := (zA7 BK120.out 1).trans rfl
     have hfz10_0 := zA9 BK120.out 0
     have hfz10_1 := zA9 BK120.out 1
     go_wp2
     go_loopg [28] kj1 (fun kq v28 w' => ∃ (x28_2 : Int), v28 = .int .i64 x28_2 ∧ zA2 (zAi.l0 kq l0_1 (l0_1.length : Int) x28_2 a0_0 l0_1 = some r) ∧ zA2 (kq ≤ kj1) ∧ zA2 (w'.heap[gb120]? = some (.cells #[.int .i64 a0_0, (.slice A0_1 l0_1.length c0_1)] 28 (0, 0))) ∧ zA2 (Below w.heap.size w w'))
     case atStart => exact ⟨(0), (by first | rfl | (simp; done) | (simp [*]; done)), H', ⟨Nat.le_refl _⟩, ⟨by (with_reducible repeat (first | refine zA6 ?_ _ | refine zA8 ?_ | refine zA5 ?_ _)); exact BK120.out⟩, ⟨by repeat (first | (with_reducible first | exact HB.out | apply zA1 | apply zA0 | apply zA3 | refine zA4 ?_ GE120.out) | exact HB.out)⟩⟩
     case round =>
      clear H'
      try clear p2
      try clear c3
      try clear c4
      try clear c4b0
      try clear p6
      try clear c7
      try clear c8
      try clear c8b0
      try clear hcz10_0
      try clear hcz10_1
      try clear hcz5_0
      try clear hcz5_1
      try clear hcz6_0
      try clear hcz6_1
      try clear hcz9_0
      try clear hcz9_1
      try clear hfz10_0
      try clear hfz10_1
      try clear hfz5_0
      try clear hfz5_1
      try clear hfz6_0
      try clear hfz6_1
      try clear hfz9_0
      try clear hfz9_1
      try clear p2
      obtain ⟨x28_2, rfl, HA, HK2, BK120, HB⟩ := hrel
      cases gk with
      | zero => exact absurd HA.out (by simp [zAi.l0])
      | succ k2 =>
       have H := HA.out
       clear HA
       simp only [zAi.l0] at H
       by_cases c11 : x28_2 < (l0_1.length : Int)
       ·rw [if_pos c11] at H
        have c11b0 : decide (x28_2 < (l0_1.length : Int)) = true := decide_eq_true c11
        clear c11
        by_cases c12 : 0 ≤ x28_2
        rotate_left
        ·rw [if_neg c12] at H
         exact absurd H (by simp)
        rw [if_pos c12] at H
        have c12b0 : decide (0 ≤ x28_2) = true := decide_eq_true c12
        clear c12
        by_cases c13 : x28_2 < (l0_1.length : Int)
        rotate_left
        ·rw [if_neg c13] at H
         exact absurd H (by simp)
        rw [if_pos c13] at H
        have c13b0 : decide (x28_2 < (l0_1.length : Int)) = true := decide_eq_true c13
        clear c13
        replace H := Option.bind_eq_some_iff.mp H
        obtain ⟨t123, A140, H⟩ := H
        replace H : (if t123 = true then (some 2) else ((zC5.f a0_0 ((zAu l0_1 x28_2).f1)).bind fun t124 => (if t124 = true then (some 2) else (zAi.l0 k2 l0_1 (l0_1.length : Int) (wrap64 (x28_2 + 1)) a0_0 l0_1)))) = some r := H
        have A14 := zA2.mk A140
        clear A140
        by_cases c15 : t123 = true
        ·subst c15
         have H1 : (some 2) = some r := by rw [if_pos rfl] at H; exact H
         clear H
         have H := H1
         clear H1
         obtain rfl := Option.some.inj H
         have p121 : 0 ≤ (x28_2 : Int) := of_decide_eq_true (by first | (with_reducible assumption) | assumption)
         have q121 : x28_2 < (l0_1.length : Int) := of_decide_eq_true (by first | (with_reducible assumption) | assumption)
         obtain ⟨ad121, e121, hx121_0, hx121_1⟩ := at_T58 HR0_1.out x28_2 p121 q121
         cases e121
         replace hx121_0 := (HB.out.cell (World.block_lt_of_cell? w _ hx121_0)).trans hx121_0
         replace hx121_1 := (HB.out.cell (World.block_lt_of_cell? w _ hx121_1)).trans hx121_1
         replace p121 := eq_true p121
         replace q121 := eq_true q121
         go_wp2_with (first | ((with_reducible refine zBl (N := 4) rfl ?_); refine zBj ?hg (N := 4) ?hd (cs := #[.int .i64 0, .int .i64 0]) (t := 58) ?hr ?_; (case hd => rfl); (case hg => rfl); (case hr => first | (go_simp; done) | (go_simp; rfl)); intro gb122 hg w16 hbox hb; have n0_ := zA2.mk (zAl (g := gb120) (o := .cells #[.int .i64 a0_0, .slice (some ad121) l0_1.length c0_1] 28 (0, 0)) (by (with_reducible repeat (first | refine zA6 ?_ _ | refine zA8 ?_ | refine zA5 ?_ _)); exact BK120.out) hb); have n1_ := zA2.mk (zAe (by repeat (first | (with_reducible first | exact HB.out | apply zA1 | apply zA0 | apply zA3 | refine zA4 ?_ GE120.out) | exact HB.out)) hb); have n2_ := zA2.mk (hbox); have n3_ := zA2.mk ((by rw [hg]; exact (zAb (by repeat (first | (with_reducible first | exact HB.out | apply zA1 | apply zA0 | apply zA3 | refine zA4 ?_ GE120.out) | exact HB.out))) : w.heap.size ≤ gb122)); have n4_ := zA2.mk ((by rw [hg]; exact (zAb (by repeat (first | (with_reducible first | exact HB.out | apply zA1 | apply zA0 | apply zA3 | refine zA4 ?_ GE120.out) | exact HB.out))) : w.heap.size ≤ gb122)); have n5_ := zA2.mk ((by rw [hg]; exact Nat.ne_of_lt (zC8 (g := gb120) (o := .cells #[.int .i64 a0_0, .slice (some ad121) l0_1.length c0_1] 28 (0, 0)) (by (with_reducible repeat (first | refine zA6 ?_ _ | refine zA8 ?_ | refine zA5 ?_ _)); exact BK120.out)) : gb120 ≠ gb122)); have n6_ := zA2.mk ((by rw [hg]; exact Nat.ne_of_gt (zC8 (g := gb120) (o := .cells #[.int .i64 a0_0, .slice (some ad121) l0_1.length c0_1] 28 (0, 0)) (by (with_reducible repeat (first | refine zA6 ?_ _ | refine zA8 ?_ | refine zA5 ?_ _)); exact BK120.out)) : gb122 ≠ gb120)); clear BK120; clear HB; have BK120 := n0_; have HB := n1_; have BK122 := n2_; have GW122 := n3_; have GE122 := n4_; have NB120_122 := n5_; have NB122_120 := n6_; clear n0_ n1_ n2_ n3_ n4_ n5_ n6_; clear hb hbox hg; have hnb17 := NB122_120.out; have hnc17 := NB120_122.out; have hcz18_0 : w16.cell? ⟨gb122, 0, none⟩ = some (.int .i64 0) := (zA7 BK122.out 0).trans rfl; have hcz18_1 : w16.cell? ⟨gb122, 1, none⟩ = some (.int .i64 0) := (zA7 BK122.out 1).trans rfl; have hfz18_0 := zA9 BK122.out 0; have hfz18_1 := zA9 BK122.out 1; have hcz19_0 : w16.cell? ⟨gb120, 0, none⟩ = some (.int .i64 a0_0) := (zA7 BK120.out 0).trans rfl; have hcz19_1 : w16.cell? ⟨gb120, 1, none⟩ = some (.slice (some ad121) l0_1.length c0_1) := (zA7 BK120.out 1).trans rfl; have hfz19_0 := zA9 BK120.out 0; have hfz19_1 := zA9 BK120.out 1) | ((with_reducible refine zAp (f := 42) rfl ?_); refine zBq (some 36) rfl rfl Tryz.func42 (by kernel_rfl) rfl #[.int .i64 a0_0, .int .i64 ((zAu l0_1 x28_2).f0)] rfl (by (try simp only [List.map_toArray, List.map_cons, List.map_nil]); first | done | rfl | (simp only [List.length_drop, List.length_take]; rfl)) ?_; (with_reducible refine (zC5.calls a0_0 ((zAu l0_1 x28_2).f0) true _ A14.out).mono ?_); rintro e w' ⟨rfl, ⟨nd, rfl⟩⟩; refine ⟨_, rfl, ?_⟩))
         go_ret
         exact ⟨by first | rfl | (simp [zAr, zAq] <;> rfl) | (simp [*, zAr, zAq] <;> rfl), by repeat (first | (with_reducible first | exact HB.out | apply zA1 | apply zA0 | apply zA3 | refine zA4 ?_ GE120.out | refine zA4 ?_ GE122.out) | exact HB.out)⟩
        ·replace c15 := Bool.eq_false_iff.mpr c15
         subst c15
         have H1 : ((zC5.f a0_0 ((zAu l0_1 x28_2).f1)).bind fun t124 => (if t124 = true then (some 2) else (zAi.l0 k2 l0_1 (l0_1.length : Int) (wrap64 (x28_2 + 1)) a0_0 l0_1))) = some r := by rw [if_neg (show ¬ (false = true) by decide)] at H; exact H
         clear H
         have H := H1
         clear H1
         replace H := Option.bind_eq_some_iff.mp H
         obtain ⟨t124, A200, H⟩ := H
         replace H : (if t124 = true then (some 2) else (zAi.l0 k2 l0_1 (l0_1.length : Int) (wrap64 (x28_2 + 1)) a0_0 l0_1)) = some r := H
         have A20 := zA2.mk A200
         clear A200
         by_cases c21 : t124 = true
         ·subst c21
          have H1 : (some 2) = some r := by rw [if_pos rfl] at H; exact H
          clear H
          have H := H1
          clear H1
          obtain rfl := Option.some.inj H
          have p121 : 0 ≤ (x28_2 : Int) := of_decide_eq_true (by first | (with_reducible assumption) | assumption)
          have q121 : x28_2 < (l0_1.length : Int) := of_decide_eq_true (by first | (with_reducible assumption) | assumption)
          obtain ⟨ad121, e121, hx121_0, hx121_1⟩ := at_T58 HR0_1.out x28_2 p121 q121
          cases e121
          replace hx121_0 := (HB.out.cell (World.block_lt_of_cell? w _ hx121_0)).trans hx121_0
          replace hx121_1 := (HB.out.cell (World.block_lt_of_cell? w _ hx121_1)).trans hx121_1
          replace p121 := eq_true p121
          replace q121 := eq_true q121
          go_wp2_with (first | ((with_reducible refine zBl (N := 4) rfl ?_); refine zBj ?hg (N := 4) ?hd (cs := #[.int .i64 0, .int .i64 0]) (t := 58) ?hr ?_; (case hd => rfl); (case hg => rfl); (case hr => first | (go_simp; done) | (go_simp; rfl)); intro gb122 hg w22 hbox hb; have n0_ := zA2.mk (zAl (g := gb120) (o := .cells #[.int .i64 a0_0, .slice (some ad121) l0_1.length c0_1] 28 (0, 0)) (by (with_reducible repeat (first | refine zA6 ?_ _ | refine zA8 ?_ | refine zA5 ?_ _)); exact BK120.out) hb); have n1_ := zA2.mk (zAe (by repeat (first | (with_reducible first | exact HB.out | apply zA1 | apply zA0 | apply zA3 | refine zA4 ?_ GE120.out) | exact HB.out)) hb); have n2_ := zA2.mk (hbox); have n3_ := zA2.mk ((by rw [hg]; exact (zAb (by repeat (first | (with_reducible first | exact HB.out | apply zA1 | apply zA0 | apply zA3 | refine zA4 ?_ GE120.out) | exact HB.out))) : w.heap.size ≤ gb122)); have n4_ := zA2.mk ((by rw [hg]; exact (zAb (by repeat (first | (with_reducible first | exact HB.out | apply zA1 | apply zA0 | apply zA3 | refine zA4 ?_ GE120.out) | exact HB.out))) : w.heap.size ≤ gb122)); have n5_ := zA2.mk ((by rw [hg]; exact Nat.ne_of_lt (zC8 (g := gb120) (o := .cells #[.int .i64 a0_0, .slice (some ad121) l0_1.length c0_1] 28 (0, 0)) (by (with_reducible repeat (first | refine zA6 ?_ _ | refine zA8 ?_ | refine zA5 ?_ _)); exact BK120.out)) : gb120 ≠ gb122)); have n6_ := zA2.mk ((by rw [hg]; exact Nat.ne_of_gt (zC8 (g := gb120) (o := .cells #[.int .i64 a0_0, .slice (some ad121) l0_1.length c0_1] 28 (0, 0)) (by (with_reducible repeat (first | refine zA6 ?_ _ | refine zA8 ?_ | refine zA5 ?_ _)); exact BK120.out)) : gb122 ≠ gb120)); clear BK120; clear HB; have BK120 := n0_; have HB := n1_; have BK122 := n2_; have GW122 := n3_; have GE122 := n4_; have NB120_122 := n5_; have NB122_120 := n6_; clear n0_ n1_ n2_ n3_ n4_ n5_ n6_; clear hb hbox hg; have hnb23 := NB122_120.out; have hnc23 := NB120_122.out; have hcz24_0 : w22.cell? ⟨gb122, 0, none⟩ = some (.int .i64 0) := (zA7 BK122.out 0).trans rfl; have hcz24_1 : w22.cell? ⟨gb122, 1, none⟩ = some (.int .i64 0) := (zA7 BK122.out 1).trans rfl; have hfz24_0 := zA9 BK122.out 0; have hfz24_1 := zA9 BK122.out 1; have hcz25_0 : w22.cell? ⟨gb120, 0, none⟩ = some (.int .i64 a0_0) := (zA7 BK120.out 0).trans rfl; have hcz25_1 : w22.cell? ⟨gb120, 1, none⟩ = some (.slice (some ad121) l0_1.length c0_1) := (zA7 BK120.out 1).trans rfl; have hfz25_0 := zA9 BK120.out 0; have hfz25_1 := zA9 BK120.out 1) | ((with_reducible refine zAp (f := 42) rfl ?_); refine zBq (some 36) rfl rfl Tryz.func42 (by kernel_rfl) rfl #[.int .i64 a0_0, .int .i64 ((zAu l0_1 x28_2).f0)] rfl (by (try simp only [List.map_toArray, List.map_cons, List.map_nil]); first | done | rfl | (simp only [List.length_drop, List.length_take]; rfl)) ?_; (with_reducible refine (zC5.calls a0_0 ((zAu l0_1 x28_2).f0) false _ A14.out).mono ?_); rintro e w' ⟨rfl, ⟨nd, rfl⟩⟩; refine ⟨_, rfl, ?_⟩) | (go_at_call 42; (with_reducible refine (zC5.calls a0_0 ((zAu l0_1 x28_2).f1) true _ A20.out).mono ?_); rintro e w' ⟨rfl, ⟨nd, rfl⟩⟩))
          go_ret
          exact ⟨by first | rfl | (simp [zAr, zAq] <;> rfl) | (simp [*, zAr, zAq] <;> rfl), by repeat (first | (with_reducible first | exact HB.out | apply zA1 | apply zA0 | apply zA3 | refine zA4 ?_ GE120.out | refine zA4 ?_ GE122.out) | exact HB.out)⟩
         ·replace c21 := Bool.eq_false_iff.mpr c21
          subst c21
          have H1 : (zAi.l0 k2 l0_1 (l0_1.length : Int) (wrap64 (x28_2 + 1)) a0_0 l0_1) = some r := by rw [if_neg (show ¬ (false = true) by decide)] at H; exact H
          clear H
          have H := H1
          clear H1
          have H' := zA2.mk H
          clear H
          have p121 : 0 ≤ (x28_2 : Int) := of_decide_eq_true (by first | (with_reducible assumption) | assumption)
          have q121 : x28_2 < (l0_1.length : Int) := of_decide_eq_true (by first | (with_reducible assumption) | assumption)
          obtain ⟨ad121, e121, hx121_0, hx121_1⟩ := at_T58 HR0_1.out x28_2 p121 q121
          cases e121
          replace hx121_0 := (HB.out.cell (World.block_lt_of_cell? w _ hx121_0)).trans hx121_0
          replace hx121_1 := (HB.out.cell (World.block_lt_of_cell? w _ hx121_1)).trans hx121_1
          replace p121 := eq_true p121
          replace q121 := eq_true q121
          go_wp2_with (first | ((with_reducible refine zBl (N := 4) rfl ?_); refine zBj ?hg (N := 4) ?hd (cs := #[.int .i64 0, .int .i64 0]) (t := 58) ?hr ?_; (case hd => rfl); (case hg => rfl); (case hr => first | (go_simp; done) | (go_simp; rfl)); intro gb122 hg w26 hbox hb; have n0_ := zA2.mk (zAl (g := gb120) (o := .cells #[.int .i64 a0_0, .slice (some ad121) l0_1.length c0_1] 28 (0, 0)) (by (with_reducible repeat (first | refine zA6 ?_ _ | refine zA8 ?_ | refine zA5 ?_ _)); exact BK120.out) hb); have n1_ := zA2.mk (zAe (by repeat (first | (with_reducible first | exact HB.out | apply zA1 | apply zA0 | apply zA3 | refine zA4 ?_ GE120.out) | exact HB.out)) hb); have n2_ := zA2.mk (hbox); have n3_ := zA2.mk ((by rw [hg]; exact (zAb (by repeat (first | (with_reducible first | exact HB.out | apply zA1 | apply zA0 | apply zA3 | refine zA4 ?_ GE120.out) | exact HB.out))) : w.heap.size ≤ gb122)); have n4_ := zA2.mk ((by rw [hg]; exact (zAb (by repeat (first | (with_reducible first | exact HB.out | apply zA1 | apply zA0 | apply zA3 | refine zA4 ?_ GE120.out) | exact HB.out))) : w.heap.size ≤ gb122)); have n5_ := zA2.mk ((by rw [hg]; exact Nat.ne_of_lt (zC8 (g := gb120) (o := .cells #[.int .i64 a0_0, .slice (some ad121) l0_1.length c0_1] 28 (0, 0)) (by (with_reducible repeat (first | refine zA6 ?_ _ | refine zA8 ?_ | refine zA5 ?_ _)); exact BK120.out)) : gb120 ≠ gb122)); have n6_ := zA2.mk ((by rw [hg]; exact Nat.ne_of_gt (zC8 (g := gb120) (o := .cells #[.int .i64 a0_0, .slice (some ad121) l0_1.length c0_1] 28 (0, 0)) (by (with_reducible repeat (first | refine zA6 ?_ _ | refine zA8 ?_ | refine zA5 ?_ _)); exact BK120.out)) : gb122 ≠ gb120)); clear BK120; clear HB; have BK120 := n0_; have HB := n1_; have BK122 := n2_; have GW122 := n3_; have GE122 := n4_; have NB120_122 := n5_; have NB122_120 := n6_; clear n0_ n1_ n2_ n3_ n4_ n5_ n6_; clear hb hbox hg; have hnb27 := NB122_120.out; have hnc27 := NB120_122.out; have hcz28_0 : w26.cell? ⟨gb122, 0, none⟩ = some (.int .i64 0) := (zA7 BK122.out 0).trans rfl; have hcz28_1 : w26.cell? ⟨gb122, 1, none⟩ = some (.int .i64 0) := (zA7 BK122.out 1).trans rfl; have hfz28_0 := zA9 BK122.out 0; have hfz28_1 := zA9 BK122.out 1; have hcz29_0 : w26.cell? ⟨gb120, 0, none⟩ = some (.int .i64 a0_0) := (zA7 BK120.out 0).trans rfl; have hcz29_1 : w26.cell? ⟨gb120, 1, none⟩ = some (.slice (some ad121) l0_1.length c0_1) := (zA7 BK120.out 1).trans rfl; have hfz29_0 := zA9 BK120.out 0; have hfz29_1 := zA9 BK120.out 1) | ((with_reducible refine zAp (f := 42) rfl ?_); refine zBq (some 36) rfl rfl Tryz.func42 (by kernel_rfl) rfl #[.int .i64 a0_0, .int .i64 ((zAu l0_1 x28_2).f0)] rfl (by (try simp only [List.map_toArray, List.map_cons, List.map_nil]); first | done | rfl | (simp only [List.length_drop, List.length_take]; rfl)) ?_; (with_reducible refine (zC5.calls a0_0 ((zAu l0_1 x28_2).f0) false _ A14.out).mono ?_); rintro e w' ⟨rfl, ⟨nd, rfl⟩⟩; refine ⟨_, rfl, ?_⟩) | (go_at_call 42; (with_reducible refine (zC5.calls a0_0 ((zAu l0_1 x28_2).f1) false _ A20.out).mono ?_); rintro e w' ⟨rfl, ⟨nd, rfl⟩⟩))
          go_roundg k2
          case measure => have := HJ1.out; have := HK2.out; omega
          case rel => exact ⟨(wrap64 (x28_2 + 1)), (by first | rfl | (simp; done) | (simp [*]; done)), H', ⟨by have := HJ1.out; have := HK2.out; omega⟩, ⟨by (with_reducible repeat (first | refine zA6 ?_ _ | refine zA8 ?_ | refine zA5 ?_ _)); refine blk_far ?_ NB120_122.out _; (with_reducible repeat (first | refine zA6 ?_ _ | refine zA8 ?_ | refine zA5 ?_ _)); refine blk_far ?_ NB120_122.out _; (with_reducible repeat (first | refine zA6 ?_ _ | refine zA8 ?_ | refine zA5 ?_ _)); exact BK120.out⟩, ⟨by repeat (first | (with_reducible first | exact HB.out | apply zA1 | apply zA0 | apply zA3 | refine zA4 ?_ GE120.out | refine zA4 ?_ GE122.out) | exact HB.out)⟩⟩
       ·rw [if_neg c11] at H
        have c11b0 : decide (x28_2 < (l0_1.length : Int)) = false := decide_eq_false c11
        clear c11
        have H' := zA2.mk H
        clear H
        go_wp2
        go_loopg [5] k2 (fun kq v5 w' => ∃ (x5_3 : Int), v5 = .int .i64 x5_3 ∧ zA2 (zAi.l1 kq x5_3 a0_0 l0_1 = some r) ∧ zA2 (kq ≤ k2) ∧ zA2 (w'.heap[gb120]? = some (.cells #[.int .i64 a0_0, (.slice A0_1 l0_1.length c0_1)] 28 (0, 0))) ∧ zA2 (Below w.heap.size w w'))
        case atStart => exact ⟨(1), (by first | rfl | (simp; done) | (simp [*]; done)), H', ⟨Nat.le_refl _⟩, ⟨by (with_reducible repeat (first | refine zA6 ?_ _ | refine zA8 ?_ | refine zA5 ?_ _)); exact BK120.out⟩, ⟨by repeat (first | (with_reducible first | exact HB.out | apply zA1 | apply zA0 | apply zA3 | refine zA4 ?_ GE120.out) | exact HB.out)⟩⟩
        case round =>
         clear H'
         try clear c1
         try clear p1
         try clear q1
         try clear hx1
         try clear c2
         try clear p2
         try clear c3
         try clear c4
         try clear c4b0
         try clear p6
         try clear c7
         try clear c8
         try clear c8b0
         try clear c11
         try clear c11b0
         try clear c12
         try clear c12b0
         try clear p12
         try clear q12
         try clear hx12
         try clear c13
         try clear c13b0
         try clear c15
         try clear c17
         try clear c21
         try clear c23
         try clear c27
         try clear hcz10_0
         try clear hcz10_1
         try clear hcz18_0
         try clear hcz18_1
         try clear hcz19_0
         try clear hcz19_1
         try clear hcz24_0
         try clear hcz24_1
         try clear hcz25_0
         try clear hcz25_1
         try clear hcz28_0
         try clear hcz28_1
         try clear hcz29_0
         try clear hcz29_1
         try clear hcz5_0
         try clear hcz5_1
         try clear hcz6_0
         try clear hcz6_1
         try clear hcz9_0
         try clear hcz9_1
         try clear hfz10_0
         try clear hfz10_1
         try clear hfz18_0
         try clear hfz18_1
         try clear hfz19_0
         try clear hfz19_1
         try clear hfz24_0
         try clear hfz24_1
         try clear hfz25_0
         try clear hfz25_1
         try clear hfz28_0
         try clear hfz28_1
         try clear hfz29_0
         try clear hfz29_1
         try clear hfz5_0
         try clear hfz5_1
         try clear hfz6_0
         try clear hfz6_1
         try clear hfz9_0
         try clear hfz9_1
         try clear hx121_0
         try clear hx121_1
         try clear p121
         try clear p2
         try clear p6
         try clear q121
         obtain ⟨x5_3, rfl, HA, HK3, BK120, HB⟩ := hrel
         cases gk with
         | zero => exact absurd HA.out (by simp [zAi.l1])
         | succ k3 =>
          have H := HA.out
          clear HA
          simp only [zAi.l1] at H
          by_cases c30 : x5_3 < (l0_1.length : Int)
          ·rw [if_pos c30] at H
           have c30b0 : decide (x5_3 < (l0_1.length : Int)) = true := decide_eq_true c30
           clear c30
           obtain ⟨ji31, hji31⟩ : ∃ j_ : Int, (wrap64 (x5_3 - 1)) = j_ := ⟨_, rfl⟩
           replace H : (if 0 ≤ (ji31) then (if (ji31) < (l0_1.length : Int) then (if 0 ≤ x5_3 then ((zBx.f k3 ((zAu l0_1 (ji31)).f0) ((zAu l0_1 (ji31)).f1) ((zAu l0_1 x5_3).f0) ((zAu l0_1 x5_3).f1)).bind fun t127 => (if t127 ≥ 0 then (some 8) else (zAi.l1 k3 (wrap64 (x5_3 + 1)) a0_0 l0_1))) else (none)) else (none)) else (none)) = some r := by first | (rw [hji31] at H; exact H) | (simp only [hji31] at H ⊢; exact H)
           have hji31w : (IntKind.i64.wrap (x5_3 - 1)) = ji31 := (i64_w _).trans hji31
           by_cases c32 : 0 ≤ (ji31)
           rotate_left
           ·rw [if_neg c32] at H
            exact absurd H (by simp)
           rw [if_pos c32] at H
           have c32b0 : decide (0 ≤ (ji31)) = true := decide_eq_true c32
           clear c32
           by_cases c33 : (ji31) < (l0_1.length : Int)
           rotate_left
           ·rw [if_neg c33] at H
            exact absurd H (by simp)
           rw [if_pos c33] at H
           have c33b0 : decide ((ji31) < (l0_1.length : Int)) = true := decide_eq_true c33
           clear c33
           by_cases c34 : 0 ≤ x5_3
           rotate_left
           ·rw [if_neg c34] at H
            exact absurd H (by simp)
           rw [if_pos c34] at H
           have c34b0 : decide (0 ≤ x5_3) = true := decide_eq_true c34
           clear c34
           replace H := Option.bind_eq_some_iff.mp H
           obtain ⟨t127, A350, H⟩ := H
           replace H : (if t127 ≥ 0 then (some 8) else (zAi.l1 k3 (wrap64 (x5_3 + 1)) a0_0 l0_1)) = some r := H
           have A35 := zA2.mk A350
           clear A350
           by_cases c36 : t127 ≥ 0
           ·rw [if_pos c36] at H
            have c36b0 : decide (0 ≤ t127) = true := decide_eq_true c36
            clear c36
            obtain rfl := Option.some.inj H
            have hcz37_0 : wr.cell? ⟨gb120, 0, none⟩ = some (.int .i64 a0_0) := (zA7 BK120.out 0).trans rfl
            have hcz37_1 : wr.cell? ⟨gb120, 1, none⟩ = some (.slice A0_1 l0_1.length c0_1) := (zA7 BK120.out 1).trans rfl
            have hfz37_0 := zA9 BK120.out 0
            have hfz37_1 := zA9 BK120.out 1
            try go_wp2
            have n0_ := zA2.mk (zA8 BK120.out)
            have n1_ := zA2.mk (zA3 HB.out)
            clear BK120
            clear HB
            have BK120 := n0_
            have HB := n1_
            clear n0_ n1_
            have p125 : 0 ≤ ((ji31) : Int) := of_decide_eq_true (by first | (with_reducible assumption) | assumption)
            have q125 : (ji31) < (l0_1.length : Int) := of_decide_eq_true (by first | (with_reducible assumption) | assumption)
            obtain ⟨ad125, e125, hx125_0, hx125_1⟩ := at_T58 HR0_1.out (ji31) p125 q125
            have hw125_1 := hx125_1
            have hw125_0 := hx125_0
            cases e125
            replace hx125_0 := (HB.out.cell (World.block_lt_of_cell? w _ hx125_0)).trans hx125_0
            replace hx125_1 := (HB.out.cell (World.block_lt_of_cell? w _ hx125_1)).trans hx125_1
            replace p125 := eq_true p125
            replace q125 := eq_true q125
            have p126 : 0 ≤ (x5_3 : Int) := of_decide_eq_true (by first | (with_reducible assumption) | assumption)
            have q126 : x5_3 < (l0_1.length : Int) := of_decide_eq_true (by first | (with_reducible assumption) | assumption)
            obtain ⟨ad126, e126, hx126_0, hx126_1⟩ := at_T58 HR0_1.out x5_3 p126 q126
            have hw126_1 := hx126_1
            have hw126_0 := hx126_0
            obtain rfl : ad125 = ad126 := (by injection e126)
            replace hx126_0 := (HB.out.cell (World.block_lt_of_cell? w _ hx126_0)).trans hx126_0
            replace hx126_1 := (HB.out.cell (World.block_lt_of_cell? w _ hx126_1)).trans hx126_1
            replace p126 := eq_true p126
            replace q126 := eq_true q126
            refine start_ (n := 13) (S := fun w' => w'.cell? ⟨gb120, 0, none⟩ = some (.int .i64 a0_0) ∧ w'.cell? ⟨gb120, 1, none⟩ = some (.slice (some ad125) l0_1.length c0_1) ∧ w'.cell? (ad125.add (((ji31)).toNat * 2)) = some (.int .i64 ((zAu l0_1 (ji31)).f0)) ∧ w'.cell? ⟨(ad125.add (((ji31)).toNat * 2)).block, (ad125.add (((ji31)).toNat * 2)).off + 1, none⟩ = some (.int .i64 ((zAu l0_1 (ji31)).f1)) ∧ w'.cell? (ad125.add ((x5_3).toNat * 2)) = some (.int .i64 ((zAu l0_1 x5_3).f0)) ∧ w'.cell? ⟨(ad125.add ((x5_3).toNat * 2)).block, (ad125.add ((x5_3).toNat * 2)).off + 1, none⟩ = some (.int .i64 ((zAu l0_1 x5_3).f1))) (ds := []) #[false, false, false, false, false, false, false, false, false, false, false, false, false] (by kernel_rfl) rfl rfl ⟨(zA7 BK120.out 0).trans rfl, (zA7 BK120.out 1).trans rfl, ((HB.out.cell (World.block_lt_of_cell? w _ hw125_0)).trans hw125_0), ((HB.out.cell (World.block_lt_of_cell? w _ hw125_1)).trans hw125_1), ((HB.out.cell (World.block_lt_of_cell? w _ hw126_0)).trans hw126_0), ((HB.out.cell (World.block_lt_of_cell? w _ hw126_1)).trans hw126_1)⟩ (fun hHeld => ?_); refine with_tabW zAi.tab14 zAi.bits14 (fun HT_ HW_ => ?_)
            generalize wr.drew = w38 at BK120 HB hx125_0 hx125_1 hx126_0 hx126_1 hHeld ⊢
            refine pure_ (i := 0) (N := some 52) (v := ?_) (a' := ?_) #[true, false, false, false, false, false, false, false, false, false, false, false, false] rfl rfl (zBe HT_.out (by kernel_rfl)) (fun _ _ _ h => h) (Or.inl ⟨by rfl, ?_⟩) ?_ ?_
            rotate_left
            ·intro w'
             go_simp
             with_reducible rfl
            rotate_left
            ·simp only [Act.put, List.setIfInBounds_toArray, List.set_cons_zero, List.set_cons_succ, i64_w, i32_w]
             rfl
            refine pure_ (i := 2) (N := some 54) (v := ?_) (a' := ?_) #[true, false, true, false, false, false, false, false, false, false, false, false, false] rfl rfl (zBe HT_.out (by kernel_rfl)) (fun _ _ _ h => h) (Or.inl ⟨by rfl, ?_⟩) ?_ ?_
            rotate_left
            ·intro w'
             go_simp
             with_reducible rfl
            rotate_left
            ·simp only [Act.put, List.setIfInBounds_toArray, List.set_cons_zero, List.set_cons_succ, i64_w, i32_w]
             rfl
            refine pure_ (i := 3) (N := some 55) (v := ?_) (a' := ?_) #[true, false, true, true, false, false, false, false, false, false, false, false, false] rfl rfl (zBe HT_.out (by kernel_rfl)) (fun _ _ _ h => h) (Or.inl ⟨by rfl, ?_⟩) ?_ ?_
            rotate_left
            ·intro w'
             go_simp
             with_reducible rfl
            rotate_left
            ·simp only [Act.put, List.setIfInBounds_toArray, List.set_cons_zero, List.set_cons_succ, i64_w, i32_w]
             rfl
            refine pure_ (i := 6) (N := some 58) (v := ?_) (a' := ?_) #[true, false, true, true, false, false, true, false, false, false, false, false, false] rfl rfl (zBe HT_.out (by kernel_rfl)) (fun _ _ _ h => h) (Or.inl ⟨by rfl, ?_⟩) ?_ ?_
            rotate_left
            ·intro w'
             go_simp
             with_reducible rfl
            rotate_left
            ·simp only [Act.put, List.setIfInBounds_toArray, List.set_cons_zero, List.set_cons_succ, i64_w, i32_w]
             rfl
            refine pure_ (i := 8) (N := some 60) (v := ?_) (a' := ?_) #[true, false, true, true, false, false, true, false, true, false, false, false, false] rfl rfl (zBe HT_.out (by kernel_rfl)) (fun _ _ _ h => h) (Or.inl ⟨by rfl, ?_⟩) ?_ ?_
            rotate_left
            ·intro w'
             go_simp
             with_reducible rfl
            rotate_left
            ·simp only [Act.put, List.setIfInBounds_toArray, List.set_cons_zero, List.set_cons_succ, i64_w, i32_w]
             rfl
            refine take_ (i := 1) (N := some 53) (v := ?_) (a' := ?_) #[true, true, true, true, false, false, true, false, true, false, false, false, false] rfl rfl (zC0 HT_.out HW_.out (by kernel_rfl)) (fun _ _ _ h => h) (Or.inl ⟨by rfl, ?_⟩) hHeld ?_ ?_
            rotate_left
            ·rintro w' ⟨s0, s1, s2, s3, s4, s5⟩
             go_simp
             with_reducible rfl
            rotate_left
            ·simp only [Act.put, List.setIfInBounds_toArray, List.set_cons_zero, List.set_cons_succ, i64_w, i32_w]
             rfl
            refine pure_ (i := 4) (N := some 56) (v := ?_) (a' := ?_) #[true, true, true, true, true, false, true, false, true, false, false, false, false] rfl rfl (zBe HT_.out (by kernel_rfl)) (fun _ _ _ h => h) (Or.inl ⟨by rfl, ?_⟩) ?_ ?_
            rotate_left
            ·intro w'
             go_simp
             with_reducible rfl
            rotate_left
            ·simp only [Act.put, List.setIfInBounds_toArray, List.set_cons_zero, List.set_cons_succ, i64_w, i32_w]
             rfl
            refine take_ (i := 5) (N := some 57) (v := ?_) (a' := ?_) #[true, true, true, true, true, true, true, false, true, false, false, false, false] rfl rfl (zC0 HT_.out HW_.out (by kernel_rfl)) (fun _ _ _ h => h) (Or.inl ⟨by rfl, ?_⟩) hHeld ?_ ?_
            rotate_left
            ·rintro w' ⟨s0, s1, s2, s3, s4, s5⟩
             go_simp
             with_reducible rfl
            rotate_left
            ·simp only [Act.put, List.setIfInBounds_toArray, List.set_cons_zero, List.set_cons_succ, i64_w, i32_w]
             rfl
            refine take_ (i := 7) (N := some 59) (v := ?_) (a' := ?_) #[true, true, true, true, true, true, true, true, true, false, false, false, false] rfl rfl (zC0 HT_.out HW_.out (by kernel_rfl)) (fun _ _ _ h => h) (Or.inl ⟨by rfl, ?_⟩) hHeld ?_ ?_
            rotate_left
            ·rintro w' ⟨s0, s1, s2, s3, s4, s5⟩
             go_simp
             with_reducible rfl
            rotate_left
            ·simp only [Act.put, List.setIfInBounds_toArray, List.set_cons_zero, List.set_cons_succ, i64_w, i32_w]
             rfl
            refine pure_ (i := 9) (N := some 61) (v := ?_) (a' := ?_) #[true, true, true, true, true, true, true, true, true, true, false, false, false] rfl rfl (zBe HT_.out (by kernel_rfl)) (fun _ _ _ h => h) (Or.inl ⟨by rfl, ?_⟩) ?_ ?_
            rotate_left
            ·intro w'
             go_simp
             with_reducible rfl
            rotate_left
            ·simp only [Act.put, List.setIfInBounds_toArray, List.set_cons_zero, List.set_cons_succ, i64_w, i32_w]
             rfl
            refine take_ (i := 10) (N := some 62) (v := ?_) (a' := ?_) #[true, true, true, true, true, true, true, true, true, true, true, false, false] rfl rfl (zC0 HT_.out HW_.out (by kernel_rfl)) (fun _ _ _ h => h) (Or.inl ⟨by rfl, ?_⟩) hHeld ?_ ?_
            rotate_left
            ·rintro w' ⟨s0, s1, s2, s3, s4, s5⟩
             go_simp
             with_reducible rfl
            rotate_left
            ·simp only [Act.put, List.setIfInBounds_toArray, List.set_cons_zero, List.set_cons_succ, i64_w, i32_w]
             rfl
            refine one_ (i := 11) (N := some 63) #[true, true, true, true, true, true, true, true, true, true, true, true, false] rfl rfl (one_of HT_.out (by kernel_rfl)) (by decide) (fun K hK => ?_)
            refine goes_ Tryz.func45 (by kernel_rfl) rfl #[.agg #[.int .i64 ((zAu l0_1 (ji31)).f0), .int .i64 ((zAu l0_1 (ji31)).f1)], .agg #[.int .i64 ((zAu l0_1 x5_3).f0), .int .i64 ((zAu l0_1 x5_3).f1)]] (by rfl) rfl rfl (by (try simp only [List.map_toArray, List.map_cons, List.map_nil]); first | done | (simp only [hji31]; rfl) | rfl | (simp only [List.length_drop, List.length_take]; rfl)) ?_
            with_reducible refine (zBx.calls k3 ((zAu l0_1 (ji31)).f0) ((zAu l0_1 (ji31)).f1) ((zAu l0_1 x5_3).f0) ((zAu l0_1 x5_3).f1) t127 _ A35.out).mono ?_
            rintro e w39 ⟨rfl, hb⟩
            refine ⟨_, rfl, ?_⟩
            have n0_ := zA2.mk (zAl (g := gb120) (o := .cells #[.int .i64 a0_0, .slice (some ad125) l0_1.length c0_1] 28 (0, 0)) (by (with_reducible repeat (first | refine zA6 ?_ _ | refine zA8 ?_ | refine zA5 ?_ _)); exact BK120.out) hb)
            have n1_ := zA2.mk (zAe (by repeat (first | (with_reducible first | exact HB.out | apply zA1 | apply zA0 | apply zA3 | refine zA4 ?_ GE120.out) | exact HB.out)) hb)
            clear BK120
            clear HB
            have BK120 := n0_
            have HB := n1_
            clear n0_ n1_
            (try clear hb)
            (try clear hb2)
            (try clear hk)
            (try clear hi)
            refine hK.out _ _ ⟨(zA7 BK120.out 0).trans rfl, (zA7 BK120.out 1).trans rfl, ((HB.out.cell (World.block_lt_of_cell? w _ hw125_0)).trans hw125_0), ((HB.out.cell (World.block_lt_of_cell? w _ hw125_1)).trans hw125_1), ((HB.out.cell (World.block_lt_of_cell? w _ hw126_0)).trans hw126_0), ((HB.out.cell (World.block_lt_of_cell? w _ hw126_1)).trans hw126_1)⟩ (fun hHeld => ?_)
            clear hK K
            refine norm_ (a' := ?_) ?_ ?_
            rotate_left
            ·show Act.put _ (some 63) _ = _
             simp only [Act.put, List.setIfInBounds_toArray, List.set_cons_zero, List.set_cons_succ, i64_w, i32_w]
             rfl
            refine pure_ (i := 12) (N := some 64) (v := ?_) (a' := ?_) #[true, true, true, true, true, true, true, true, true, true, true, true, true] rfl rfl (zBe HT_.out (by kernel_rfl)) (fun _ _ _ h => h) (Or.inl ⟨by rfl, ?_⟩) ?_ ?_
            rotate_left
            ·intro w'
             go_simp
             with_reducible rfl
            rotate_left
            ·simp only [Act.put, List.setIfInBounds_toArray, List.set_cons_zero, List.set_cons_succ, i64_w, i32_w]
             rfl
            refine done_ (done_of HT_.out (by kernel_rfl)) ?_
            try go_wp2
            go_ret
            exact ⟨by first | rfl | (simp [zAr, zAq] <;> rfl) | (simp only [← hji31]; first | rfl | (simp [zAr, zAq] <;> rfl)) | (simp [*, zAr, zAq] <;> rfl), by repeat (first | (with_reducible first | exact HB.out | apply zA1 | apply zA0 | apply zA3 | refine zA4 ?_ GE120.out) | exact HB.out)⟩
           ·rw [if_neg c36] at H
            have c36b0 : decide (0 ≤ t127) = false := decide_eq_false c36
            clear c36
            have H' := zA2.mk H
            clear H
            have hcz40_0 : wr.cell? ⟨gb120, 0, none⟩ = some (.int .i64 a0_0) := (zA7 BK120.out 0).trans rfl
            have hcz40_1 : wr.cell? ⟨gb120, 1, none⟩ = some (.slice A0_1 l0_1.length c0_1) := (zA7 BK120.out 1).trans rfl
            have hfz40_0 := zA9 BK120.out 0
            have hfz40_1 := zA9 BK120.out 1
            try go_wp2
            have n0_ := zA2.mk (zA8 BK120.out)
            have n1_ := zA2.mk (zA3 HB.out)
            clear BK120
            clear HB
            have BK120 := n0_
            have HB := n1_
            clear n0_ n1_
            have p125 : 0 ≤ ((ji31) : Int) := of_decide_eq_true (by first | (with_reducible assumption) | assumption)
            have q125 : (ji31) < (l0_1.length : Int) := of_decide_eq_true (by first | (with_reducible assumption) | assumption)
            obtain ⟨ad125, e125, hx125_0, hx125_1⟩ := at_T58 HR0_1.out (ji31) p125 q125
            have hw125_1 := hx125_1
            have hw125_0 := hx125_0
            cases e125
            replace hx125_0 := (HB.out.cell (World.block_lt_of_cell? w _ hx125_0)).trans hx125_0
            replace hx125_1 := (HB.out.cell (World.block_lt_of_cell? w _ hx125_1)).trans hx125_1
            replace p125 := eq_true p125
            replace q125 := eq_true q125
            have p126 : 0 ≤ (x5_3 : Int) := of_decide_eq_true (by first | (with_reducible assumption) | assumption)
            have q126 : x5_3 < (l0_1.length : Int) := of_decide_eq_true (by first | (with_reducible assumption) | assumption)
            obtain ⟨ad126, e126, hx126_0, hx126_1⟩ := at_T58 HR0_1.out x5_3 p126 q126
            have hw126_1 := hx126_1
            have hw126_0 := hx126_0
            obtain rfl : ad125 = ad126 := (by injection e126)
            replace hx126_0 := (HB.out.cell (World.block_lt_of_cell? w _ hx126_0)).trans hx126_0
            replace hx126_1 := (HB.out.cell (World.block_lt_of_cell? w _ hx126_1)).trans hx126_1
            replace p126 := eq_true p126
            replace q126 := eq_true q126
            refine start_ (n := 13) (S := fun w' => w'.cell? ⟨gb120, 0, none⟩ = some (.int .i64 a0_0) ∧ w'.cell? ⟨gb120, 1, none⟩ = some (.slice (some ad125) l0_1.length c0_1) ∧ w'.cell? (ad125.add (((ji31)).toNat * 2)) = some (.int .i64 ((zAu l0_1 (ji31)).f0)) ∧ w'.cell? ⟨(ad125.add (((ji31)).toNat * 2)).block, (ad125.add (((ji31)).toNat * 2)).off + 1, none⟩ = some (.int .i64 ((zAu l0_1 (ji31)).f1)) ∧ w'.cell? (ad125.add ((x5_3).toNat * 2)) = some (.int .i64 ((zAu l0_1 x5_3).f0)) ∧ w'.cell? ⟨(ad125.add ((x5_3).toNat * 2)).block, (ad125.add ((x5_3).toNat * 2)).off + 1, none⟩ = some (.int .i64 ((zAu l0_1 x5_3).f1))) (ds := []) #[false, false, false, false, false, false, false, false, false, false, false, false, false] (by kernel_rfl) rfl rfl ⟨(zA7 BK120.out 0).trans rfl, (zA7 BK120.out 1).trans rfl, ((HB.out.cell (World.block_lt_of_cell? w _ hw125_0)).trans hw125_0), ((HB.out.cell (World.block_lt_of_cell? w _ hw125_1)).trans hw125_1), ((HB.out.cell (World.block_lt_of_cell? w _ hw126_0)).trans hw126_0), ((HB.out.cell (World.block_lt_of_cell? w _ hw126_1)).trans hw126_1)⟩ (fun hHeld => ?_); refine with_tabW zAi.tab14 zAi.bits14 (fun HT_ HW_ => ?_)
            generalize wr.drew = w41 at BK120 HB hx125_0 hx125_1 hx126_0 hx126_1 hHeld ⊢
            refine pure_ (i := 0) (N := some 52) (v := ?_) (a' := ?_) #[true, false, false, false, false, false, false, false, false, false, false, false, false] rfl rfl (zBe HT_.out (by kernel_rfl)) (fun _ _ _ h => h) (Or.inl ⟨by rfl, ?_⟩) ?_ ?_
            rotate_left
            ·intro w'
             go_simp
             with_reducible rfl
            rotate_left
            ·simp only [Act.put, List.setIfInBounds_toArray, List.set_cons_zero, List.set_cons_succ, i64_w, i32_w]
             rfl
            refine pure_ (i := 2) (N := some 54) (v := ?_) (a' := ?_) #[true, false, true, false, false, false, false, false, false, false, false, false, false] rfl rfl (zBe HT_.out (by kernel_rfl)) (fun _ _ _ h => h) (Or.inl ⟨by rfl, ?_⟩) ?_ ?_
            rotate_left
            ·intro w'
             go_simp
             with_reducible rfl
            rotate_left
            ·simp only [Act.put, List.setIfInBounds_toArray, List.set_cons_zero, List.set_cons_succ, i64_w, i32_w]
             rfl
            refine pure_ (i := 3) (N := some 55) (v := ?_) (a' := ?_) #[true, false, true, true, false, false, false, false, false, false, false, false, false] rfl rfl (zBe HT_.out (by kernel_rfl)) (fun _ _ _ h => h) (Or.inl ⟨by rfl, ?_⟩) ?_ ?_
            rotate_left
            ·intro w'
             go_simp
             with_reducible rfl
            rotate_left
            ·simp only [Act.put, List.setIfInBounds_toArray, List.set_cons_zero, List.set_cons_succ, i64_w, i32_w]
             rfl
            refine pure_ (i := 6) (N := some 58) (v := ?_) (a' := ?_) #[true, false, true, true, false, false, true, false, false, false, false, false, false] rfl rfl (zBe HT_.out (by kernel_rfl)) (fun _ _ _ h => h) (Or.inl ⟨by rfl, ?_⟩) ?_ ?_
            rotate_left
            ·intro w'
             go_simp
             with_reducible rfl
            rotate_left
            ·simp only [Act.put, List.setIfInBounds_toArray, List.set_cons_zero, List.set_cons_succ, i64_w, i32_w]
             rfl
            refine pure_ (i := 8) (N := some 60) (v := ?_) (a' := ?_) #[true, false, true, true, false, false, true, false, true, false, false, false, false] rfl rfl (zBe HT_.out (by kernel_rfl)) (fun _ _ _ h => h) (Or.inl ⟨by rfl, ?_⟩) ?_ ?_
            rotate_left
            ·intro w'
             go_simp
             with_reducible rfl
            rotate_left
            ·simp only [Act.put, List.setIfInBounds_toArray, List.set_cons_zero, List.set_cons_succ, i64_w, i32_w]
             rfl
            refine take_ (i := 1) (N := some 53) (v := ?_) (a' := ?_) #[true, true, true, true, false, false, true, false, true, false, false, false, false] rfl rfl (zC0 HT_.out HW_.out (by kernel_rfl)) (fun _ _ _ h => h) (Or.inl ⟨by rfl, ?_⟩) hHeld ?_ ?_
            rotate_left
            ·rintro w' ⟨s0, s1, s2, s3, s4, s5⟩
             go_simp
             with_reducible rfl
            rotate_left
            ·simp only [Act.put, List.setIfInBounds_toArray, List.set_cons_zero, List.set_cons_succ, i64_w, i32_w]
             rfl
            refine pure_ (i := 4) (N := some 56) (v := ?_) (a' := ?_) #[true, true, true, true, true, false, true, false, true, false, false, false, false] rfl rfl (zBe HT_.out (by kernel_rfl)) (fun _ _ _ h => h) (Or.inl ⟨by rfl, ?_⟩) ?_ ?_
            rotate_left
            ·intro w'
             go_simp
             with_reducible rfl
            rotate_left
            ·simp only [Act.put, List.setIfInBounds_toArray, List.set_cons_zero, List.set_cons_succ, i64_w, i32_w]
             rfl
            refine take_ (i := 5) (N := some 57) (v := ?_) (a' := ?_) #[true, true, true, true, true, true, true, false, true, false, false, false, false] rfl rfl (zC0 HT_.out HW_.out (by kernel_rfl)) (fun _ _ _ h => h) (Or.inl ⟨by rfl, ?_⟩) hHeld ?_ ?_
            rotate_left
            ·rintro w' ⟨s0, s1, s2, s3, s4, s5⟩
             go_simp
             with_reducible rfl
            rotate_left
            ·simp only [Act.put, List.setIfInBounds_toArray, List.set_cons_zero, List.set_cons_succ, i64_w, i32_w]
             rfl
            refine take_ (i := 7) (N := some 59) (v := ?_) (a' := ?_) #[true, true, true, true, true, true, true, true, true, false, false, false, false] rfl rfl (zC0 HT_.out HW_.out (by kernel_rfl)) (fun _ _ _ h => h) (Or.inl ⟨by rfl, ?_⟩) hHeld ?_ ?_
            rotate_left
            ·rintro w' ⟨s0, s1, s2, s3, s4, s5⟩
             go_simp
             with_reducible rfl
            rotate_left
            ·simp only [Act.put, List.setIfInBounds_toArray, List.set_cons_zero, List.set_cons_succ, i64_w, i32_w]
             rfl
            refine pure_ (i := 9) (N := some 61) (v := ?_) (a' := ?_) #[true, true, true, true, true, true, true, true, true, true, false, false, false] rfl rfl (zBe HT_.out (by kernel_rfl)) (fun _ _ _ h => h) (Or.inl ⟨by rfl, ?_⟩) ?_ ?_
            rotate_left
            ·intro w'
             go_simp
             with_reducible rfl
            rotate_left
            ·simp only [Act.put, List.setIfInBounds_toArray, List.set_cons_zero, List.set_cons_succ, i64_w, i32_w]
             rfl
            refine take_ (i := 10) (N := some 62) (v := ?_) (a' := ?_) #[true, true, true, true, true, true, true, true, true, true, true, false, false] rfl rfl (zC0 HT_.out HW_.out (by kernel_rfl)) (fun _ _ _ h => h) (Or.inl ⟨by rfl, ?_⟩) hHeld ?_ ?_
            rotate_left
            ·rintro w' ⟨s0, s1, s2, s3, s4, s5⟩
             go_simp
             with_reducible rfl
            rotate_left
            ·simp only [Act.put, List.setIfInBounds_toArray, List.set_cons_zero, List.set_cons_succ, i64_w, i32_w]
             rfl
            refine one_ (i := 11) (N := some 63) #[true, true, true, true, true, true, true, true, true, true, true, true, false] rfl rfl (one_of HT_.out (by kernel_rfl)) (by decide) (fun K hK => ?_)
            refine goes_ Tryz.func45 (by kernel_rfl) rfl #[.agg #[.int .i64 ((zAu l0_1 (ji31)).f0), .int .i64 ((zAu l0_1 (ji31)).f1)], .agg #[.int .i64 ((zAu l0_1 x5_3).f0), .int .i64 ((zAu l0_1 x5_3).f1)]] (by rfl) rfl rfl (by (try simp only [List.map_toArray, List.map_cons, List.map_nil]); first | done | (simp only [hji31]; rfl) | rfl | (simp only [List.length_drop, List.length_take]; rfl)) ?_
            with_reducible refine (zBx.calls k3 ((zAu l0_1 (ji31)).f0) ((zAu l0_1 (ji31)).f1) ((zAu l0_1 x5_3).f0) ((zAu l0_1 x5_3).f1) t127 _ A35.out).mono ?_
            rintro e w42 ⟨rfl, hb⟩
            refine ⟨_, rfl, ?_⟩
            have n0_ := zA2.mk (zAl (g := gb120) (o := .cells #[.int .i64 a0_0, .slice (some ad125) l0_1.length c0_1] 28 (0, 0)) (by (with_reducible repeat (first | refine zA6 ?_ _ | refine zA8 ?_ | refine zA5 ?_ _)); exact BK120.out) hb)
            have n1_ := zA2.mk (zAe (by repeat (first | (with_reducible first | exact HB.out | apply zA1 | apply zA0 | apply zA3 | refine zA4 ?_ GE120.out) | exact HB.out)) hb)
            clear BK120
            clear HB
            have BK120 := n0_
            have HB := n1_
            clear n0_ n1_
            (try clear hb)
            (try clear hb2)
            (try clear hk)
            (try clear hi)
            refine hK.out _ _ ⟨(zA7 BK120.out 0).trans rfl, (zA7 BK120.out 1).trans rfl, ((HB.out.cell (World.block_lt_of_cell? w _ hw125_0)).trans hw125_0), ((HB.out.cell (World.block_lt_of_cell? w _ hw125_1)).trans hw125_1), ((HB.out.cell (World.block_lt_of_cell? w _ hw126_0)).trans hw126_0), ((HB.out.cell (World.block_lt_of_cell? w _ hw126_1)).trans hw126_1)⟩ (fun hHeld => ?_)
            clear hK K
            refine norm_ (a' := ?_) ?_ ?_
            rotate_left
            ·show Act.put _ (some 63) _ = _
             simp only [Act.put, List.setIfInBounds_toArray, List.set_cons_zero, List.set_cons_succ, i64_w, i32_w]
             rfl
            refine pure_ (i := 12) (N := some 64) (v := ?_) (a' := ?_) #[true, true, true, true, true, true, true, true, true, true, true, true, true] rfl rfl (zBe HT_.out (by kernel_rfl)) (fun _ _ _ h => h) (Or.inl ⟨by rfl, ?_⟩) ?_ ?_
            rotate_left
            ·intro w'
             go_simp
             with_reducible rfl
            rotate_left
            ·simp only [Act.put, List.setIfInBounds_toArray, List.set_cons_zero, List.set_cons_succ, i64_w, i32_w]
             rfl
            refine done_ (done_of HT_.out (by kernel_rfl)) ?_
            try go_wp2
            go_roundg k3
            case measure => have := HJ1.out; have := HK2.out; have := HK3.out; omega
            case rel => exact ⟨(wrap64 (x5_3 + 1)), (by first | rfl | (simp; done) | (simp [*]; done)), H', ⟨by have := HJ1.out; have := HK2.out; have := HK3.out; omega⟩, ⟨by (with_reducible repeat (first | refine zA6 ?_ _ | refine zA8 ?_ | refine zA5 ?_ _)); exact BK120.out⟩, ⟨by repeat (first | (with_reducible first | exact HB.out | apply zA1 | apply zA0 | apply zA3 | refine zA4 ?_ GE120.out) | exact HB.out)⟩⟩
          ·rw [if_neg c30] at H
           have c30b0 : decide (x5_3 < (l0_1.length : Int)) = false := decide_eq_false c30
           clear c30
           obtain rfl := Option.some.inj H
           have hcz43_0 : wr.cell? ⟨gb120, 0, none⟩ = some (.int .i64 a0_0) := (zA7 BK120.out 0).trans rfl
           have hcz43_1 : wr.cell? ⟨gb120, 1, none⟩ = some (.slice A0_1 l0_1.length c0_1) := (zA7 BK120.out 1).trans rfl
           have hfz43_0 := zA9 BK120.out 0
           have hfz43_1 := zA9 BK120.out 1
           go_wp2
           go_ret
           exact ⟨by first | rfl | (simp [zAr, zAq] <;> rfl) | (simp [*, zAr, zAq] <;> rfl), by repeat (first | (with_reducible first | exact HB.out | apply zA1 | apply zA0 | apply zA3 | refine zA4 ?_ GE120.out) | exact HB.out)⟩
end
end Go.Proofs.YtbghfbhlbfcloaaGreatDoor.PL
namespace Go.Proofs.YtbghfbhlbfcloaaGreatDoor.PL
section
open Go.RowKit Go.Proofs.YtbghfbhlbfcloaaGreatDoorW.PrintWords Go.Proofs.YtbghfbhlbfcloaaGreatDoorW.PrintLast Go.Proofs.YtbghfbhlbfcloaaGreatDoorW.PrintMore
attribute [local go_sem] zBu zBs zC3 zC2 zBn zBm zBt zBr   -- for this text's walks alone
set_option linter.unusedVariables false
set_option linter.unusedSimpArgs false
attribute [local go_sem high] eqA58
def zBk.l0 : Nat → List (S58) → Int → Int → Int → Int → Option (Int)
 | 0, _, _, _, _, _ => none
 | k + 1, x0, x7, x8, x129000, x129001 => if x8 < x7 then (if 0 ≤ x8 then (if x8 < (x0.length : Int) then (if (x129000 == ((zAu x0 x8).f0) && (x129001 == ((zAu x0 x8).f1))) = true then (some x8) else (zBk.l0 k x0 x7 (wrap64 (x8 + 1)) x129000 x129001)) else (none)) else (none)) else (some (-1))
def zBk.f (k : Nat) (l0 : List (S58)) (a1_0 : Int) (a1_1 : Int) : Option (Int) := zBk.l0 k l0 (l0.length : Int) 0 a1_0 a1_1
theorem zBk.zBv : ∀ k, (∀ y0 y1 y2 y3 y4, LeO (zBk.l0 k y0 y1 y2 y3 y4) (zBk.l0 (k + 1) y0 y1 y2 y3 y4))
 | 0 => fun _ _ _ _ _ r h => by simp [zBk.l0] at h
 | k + 1 => by
  have ih0 := zBk.zBv k
  ·intro y0 y1 y2 y3 y4
   unfold zBk.l0
   repeat' first
   | (with_reducible exact ih0 _ _ _ _ _)
   | (with_reducible exact LeO.refl _)
   | (with_reducible exact LeO.none _)
   | (with_reducible refine LeO.ite ?_ ?_)
   | (with_reducible refine LeO.bind ?_ (fun _ => ?_))
theorem zBk.mono : ∀ a0 a1 a2 k, LeO (zBk.f k a0 a1 a2) (zBk.f (k + 1) a0 a1 a2) := by
 intro a0 a1 a2 k
 have ih0 := zBk.zBv k
 unfold zBk.f
 repeat' first
   | (with_reducible exact ih0 _ _ _ _ _)
   | (with_reducible exact LeO.refl _)
   | (with_reducible exact LeO.none _)
   | (with_reducible refine LeO.ite ?_ ?_)
   | (with_reducible refine LeO.bind ?_ (fun _ => ?_))
set_option maxHeartbeats 8000000 in
set_option maxRecDepth 100000 in
theorem zBk.calls (k : Nat) (A0 : Option Addr) (c0 : Nat) (l0 : List (S58)) (a1_0 : Int) (a1_1 : Int) (r : Int) (w : World) (hr0 : Kd.C k58 w A0 l0.length l0) (hc0 : l0.length ≤ c0) (h : zBk.f k l0 a1_0 a1_1 = some r) :
  Calls Tryz.prog 61 #[.slice A0 l0.length c0, .agg #[.int .i64 a1_0, .int .i64 a1_1]] w fun e w' => e = .returned (.int .i64 r) ∧ Below w.heap.size w w' := by
 have hu58 := Tryz.underlying58
 have HR0 := zA2.mk hr0
 have HC0 := zA2.mk hc0
 clear hr0 hc0
 have HB := zA2.mk (Below.refl w.heap.size w)
 have H : (zBk.l0 k l0 (l0.length : Int) 0 a1_0 a1_1) = some r := h
 clear h
 have H' := zA2.mk H
 clear H
 go_enter Tryz.func61, Tryz.ntmps61
 go_wp2_with (first | ((with_reducible refine zBl (N := 3) rfl ?_); refine zBj ?hg (N := 3) ?hd (cs := #[.int .i64 a1_0, .int .i64 a1_1]) (t := 58) ?hr ?_; (case hd => rfl); (case hg => rfl); (case hr => first | (go_simp; done) | (go_simp; rfl)); intro gb128 hg w3 hbox hb; have n0_ := zA2.mk (zAe (by repeat (first | (with_reducible first | exact HB.out | apply zA1 | apply zA0 | apply zA3) | exact HB.out)) hb); have n1_ := zA2.mk (hbox); have n2_ := zA2.mk ((by rw [hg]; exact (zAb (by repeat (first | (with_reducible first | exact HB.out | apply zA1 | apply zA0 | apply zA3) | exact HB.out))) : w.heap.size ≤ gb128)); have n3_ := zA2.mk ((by rw [hg]; exact (zAb (by repeat (first | (with_reducible first | exact HB.out | apply zA1 | apply zA0 | apply zA3) | exact HB.out))) : w.heap.size ≤ gb128)); clear HB; have HB := n0_; have BK128 := n1_; have GW128 := n2_; have GE128 := n3_; clear n0_ n1_ n2_ n3_; clear hb hbox hg))
 repeat (go_quiet (first | ((with_reducible refine zBl (N := 3) rfl ?_); refine zBj ?hg (N := 3) ?hd (cs := #[.int .i64 a1_0, .int .i64 a1_1]) (t := 58) ?hr ?_; (case hd => rfl); (case hg => rfl); (case hr => first | (go_simp; done) | (go_simp; rfl)); intro gb128 hg w3 hbox hb; have n0_ := zA2.mk (zAe (by repeat (first | (with_reducible first | exact HB.out | apply zA1 | apply zA0 | apply zA3) | exact HB.out)) hb); have n1_ := zA2.mk (hbox); have n2_ := zA2.mk ((by rw [hg]; exact (zAb (by repeat (first | (with_reducible first | exact HB.out | apply zA1 | apply zA0 | apply zA3) | exact HB.out))) : w.heap.size ≤ gb128)); have n3_ := zA2.mk ((by rw [hg]; exact (zAb (by repeat (first | (with_reducible first | exact HB.out | apply zA1 | apply zA0 | apply zA3) | exact HB.out))) : w.heap.size ≤ gb128)); clear HB; have HB := n0_; have BK128 := n1_; have GW128 := n2_; have GE128 := n3_; clear n0_ n1_ n2_ n3_; clear hb hbox hg)); try go_wp2_with (first | ((with_reducible refine zBl (N := 3) rfl ?_); refine zBj ?hg (N := 3) ?hd (cs := #[.int .i64 a1_0, .int .i64 a1_1]) (t := 58) ?hr ?_; (case hd => rfl); (case hg => rfl); (case hr => first | (go_simp; done) | (go_simp; rfl)); intro gb128 hg w3 hbox hb; have n0_ := zA2.mk (zAe (by repeat (first | (with_reducible first | exact HB.out | apply zA1 | apply zA0 | apply zA3) | exact HB.out)) hb); have n1_ := zA2.mk (hbox); have n2_ := zA2.mk ((by rw [hg]; exact (zAb (by repeat (first | (with_reducible first | exact HB.out | apply zA1 | apply zA0 | apply zA3) | exact HB.out))) : w.heap.size ≤ gb128)); have n3_ := zA2.mk ((by rw [hg]; exact (zAb (by repeat (first | (with_reducible first | exact HB.out | apply zA1 | apply zA0 | apply zA3) | exact HB.out))) : w.heap.size ≤ gb128)); clear HB; have HB := n0_; have BK128 := n1_; have GW128 := n2_; have GE128 := n3_; clear n0_ n1_ n2_ n3_; clear hb hbox hg)))
 go_loopg [8] k (fun kq v8 w' => ∃ (x8_1 : Int), v8 = .int .i64 x8_1 ∧ zA2 (zBk.l0 kq l0 (l0.length : Int) x8_1 a1_0 a1_1 = some r) ∧ zA2 (kq ≤ k) ∧ zA2 (w'.heap[gb128]? = some (.cells #[.int .i64 a1_0, .int .i64 a1_1] 58 (0, 0))) ∧ zA2 (Below w.heap.size w w'))
 case atStart => exact ⟨(0), (by first | rfl | (simp; done) | (simp [*]; done)), H', ⟨Nat.le_refl _⟩, ⟨by (with_reducible repeat (first | refine zA6 ?_ _ | refine zA8 ?_ | refine zA5 ?_ _)); exact BK128.out⟩, ⟨by repeat (first | (with_reducible first | exact HB.out | apply zA1 | apply zA0 | apply zA3 | refine zA4 ?_ GE128.out) | exact HB.out)⟩⟩
 case round =>
  clear H'
  try clear p2
  obtain ⟨x8_1, rfl, HA, HK1, BK128, HB⟩ := hrel
  cases gk with
  | zero => exact absurd HA.out (by simp [zBk.l0])
  | succ k1 =>
   have H := HA.out
   clear HA
   simp only [zBk.l0] at H
   by_cases c4 : x8_1 < (l0.length : Int)
   ·rw [if_pos c4] at H
    have c4b0 : decide (x8_1 < (l0.length : Int)) = true := decide_eq_true c4
    clear c4
    by_cases c5 : 0 ≤ x8_1
    rotate_left
    ·rw [if_neg c5] at H
     exact absurd H (by simp)
    rw [if_pos c5] at H
    have c5b0 : decide (0 ≤ x8_1) = true := decide_eq_true c5
    clear c5
    by_cases c6 : x8_1 < (l0.length : Int)
    rotate_left
    ·rw [if_neg c6] at H
     exact absurd H (by simp)
    rw [if_pos c6] at H
    have c6b0 : decide (x8_1 < (l0.length : Int)) = true := decide_eq_true c6
    clear c6
    by_cases c7 : (a1_0 == ((zAu l0 x8_1).f0) && (a1_1 == ((zAu l0 x8_1).f1))) = true
    ·rw [if_pos c7] at H
     have c7b0 : (a1_0 == ((zAu l0 x8_1).f0) && (a1_1 == ((zAu l0 x8_1).f1))) = true := c7
     (try (have c7b1 : decide (a1_0 = ((zAu l0 x8_1).f0) && (a1_1 == ((zAu l0 x8_1).f1))) = true := by simpa using c7))
     (try (have c7b2 : (a1_0 == ((zAu l0 x8_1).f0) && (a1_1 == ((zAu l0 x8_1).f1))) = true := by simpa using c7))
     clear c7
     obtain rfl := Option.some.inj H
     have hcz8_0 : wr.cell? ⟨gb128, 0, none⟩ = some (.int .i64 a1_0) := (zA7 BK128.out 0).trans rfl
     have hcz8_1 : wr.cell? ⟨gb128, 1, none⟩ = some (.int .i64 a1_1) := (zA7 BK128.out 1).trans rfl
     have hfz8_0 := zA9 BK128.out 0
     have hfz8_1 := zA9 BK128.out 1
     have p129 : 0 ≤ (x8_1 : Int) := of_decide_eq_true (by first | (with_reducible assumption) | assumption)
     have q129 : x8_1 < (l0.length : Int) := of_decide_eq_true (by first | (with_reducible assumption) | assumption)
     obtain ⟨ad129, e129, hx129_0, hx129_1⟩ := at_T58 HR0.out x8_1 p129 q129
     cases e129
     replace hx129_0 := (HB.out.cell (World.block_lt_of_cell? w _ hx129_0)).trans hx129_0
     replace hx129_1 := (HB.out.cell (World.block_lt_of_cell? w _ hx129_1)).trans hx129_1
     replace p129 := eq_true p129
     replace q129 := eq_true q129
     go_wp2
     repeat (go_quiet (fail); try go_wp2)
     go_ret
     exact ⟨by first | rfl | (simp [zAr, zAq] <;> rfl) | (simp [*, zAr, zAq] <;> rfl), by repeat (first | (with_reducible first | exact HB.out | apply zA1 | apply zA0 | apply zA3 | refine zA4 ?_ GE128.out) | exact HB.out)⟩
    ·rw [if_neg c7] at H
     have c7b0 : (a1_0 == ((zAu l0 x8_1).f0) && (a1_1 == ((zAu l0 x8_1).f1))) = false := by simpa using c7
     (try (have c7b1 : decide (a1_0 = ((zAu l0 x8_1).f0) && (a1_1 == ((zAu l0 x8_1).f1))) = false := by simpa using c7))
     (try (have c7b2 : (a1_0 == ((zAu l0 x8_1).f0) && (a1_1 == ((zAu l0 x8_1).f1))) = false := by simpa using c7))
     (try (have c7b3 : ¬ (a1_0 = ((zAu l0 x8_1).f0) && (a1_1 == ((zAu l0 x8_1).f1))) := by simpa using c7))
     clear c7
     have H' := zA2.mk H
     clear H
     have hcz9_0 : wr.cell? ⟨gb128, 0, none⟩ = some (.int .i64 a1_0) := (zA7 BK128.out 0).trans rfl
     have hcz9_1 : wr.cell? ⟨gb128, 1, none⟩ = some (.int .i64 a1_1) := (zA7 BK128.out 1).trans rfl
     have hfz9_0 := zA9 BK128.out 0
     have hfz9_1 := zA9 BK128.out 1
     have p129 : 0 ≤ (x8_1 : Int) := of_decide_eq_true (by first | (with_reducible assumption) | assumption)
     have q129 : x8_1 < (l0.length : Int) := of_decide_eq_true (by first | (with_reducible assumption) | assumption)
     obtain ⟨ad129, e129, hx129_0, hx129_1⟩ := at_T58 HR0.out x8_1 p129 q129
     cases e129
     replace hx129_0 := (HB.out.cell (World.block_lt_of_cell? w _ hx129_0)).trans hx129_0
     replace hx129_1 := (HB.out.cell (World.block_lt_of_cell? w _ hx129_1)).trans hx129_1
     replace p129 := eq_true p129
     replace q129 := eq_true q129
     go_wp2
     repeat (go_quiet (fail); try go_wp2)
     go_roundg k1
     case measure => have := HK1.out; omega
     case rel => exact ⟨(wrap64 (x8_1 + 1)), (by first | rfl | (simp; done) | (simp [*]; done)), H', ⟨by have := HK1.out; omega⟩, ⟨by (with_reducible repeat (first | refine zA6 ?_ _ | refine zA8 ?_ | refine zA5 ?_ _)); exact BK128.out⟩, ⟨by repeat (first | (with_reducible first | exact HB.out | apply zA1 | apply zA0 | apply zA3 | refine zA4 ?_ GE128.out) | exact HB.out)⟩⟩
   ·rw [if_neg c4] at H
    have c4b0 : decide (x8_1 < (l0.length : Int)) = false := decide_eq_false c4
    clear c4
    obtain rfl := Option.some.inj H
    go_wp2
    repeat (go_quiet (fail); try go_wp2)
    go_ret
    exact ⟨by first | rfl | (simp [zAr, zAq] <;> rfl) | (simp [*, zAr, zAq] <;> rfl), by repeat (first | (with_reducible first | exact HB.out | apply zA1 | apply zA0 | apply zA3 | refine zA4 ?_ GE128.out) | exact HB.out)⟩
end
end Go.Proofs.YtbghfbhlbfcloaaGreatDoor.PL
namespace Go.Proofs.YtbghfbhlbfcloaaGreatDoor.PL
section
open Go.RowKit Go.Proofs.YtbghfbhlbfcloaaGreatDoorW.PrintWords Go.Proofs.YtbghfbhlbfcloaaGreatDoorW.PrintLast Go.Proofs.YtbghfbhlbfcloaaGreatDoorW.PrintMore
attribute [local go_sem] zBu zBs zC3 zC2 zBn zBm zBt zBr   -- for this text's walks alone
set_option linter.unusedVariables false
set_option linter.unusedSimpArgs false
attribute [local go_sem high] eqA58
def zCb.f (k : Nat) (l0 : List (S58)) (a1_0 : Int) (a1_1 : Int) : Option (Bool) := (zBk.f k l0 a1_0 a1_1).bind fun t131 => (some (decide (t131 ≥ 0)))
theorem zCb.mono : ∀ a0 a1 a2 k, LeO (zCb.f k a0 a1 a2) (zCb.f (k + 1) a0 a1 a2) := by
 intro a0 a1 a2 k
 unfold zCb.f
 repeat' first
   | (with_reducible exact zBk.mono _ _ _ _)
   | (with_reducible exact LeO.refl _)
   | (with_reducible exact LeO.none _)
   | (with_reducible refine LeO.ite ?_ ?_)
   | (with_reducible refine LeO.bind ?_ (fun _ => ?_))
set_option maxHeartbeats 8000000 in
set_option maxRecDepth 100000 in
theorem zCb.calls (k : Nat) (A0 : Option Addr) (c0 : Nat) (l0 : List (S58)) (a1_0 : Int) (a1_1 : Int) (r : Bool) (w : World) (hr0 : Kd.C k58 w A0 l0.length l0) (hc0 : l0.length ≤ c0) (h : zCb.f k l0 a1_0 a1_1 = some r) :
  Calls Tryz.prog 41 #[.slice A0 l0.length c0, .agg #[.int .i64 a1_0, .int .i64 a1_1]] w fun e w' => e = .returned (.bool r) ∧ Below w.heap.size w w' := by
 have hu58 := Tryz.underlying58
 have HR0 := zA2.mk hr0
 have HC0 := zA2.mk hc0
 clear hr0 hc0
 have HB := zA2.mk (Below.refl w.heap.size w)
 have H : ((zBk.f k l0 a1_0 a1_1).bind fun t131 => (some (decide (t131 ≥ 0)))) = some r := h
 clear h
 replace H := Option.bind_eq_some_iff.mp H
 obtain ⟨t131, A30, H⟩ := H
 replace H : (some (decide (t131 ≥ 0))) = some r := H
 have A3 := zA2.mk A30
 clear A30
 obtain rfl := Option.some.inj H
 go_enter Tryz.func41, Tryz.ntmps41
 go_wp2_with (first | ((with_reducible refine zBl (N := 3) rfl ?_); refine zBj ?hg (N := 3) ?hd (cs := #[.int .i64 a1_0, .int .i64 a1_1]) (t := 58) ?hr ?_; (case hd => rfl); (case hg => rfl); (case hr => first | (go_simp; done) | (go_simp; rfl)); intro gb130 hg w4 hbox hb; have n0_ := zA2.mk (zAe (by repeat (first | (with_reducible first | exact HB.out | apply zA1 | apply zA0 | apply zA3) | exact HB.out)) hb); have n1_ := zA2.mk (hbox); have n2_ := zA2.mk ((by rw [hg]; exact (zAb (by repeat (first | (with_reducible first | exact HB.out | apply zA1 | apply zA0 | apply zA3) | exact HB.out))) : w.heap.size ≤ gb130)); have n3_ := zA2.mk ((by rw [hg]; exact (zAb (by repeat (first | (with_reducible first | exact HB.out | apply zA1 | apply zA0 | apply zA3) | exact HB.out))) : w.heap.size ≤ gb130)); clear HB; have HB := n0_; have BK130 := n1_; have GW130 := n2_; have GE130 := n3_; clear n0_ n1_ n2_ n3_; clear hb hbox hg; have hcz5_0 : w4.cell? ⟨gb130, 0, none⟩ = some (.int .i64 a1_0) := (zA7 BK130.out 0).trans rfl; have hcz5_1 : w4.cell? ⟨gb130, 1, none⟩ = some (.int .i64 a1_1) := (zA7 BK130.out 1).trans rfl; have hfz5_0 := zA9 BK130.out 0; have hfz5_1 := zA9 BK130.out 1) | ((with_reducible refine zAp (f := 61) rfl ?_); refine zBq (some 7) rfl rfl Tryz.func61 (by kernel_rfl) rfl #[.slice A0 l0.length c0, .agg #[.int .i64 a1_0, .int .i64 a1_1]] rfl (by (try simp only [List.map_toArray, List.map_cons, List.map_nil]); first | done | rfl | (simp only [List.length_drop, List.length_take]; rfl)) ?_; (with_reducible refine (zBk.calls k _ _ l0 a1_0 a1_1 t131 _ ?side1 ?side2 A3.out).mono ?_); (case side1 => repeat (first | exact (Kd.zAk HR0.out HB.out) | (with_reducible refine Kd.zAj ?_ _) | (with_reducible refine Kd.zAs ?_ _) | (with_reducible refine Kd.zB2 ?_))); (case side2 => exact HC0.out); rintro e w6 ⟨rfl, hb⟩; refine ⟨_, rfl, ?_⟩; have n0_ := zA2.mk (zAl (g := gb130) (o := .cells #[.int .i64 a1_0, .int .i64 a1_1] 58 (0, 0)) (by (with_reducible repeat (first | refine zA6 ?_ _ | refine zA8 ?_ | refine zA5 ?_ _)); exact BK130.out) hb); have n1_ := zA2.mk (zAe (by repeat (first | (with_reducible first | exact HB.out | apply zA1 | apply zA0 | apply zA3 | refine zA4 ?_ GE130.out) | exact HB.out)) hb); clear BK130; clear HB; have BK130 := n0_; have HB := n1_; clear n0_ n1_; (try clear hb); (try clear hb2); (try clear hk); (try clear hi)))
 go_ret
 exact ⟨by first | rfl | (simp [zAr, zAq] <;> rfl) | (simp [*, zAr, zAq] <;> rfl), by repeat (first | (with_reducible first | exact HB.out | apply zA1 | apply zA0 | apply zA3 | refine zA4 ?_ GE130.out) | exact HB.out)⟩
end
end Go.Proofs.YtbghfbhlbfcloaaGreatDoor.PL
namespace Go.Proofs.YtbghfbhlbfcloaaGreatDoor.PL
section
open Go.RowKit Go.Proofs.YtbghfbhlbfcloaaGreatDoorW.PrintWords Go.Proofs.YtbghfbhlbfcloaaGreatDoorW.PrintLast Go.Proofs.YtbghfbhlbfcloaaGreatDoorW.PrintMore
attribute [local go_sem] zBu zBs zC3 zC2 zBn zBm zBt zBr   -- for this text's walks alone
set_option linter.unusedVariables false
set_option linter.unusedSimpArgs false
attribute [local go_sem high] eqA58
def zAy.l0 : Nat → List (S58) → Int → Int → Int → List (S58) → Option (Int)
 | 0, _, _, _, _, _ => none
 | k + 1, x15, x16, x17, x133000, x133001 => if x17 < x16 then (if 0 ≤ x17 then (if x17 < (x15.length : Int) then (if ((zAu x15 x17).f0) = ((zAu x15 x17).f1) then (some 17) else ((zCb.f k x133001 ((zAu x15 x17).f1) ((zAu x15 x17).f0)).bind fun t136 => (if t136 = true then (zAy.l0 k x15 x16 (wrap64 (x17 + 1)) x133000 x133001) else (some 10)))) else (none)) else (none)) else (some 0)
def zAy.f (k : Nat) (a0_0 : Int) (l0_1 : List (S58)) : Option (Int) := (zAi.f k a0_0 l0_1).bind fun t133 => (if t133 = 0 then (if a0_0 > 12 then (some 6) else (zAy.l0 k l0_1 (l0_1.length : Int) 0 a0_0 l0_1)) else (some t133))
theorem zAy.zBv : ∀ k, (∀ y0 y1 y2 y3 y4, LeO (zAy.l0 k y0 y1 y2 y3 y4) (zAy.l0 (k + 1) y0 y1 y2 y3 y4))
 | 0 => fun _ _ _ _ _ r h => by simp [zAy.l0] at h
 | k + 1 => by
  have ih0 := zAy.zBv k
  ·intro y0 y1 y2 y3 y4
   unfold zAy.l0
   repeat' first
   | (with_reducible exact ih0 _ _ _ _ _)
   | (with_reducible exact zAi.mono _ _ _)
   | (with_reducible exact zCb.mono _ _ _ _)
   | (with_reducible exact LeO.refl _)
   | (with_reducible exact LeO.none _)
   | (with_reducible refine LeO.ite ?_ ?_)
   | (with_reducible refine LeO.bind ?_ (fun _ => ?_))
theorem zAy.mono : ∀ a0 a1 k, LeO (zAy.f k a0 a1) (zAy.f (k + 1) a0 a1) := by
 intro a0 a1 k
 have ih0 := zAy.zBv k
 unfold zAy.f
 repeat' first
   | (with_reducible exact ih0 _ _ _ _ _)
   | (with_reducible exact zAi.mono _ _ _)
   | (with_reducible exact zCb.mono _ _ _ _)
   | (with_reducible exact LeO.refl _)
   | (with_reducible exact LeO.none _)
   | (with_reducible refine LeO.ite ?_ ?_)
   | (with_reducible refine LeO.bind ?_ (fun _ => ?_))
set_option maxHeartbeats 8000000 in
set_option maxRecDepth 100000 in
theorem zAy.calls (k : Nat) (a0_0 : Int) (A0_1 : Option Addr) (c0_1 : Nat) (l0_1 : List (S58)) (r : Int) (w : World) (hr0_1 : Kd.C k58 w A0_1 l0_1.length l0_1) (hc0_1 : l0_1.length ≤ c0_1) (h : zAy.f k a0_0 l0_1 = some r) :
  Calls Tryz.prog 21 #[.agg #[.int .i64 a0_0, .slice A0_1 l0_1.length c0_1]] w fun e w' => e = .returned (.int .i64 r) ∧ Below w.heap.size w w' := by
 have hu28 := Tryz.underlying28
 have hu58 := Tryz.underlying58
 have HR0_1 := zA2.mk hr0_1
 have HC0_1 := zA2.mk hc0_1
 clear hr0_1 hc0_1
 have HB := zA2.mk (Below.refl w.heap.size w)
 have H : ((zAi.f k a0_0 l0_1).bind fun t133 => (if t133 = 0 then (if a0_0 > 12 then (some 6) else (zAy.l0 k l0_1 (l0_1.length : Int) 0 a0_0 l0_1)) else (some t133))) = some r := h
 clear h
 replace H := Option.bind_eq_some_iff.mp H
 obtain ⟨t133, A20, H⟩ := H
 replace H : (if t133 = 0 then (if a0_0 > 12 then (some 6) else (zAy.l0 k l0_1 (l0_1.length : Int) 0 a0_0 l0_1)) else (some t133)) = some r := H
 have A2 := zA2.mk A20
 clear A20
 by_cases c3 : t133 = 0
 ·rw [if_pos c3] at H
  have c3b0 : (t133 == 0) = true := beq_iff_eq.mpr c3
  have c3b1 : (t133 != 0) = false := bne_eq_false_iff_eq.mpr c3
  clear c3
  by_cases c4 : a0_0 > 12
  ·rw [if_pos c4] at H
   have c4b0 : decide (12 < a0_0) = true := decide_eq_true c4
   clear c4
   obtain rfl := Option.some.inj H
   go_enter Tryz.func21, Tryz.ntmps21
   go_wp2_with (first | ((with_reducible refine zBl (N := 1) rfl ?_); refine zBj ?hg (N := 1) ?hd (cs := #[.int .i64 a0_0, .slice A0_1 l0_1.length c0_1]) (t := 28) ?hr ?_; (case hd => rfl); (case hg => rfl); (case hr => first | (go_simp; done) | (go_simp; rfl)); intro gb132 hg w5 hbox hb; have n0_ := zA2.mk (zAe (by repeat (first | (with_reducible first | exact HB.out | apply zA1 | apply zA0 | apply zA3) | exact HB.out)) hb); have n1_ := zA2.mk (hbox); have n2_ := zA2.mk ((by rw [hg]; exact (zAb (by repeat (first | (with_reducible first | exact HB.out | apply zA1 | apply zA0 | apply zA3) | exact HB.out))) : w.heap.size ≤ gb132)); have n3_ := zA2.mk ((by rw [hg]; exact (zAb (by repeat (first | (with_reducible first | exact HB.out | apply zA1 | apply zA0 | apply zA3) | exact HB.out))) : w.heap.size ≤ gb132)); clear HB; have HB := n0_; have BK132 := n1_; have GW132 := n2_; have GE132 := n3_; clear n0_ n1_ n2_ n3_; clear hb hbox hg; have hcz6_0 : w5.cell? ⟨gb132, 0, none⟩ = some (.int .i64 a0_0) := (zA7 BK132.out 0).trans rfl; have hcz6_1 : w5.cell? ⟨gb132, 1, none⟩ = some (.slice A0_1 l0_1.length c0_1) := (zA7 BK132.out 1).trans rfl; have hfz6_0 := zA9 BK132.out 0; have hfz6_1 := zA9 BK132.out 1) | ((with_reducible refine zAp (f := 39) rfl ?_); refine zBq (some 7) rfl rfl Tryz.func39 (by kernel_rfl) rfl #[.agg #[.int .i64 a0_0, .slice A0_1 l0_1.length c0_1]] rfl (by (try simp only [List.map_toArray, List.map_cons, List.map_nil]); first | done | rfl | (simp only [List.length_drop, List.length_take]; rfl)) ?_; (with_reducible refine (zAi.calls k a0_0 _ _ l0_1 t133 _ ?side1 ?side2 A2.out).mono ?_); (case side1 => repeat (first | exact (Kd.zAk HR0_1.out HB.out) | (with_reducible refine Kd.zAj ?_ _) | (with_reducible refine Kd.zAs ?_ _) | (with_reducible refine Kd.zB2 ?_))); (case side2 => exact HC0_1.out); rintro e w7 ⟨rfl, hb⟩; refine ⟨_, rfl, ?_⟩; have n0_ := zA2.mk (zAl (g := gb132) (o := .cells #[.int .i64 a0_0, .slice A0_1 l0_1.length c0_1] 28 (0, 0)) (by (with_reducible repeat (first | refine zA6 ?_ _ | refine zA8 ?_ | refine zA5 ?_ _)); exact BK132.out) hb); have n1_ := zA2.mk (zAe (by repeat (first | (with_reducible first | exact HB.out | apply zA1 | apply zA0 | apply zA3 | refine zA4 ?_ GE132.out) | exact HB.out)) hb); clear BK132; clear HB; have BK132 := n0_; have HB := n1_; clear n0_ n1_; (try clear hb); (try clear hb2); (try clear hk); (try clear hi); have hcz8_0 : w7.cell? ⟨gb132, 0, none⟩ = some (.int .i64 a0_0) := (zA7 BK132.out 0).trans rfl; have hcz8_1 : w7.cell? ⟨gb132, 1, none⟩ = some (.slice A0_1 l0_1.length c0_1) := (zA7 BK132.out 1).trans rfl; have hfz8_0 := zA9 BK132.out 0; have hfz8_1 := zA9 BK132.out 1))
   go_ret
   exact ⟨by first | rfl | (simp [zAr, zAq] <;> rfl) | (simp [*, zAr, zAq] <;> rfl), by repeat (first | (with_reducible first | exact HB.out | apply zA1 | apply zA0 | apply zA3 | refine zA4 ?_ GE132.out) | exact HB.out)⟩
  ·rw [if_neg c4] at H
   have c4b0 : decide (12 < a0_0) = false := decide_eq_false c4
   clear c4
   have H' := zA2.mk H
   clear H
   go_enter Tryz.func21, Tryz.ntmps21
   go_wp2_with (first | ((with_reducible refine zBl (N := 1) rfl ?_); refine zBj ?hg (N := 1) ?hd (cs := #[.int .i64 a0_0, .slice A0_1 l0_1.length c0_1]) (t := 28) ?hr ?_; (case hd => rfl); (case hg => rfl); (case hr => first | (go_simp; done) | (go_simp; rfl)); intro gb132 hg w9 hbox hb; have n0_ := zA2.mk (zAe (by repeat (first | (with_reducible first | exact HB.out | apply zA1 | apply zA0 | apply zA3) | exact HB.out)) hb); have n1_ := zA2.mk (hbox); have n2_ := zA2.mk ((by rw [hg]; exact (zAb (by repeat (first | (with_reducible first | exact HB.out | apply zA1 | apply zA0 | apply zA3) | exact HB.out))) : w.heap.size ≤ gb132)); have n3_ := zA2.mk ((by rw [hg]; exact (zAb (by repeat (first | (with_reducible first | exact HB.out | apply zA1 | apply zA0 | apply zA3) | exact HB.out))) : w.heap.size ≤ gb132)); clear HB; have HB := n0_; have BK132 := n1_; have GW132 := n2_; have GE132 := n3_; clear n0_ n1_ n2_ n3_; clear hb hbox hg; have hcz10_0 : w9.cell? ⟨gb132, 0, none⟩ = some (.int .i64 a0_0) := (zA7 BK132.out 0).trans rfl; have hcz10_1 : w9.cell? ⟨gb132, 1, none⟩ = some (.slice A0_1 l0_1.length c0_1) := (zA7 BK132.out 1).trans rfl; have hfz10_0 := zA9 BK132.out 0; have hfz10_1 := zA9 BK132.out 1) | ((with_reducible refine zAp (f := 39) rfl ?_); refine zBq (some 7) rfl rfl Tryz.func39 (by kernel_rfl) rfl #[.agg #[.int .i64 a0_0, .slice A0_1 l0_1.length c0_1]] rfl (by (try simp only [List.map_toArray, List.map_cons, List.map_nil]); first | done | rfl | (simp only [List.length_drop, List.length_take]; rfl)) ?_; (with_reducible refine (zAi.calls k a0_0 _ _ l0_1 t133 _ ?side1 ?side2 A2.out).mono ?_); (case side1 => repeat (first | exact (Kd.zAk HR0_1.out HB.out) | (with_reducible refine Kd.zAj ?_ _) | (with_reducible refine Kd.zAs ?_ _) | (with_reducible refine Kd.zB2 ?_))); (case side2 => exact HC0_1.out); rintro e w11 ⟨rfl, hb⟩; refine ⟨_, rfl, ?_⟩; have n0_ := zA2.mk (zAl (g := gb132) (o := .cells #[.int .i64 a0_0, .slice A0_1 l0_1.length c0_1] 28 (0, 0)) (by (with_reducible repeat (first | refine zA6 ?_ _ | refine zA8 ?_ | refine zA5 ?_ _)); exact BK132.out) hb); have n1_ := zA2.mk (zAe (by repeat (first | (with_reducible first | exact HB.out | apply zA1 | apply zA0 | apply zA3 | refine zA4 ?_ GE132.out) | exact HB.out)) hb); clear BK132; clear HB; have BK132 := n0_; have HB := n1_; clear n0_ n1_; (try clear hb); (try clear hb2); (try clear hk); (try clear hi); have hcz12_0 : w11.cell? ⟨gb132, 0, none⟩ = some (.int .i64 a0_0) := (zA7 BK132.out 0).trans rfl; have hcz12_1 : w11.cell? ⟨gb132, 1, none⟩ = some (.slice A0_1 l0_1.length c0_1) := (zA7 BK132.out 1).trans rfl; have hfz12_0 := zA9 BK132.out 0; have hfz12_1 := zA9 BK132.out 1))
   go_loopg [17] k (fun kq v17 w' => ∃ (x17_1 : Int), v17 = .int .i64 x17_1 ∧ zA2 (zAy.l0 kq l0_1 (l0_1.length : Int) x17_1 a0_0 l0_1 = some r) ∧ zA2 (kq ≤ k) ∧ zA2 (w'.heap[gb132]? = some (.cells #[.int .i64 a0_0, (.slice A0_1 l0_1.length c0_1)] 28 (0, 0))) ∧ zA2 (Below w.heap.size w w'))
   case atStart => exact ⟨(0), (by first | rfl | (simp; done) | (simp [*]; done)), H', ⟨Nat.le_refl _⟩, ⟨by (with_reducible repeat (first | refine zA6 ?_ _ | refine zA8 ?_ | refine zA5 ?_ _)); exact BK132.out⟩, ⟨by repeat (first | (with_reducible first | exact HB.out | apply zA1 | apply zA0 | apply zA3 | refine zA4 ?_ GE132.out) | exact HB.out)⟩⟩
   case round =>
    clear H'
    try clear c2
    try clear p2
    try clear c3
    try clear c3b0
    try clear c3b1
    try clear c4
    try clear c4b0
    try clear hcz10_0
    try clear hcz10_1
    try clear hcz12_0
    try clear hcz12_1
    try clear hcz6_0
    try clear hcz6_1
    try clear hcz8_0
    try clear hcz8_1
    try clear hfz10_0
    try clear hfz10_1
    try clear hfz12_0
    try clear hfz12_1
    try clear hfz6_0
    try clear hfz6_1
    try clear hfz8_0
    try clear hfz8_1
    obtain ⟨x17_1, rfl, HA, HK1, BK132, HB⟩ := hrel
    cases gk with
    | zero => exact absurd HA.out (by simp [zAy.l0])
    | succ k1 =>
     have H := HA.out
     clear HA
     simp only [zAy.l0] at H
     by_cases c13 : x17_1 < (l0_1.length : Int)
     ·rw [if_pos c13] at H
      have c13b0 : decide (x17_1 < (l0_1.length : Int)) = true := decide_eq_true c13
      clear c13
      by_cases c14 : 0 ≤ x17_1
      rotate_left
      ·rw [if_neg c14] at H
       exact absurd H (by simp)
      rw [if_pos c14] at H
      have c14b0 : decide (0 ≤ x17_1) = true := decide_eq_true c14
      clear c14
      by_cases c15 : x17_1 < (l0_1.length : Int)
      rotate_left
      ·rw [if_neg c15] at H
       exact absurd H (by simp)
      rw [if_pos c15] at H
      have c15b0 : decide (x17_1 < (l0_1.length : Int)) = true := decide_eq_true c15
      clear c15
      by_cases c16 : ((zAu l0_1 x17_1).f0) = ((zAu l0_1 x17_1).f1)
      ·rw [if_pos c16] at H
       have c16b0 : (((zAu l0_1 x17_1).f0) == ((zAu l0_1 x17_1).f1)) = true := beq_iff_eq.mpr c16
       have c16b1 : (((zAu l0_1 x17_1).f0) != ((zAu l0_1 x17_1).f1)) = false := bne_eq_false_iff_eq.mpr c16
       clear c16
       obtain rfl := Option.some.inj H
       have p134 : 0 ≤ (x17_1 : Int) := of_decide_eq_true (by first | (with_reducible assumption) | assumption)
       have q134 : x17_1 < (l0_1.length : Int) := of_decide_eq_true (by first | (with_reducible assumption) | assumption)
       obtain ⟨ad134, e134, hx134_0, hx134_1⟩ := at_T58 HR0_1.out x17_1 p134 q134
       cases e134
       replace hx134_0 := (HB.out.cell (World.block_lt_of_cell? w _ hx134_0)).trans hx134_0
       replace hx134_1 := (HB.out.cell (World.block_lt_of_cell? w _ hx134_1)).trans hx134_1
       replace p134 := eq_true p134
       replace q134 := eq_true q134
       go_wp2_with (first | ((with_reducible refine zBl (N := 5) rfl ?_); refine zBj ?hg (N := 5) ?hd (cs := #[.int .i64 0, .int .i64 0]) (t := 58) ?hr ?_; (case hd => rfl); (case hg => rfl); (case hr => first | (go_simp; done) | (go_simp; rfl)); intro gb135 hg w17 hbox hb; have n0_ := zA2.mk (zAl (g := gb132) (o := .cells #[.int .i64 a0_0, .slice (some ad134) l0_1.length c0_1] 28 (0, 0)) (by (with_reducible repeat (first | refine zA6 ?_ _ | refine zA8 ?_ | refine zA5 ?_ _)); exact BK132.out) hb); have n1_ := zA2.mk (zAe (by repeat (first | (with_reducible first | exact HB.out | apply zA1 | apply zA0 | apply zA3 | refine zA4 ?_ GE132.out) | exact HB.out)) hb); have n2_ := zA2.mk (hbox); have n3_ := zA2.mk ((by rw [hg]; exact (zAb (by repeat (first | (with_reducible first | exact HB.out | apply zA1 | apply zA0 | apply zA3 | refine zA4 ?_ GE132.out) | exact HB.out))) : w.heap.size ≤ gb135)); have n4_ := zA2.mk ((by rw [hg]; exact (zAb (by repeat (first | (with_reducible first | exact HB.out | apply zA1 | apply zA0 | apply zA3 | refine zA4 ?_ GE132.out) | exact HB.out))) : w.heap.size ≤ gb135)); have n5_ := zA2.mk ((by rw [hg]; exact Nat.ne_of_lt (zC8 (g := gb132) (o := .cells #[.int .i64 a0_0, .slice (some ad134) l0_1.length c0_1] 28 (0, 0)) (by (with_reducible repeat (first | refine zA6 ?_ _ | refine zA8 ?_ | refine zA5 ?_ _)); exact BK132.out)) : gb132 ≠ gb135)); have n6_ := zA2.mk ((by rw [hg]; exact Nat.ne_of_gt (zC8 (g := gb132) (o := .cells #[.int .i64 a0_0, .slice (some ad134) l0_1.length c0_1] 28 (0, 0)) (by (with_reducible repeat (first | refine zA6 ?_ _ | refine zA8 ?_ | refine zA5 ?_ _)); exact BK132.out)) : gb135 ≠ gb132)); clear BK132; clear HB; have BK132 := n0_; have HB := n1_; have BK135 := n2_; have GW135 := n3_; have GE135 := n4_; have NB132_135 := n5_; have NB135_132 := n6_; clear n0_ n1_ n2_ n3_ n4_ n5_ n6_; clear hb hbox hg; have hnb18 := NB135_132.out; have hnc18 := NB132_135.out; have hcz19_0 : w17.cell? ⟨gb135, 0, none⟩ = some (.int .i64 0) := (zA7 BK135.out 0).trans rfl; have hcz19_1 : w17.cell? ⟨gb135, 1, none⟩ = some (.int .i64 0) := (zA7 BK135.out 1).trans rfl; have hfz19_0 := zA9 BK135.out 0; have hfz19_1 := zA9 BK135.out 1))
       go_ret
       exact ⟨by first | rfl | (simp [zAr, zAq] <;> rfl) | (simp [*, zAr, zAq] <;> rfl), by repeat (first | (with_reducible first | exact HB.out | apply zA1 | apply zA0 | apply zA3 | refine zA4 ?_ GE132.out | refine zA4 ?_ GE135.out) | exact HB.out)⟩
      ·rw [if_neg c16] at H
       have c16b0 : (((zAu l0_1 x17_1).f0) == ((zAu l0_1 x17_1).f1)) = false := beq_eq_false_iff_ne.mpr c16
       have c16b1 : (((zAu l0_1 x17_1).f0) != ((zAu l0_1 x17_1).f1)) = true := bne_iff_ne.mpr c16
       replace H := Option.bind_eq_some_iff.mp H
       obtain ⟨t136, A200, H⟩ := H
       replace H : (if t136 = true then (zAy.l0 k1 l0_1 (l0_1.length : Int) (wrap64 (x17_1 + 1)) a0_0 l0_1) else (some 10)) = some r := H
       have A20 := zA2.mk A200
       clear A200
       by_cases c21 : t136 = true
       ·subst c21
        have H1 : (zAy.l0 k1 l0_1 (l0_1.length : Int) (wrap64 (x17_1 + 1)) a0_0 l0_1) = some r := by rw [if_pos rfl] at H; exact H
        clear H
        have H := H1
        clear H1
        have H' := zA2.mk H
        clear H
        have p134 : 0 ≤ (x17_1 : Int) := of_decide_eq_true (by first | (with_reducible assumption) | assumption)
        have q134 : x17_1 < (l0_1.length : Int) := of_decide_eq_true (by first | (with_reducible assumption) | assumption)
        obtain ⟨ad134, e134, hx134_0, hx134_1⟩ := at_T58 HR0_1.out x17_1 p134 q134
        cases e134
        replace hx134_0 := (HB.out.cell (World.block_lt_of_cell? w _ hx134_0)).trans hx134_0
        replace hx134_1 := (HB.out.cell (World.block_lt_of_cell? w _ hx134_1)).trans hx134_1
        replace p134 := eq_true p134
        replace q134 := eq_true q134
        go_wp2_with (first | ((with_reducible refine zBl (N := 5) rfl ?_); refine zBj ?hg (N := 5) ?hd (cs := #[.int .i64 0, .int .i64 0]) (t := 58) ?hr ?_; (case hd => rfl); (case hg => rfl); (case hr => first | (go_simp; done) | (go_simp; rfl)); intro gb135 hg w22 hbox hb; have n0_ := zA2.mk (zAl (g := gb132) (o := .cells #[.int .i64 a0_0, .slice (some ad134) l0_1.length c0_1] 28 (0, 0)) (by (with_reducible repeat (first | refine zA6 ?_ _ | refine zA8 ?_ | refine zA5 ?_ _)); exact BK132.out) hb); have n1_ := zA2.mk (zAe (by repeat (first | (with_reducible first | exact HB.out | apply zA1 | apply zA0 | apply zA3 | refine zA4 ?_ GE132.out) | exact HB.out)) hb); have n2_ := zA2.mk (hbox); have n3_ := zA2.mk ((by rw [hg]; exact (zAb (by repeat (first | (with_reducible first | exact HB.out | apply zA1 | apply zA0 | apply zA3 | refine zA4 ?_ GE132.out) | exact HB.out))) : w.heap.size ≤ gb135)); have n4_ := zA2.mk ((by rw [hg]; exact (zAb (by repeat (first | (with_reducible first | exact HB.out | apply zA1 | apply zA0 | apply zA3 | refine zA4 ?_ GE132.out) | exact HB.out))) : w.heap.size ≤ gb135)); have n5_ := zA2.mk ((by rw [hg]; exact Nat.ne_of_lt (zC8 (g := gb132) (o := .cells #[.int .i64 a0_0, .slice (some ad134) l0_1.length c0_1] 28 (0, 0)) (by (with_reducible repeat (first | refine zA6 ?_ _ | refine zA8 ?_ | refine zA5 ?_ _)); exact BK132.out)) : gb132 ≠ gb135)); have n6_ := zA2.mk ((by rw [hg]; exact Nat.ne_of_gt (zC8 (g := gb132) (o := .cells #[.int .i64 a0_0, .slice (some ad134) l0_1.length c0_1] 28 (0, 0)) (by (with_reducible repeat (first | refine zA6 ?_ _ | refine zA8 ?_ | refine zA5 ?_ _)); exact BK132.out)) : gb135 ≠ gb132)); clear BK132; clear HB; have BK132 := n0_; have HB := n1_; have BK135 := n2_; have GW135 := n3_; have GE135 := n4_; have NB132_135 := n5_; have NB135_132 := n6_; clear n0_ n1_ n2_ n3_ n4_ n5_ n6_; clear hb hbox hg; have hnb23 := NB135_132.out; have hnc23 := NB132_135.out; have hcz24_0 : w22.cell? ⟨gb135, 0, none⟩ = some (.int .i64 0) := (zA7 BK135.out 0).trans rfl; have hcz24_1 : w22.cell? ⟨gb135, 1, none⟩ = some (.int .i64 0) := (zA7 BK135.out 1).trans rfl; have hfz24_0 := zA9 BK135.out 0; have hfz24_1 := zA9 BK135.out 1; have hcz25_0 : w22.cell? ⟨gb132, 0, none⟩ = some (.int .i64 a0_0) := (zA7 BK132.out 0).trans rfl; have hcz25_1 : w22.cell? ⟨gb132, 1, none⟩ = some (.slice (some ad134) l0_1.length c0_1) := (zA7 BK132.out 1).trans rfl; have hfz25_0 := zA9 BK132.out 0; have hfz25_1 := zA9 BK132.out 1) | ((with_reducible refine zAp (f := 41) rfl ?_); refine zBq (some 33) rfl rfl Tryz.func41 (by kernel_rfl) rfl #[.slice (some ad134) l0_1.length c0_1, .agg #[.int .i64 ((zAu l0_1 x17_1).f1), .int .i64 ((zAu l0_1 x17_1).f0)]] rfl (by (try simp only [List.map_toArray, List.map_cons, List.map_nil]); first | done | rfl | (simp only [List.length_drop, List.length_take]; rfl)) ?_; (with_reducible refine (zCb.calls k1 _ _ l0_1 ((zAu l0_1 x17_1).f1) ((zAu l0_1 x17_1).f0) true _ ?side1 ?side2 A20.out).mono ?_); (case side1 => exact Kd.zAk HR0_1.out (by repeat (first | (with_reducible first | exact HB.out | apply zA1 | apply zA0 | apply zA3 | refine zA4 ?_ GE132.out | refine zA4 ?_ GE135.out) | exact HB.out))); (case side2 => exact HC0_1.out); rintro e w26 ⟨rfl, hb⟩; refine ⟨_, rfl, ?_⟩; have n0_ := zA2.mk (zAl (g := gb132) (o := .cells #[.int .i64 a0_0, .slice (some ad134) l0_1.length c0_1] 28 (0, 0)) (by (with_reducible repeat (first | refine zA6 ?_ _ | refine zA8 ?_ | refine zA5 ?_ _)); refine blk_far ?_ NB132_135.out _; (with_reducible repeat (first | refine zA6 ?_ _ | refine zA8 ?_ | refine zA5 ?_ _)); refine blk_far ?_ NB132_135.out _; (with_reducible repeat (first | refine zA6 ?_ _ | refine zA8 ?_ | refine zA5 ?_ _)); exact BK132.out) hb); have n1_ := zA2.mk (zAl (g := gb135) (o := .cells #[.int .i64 ((zAu l0_1 x17_1).f0), .int .i64 ((zAu l0_1 x17_1).f1)] 58 (0, 0)) (by (with_reducible repeat (first | refine zA6 ?_ _ | refine zA8 ?_ | refine zA5 ?_ _)); refine blk_put (cs := #[.int .i64 ((zAu l0_1 x17_1).f0), .int .i64 0]) ?_ 1 _ rfl; (with_reducible repeat (first | refine zA6 ?_ _ | refine zA8 ?_ | refine zA5 ?_ _)); refine blk_put (cs := #[.int .i64 0, .int .i64 0]) ?_ 0 _ rfl; (with_reducible repeat (first | refine zA6 ?_ _ | refine zA8 ?_ | refine zA5 ?_ _)); exact BK135.out) hb); have n2_ := zA2.mk (zAe (by repeat (first | (with_reducible first | exact HB.out | apply zA1 | apply zA0 | apply zA3 | refine zA4 ?_ GE132.out | refine zA4 ?_ GE135.out) | exact HB.out)) hb); clear BK132; clear BK135; clear HB; have BK132 := n0_; have BK135 := n1_; have HB := n2_; clear n0_ n1_ n2_; (try clear hb); (try clear hb2); (try clear hk); (try clear hi)))
        go_roundg k1
        case measure => have := HK1.out; omega
        case rel => exact ⟨(wrap64 (x17_1 + 1)), (by first | rfl | (simp; done) | (simp [*]; done)), H', ⟨by have := HK1.out; omega⟩, ⟨by (with_reducible repeat (first | refine zA6 ?_ _ | refine zA8 ?_ | refine zA5 ?_ _)); exact BK132.out⟩, ⟨by repeat (first | (with_reducible first | exact HB.out | apply zA1 | apply zA0 | apply zA3 | refine zA4 ?_ GE132.out | refine zA4 ?_ GE135.out) | exact HB.out)⟩⟩
       ·replace c21 := Bool.eq_false_iff.mpr c21
        subst c21
        have H1 : (some 10) = some r := by rw [if_neg (show ¬ (false = true) by decide)] at H; exact H
        clear H
        have H := H1
        clear H1
        obtain rfl := Option.some.inj H
        have p134 : 0 ≤ (x17_1 : Int) := of_decide_eq_true (by first | (with_reducible assumption) | assumption)
        have q134 : x17_1 < (l0_1.length : Int) := of_decide_eq_true (by first | (with_reducible assumption) | assumption)
        obtain ⟨ad134, e134, hx134_0, hx134_1⟩ := at_T58 HR0_1.out x17_1 p134 q134
        cases e134
        replace hx134_0 := (HB.out.cell (World.block_lt_of_cell? w _ hx134_0)).trans hx134_0
        replace hx134_1 := (HB.out.cell (World.block_lt_of_cell? w _ hx134_1)).trans hx134_1
        replace p134 := eq_true p134
        replace q134 := eq_true q134
        go_wp2_with (first | ((with_reducible refine zBl (N := 5) rfl ?_); refine zBj ?hg (N := 5) ?hd (cs := #[.int .i64 0, .int .i64 0]) (t := 58) ?hr ?_; (case hd => rfl); (case hg => rfl); (case hr => first | (go_simp; done) | (go_simp; rfl)); intro gb135 hg w27 hbox hb; have n0_ := zA2.mk (zAl (g := gb132) (o := .cells #[.int .i64 a0_0, .slice (some ad134) l0_1.length c0_1] 28 (0, 0)) (by (with_reducible repeat (first | refine zA6 ?_ _ | refine zA8 ?_ | refine zA5 ?_ _)); exact BK132.out) hb); have n1_ := zA2.mk (zAe (by repeat (first | (with_reducible first | exact HB.out | apply zA1 | apply zA0 | apply zA3 | refine zA4 ?_ GE132.out) | exact HB.out)) hb); have n2_ := zA2.mk (hbox); have n3_ := zA2.mk ((by rw [hg]; exact (zAb (by repeat (first | (with_reducible first | exact HB.out | apply zA1 | apply zA0 | apply zA3 | refine zA4 ?_ GE132.out) | exact HB.out))) : w.heap.size ≤ gb135)); have n4_ := zA2.mk ((by rw [hg]; exact (zAb (by repeat (first | (with_reducible first | exact HB.out | apply zA1 | apply zA0 | apply zA3 | refine zA4 ?_ GE132.out) | exact HB.out))) : w.heap.size ≤ gb135)); have n5_ := zA2.mk ((by rw [hg]; exact Nat.ne_of_lt (zC8 (g := gb132) (o := .cells #[.int .i64 a0_0, .slice (some ad134) l0_1.length c0_1] 28 (0, 0)) (by (with_reducible repeat (first | refine zA6 ?_ _ | refine zA8 ?_ | refine zA5 ?_ _)); exact BK132.out)) : gb132 ≠ gb135)); have n6_ := zA2.mk ((by rw [hg]; exact Nat.ne_of_gt (zC8 (g := gb132) (o := .cells #[.int .i64 a0_0, .slice (some ad134) l0_1.length c0_1] 28 (0, 0)) (by (with_reducible repeat (first | refine zA6 ?_ _ | refine zA8 ?_ | refine zA5 ?_ _)); exact BK132.out)) : gb135 ≠ gb132)); clear BK132; clear HB; have BK132 := n0_; have HB := n1_; have BK135 := n2_; have GW135 := n3_; have GE135 := n4_; have NB132_135 := n5_; have NB135_132 := n6_; clear n0_ n1_ n2_ n3_ n4_ n5_ n6_; clear hb hbox hg; have hnb28 := NB135_132.out; have hnc28 := NB132_135.out; have hcz29_0 : w27.cell? ⟨gb135, 0, none⟩ = some (.int .i64 0) := (zA7 BK135.out 0).trans rfl; have hcz29_1 : w27.cell? ⟨gb135, 1, none⟩ = some (.int .i64 0) := (zA7 BK135.out 1).trans rfl; have hfz29_0 := zA9 BK135.out 0; have hfz29_1 := zA9 BK135.out 1; have hcz30_0 : w27.cell? ⟨gb132, 0, none⟩ = some (.int .i64 a0_0) := (zA7 BK132.out 0).trans rfl; have hcz30_1 : w27.cell? ⟨gb132, 1, none⟩ = some (.slice (some ad134) l0_1.length c0_1) := (zA7 BK132.out 1).trans rfl; have hfz30_0 := zA9 BK132.out 0; have hfz30_1 := zA9 BK132.out 1) | ((with_reducible refine zAp (f := 41) rfl ?_); refine zBq (some 33) rfl rfl Tryz.func41 (by kernel_rfl) rfl #[.slice (some ad134) l0_1.length c0_1, .agg #[.int .i64 ((zAu l0_1 x17_1).f1), .int .i64 ((zAu l0_1 x17_1).f0)]] rfl (by (try simp only [List.map_toArray, List.map_cons, List.map_nil]); first | done | rfl | (simp only [List.length_drop, List.length_take]; rfl)) ?_; (with_reducible refine (zCb.calls k1 _ _ l0_1 ((zAu l0_1 x17_1).f1) ((zAu l0_1 x17_1).f0) false _ ?side1 ?side2 A20.out).mono ?_); (case side1 => exact Kd.zAk HR0_1.out (by repeat (first | (with_reducible first | exact HB.out | apply zA1 | apply zA0 | apply zA3 | refine zA4 ?_ GE132.out | refine zA4 ?_ GE135.out) | exact HB.out))); (case side2 => exact HC0_1.out); rintro e w31 ⟨rfl, hb⟩; refine ⟨_, rfl, ?_⟩; have n0_ := zA2.mk (zAl (g := gb132) (o := .cells #[.int .i64 a0_0, .slice (some ad134) l0_1.length c0_1] 28 (0, 0)) (by (with_reducible repeat (first | refine zA6 ?_ _ | refine zA8 ?_ | refine zA5 ?_ _)); refine blk_far ?_ NB132_135.out _; (with_reducible repeat (first | refine zA6 ?_ _ | refine zA8 ?_ | refine zA5 ?_ _)); refine blk_far ?_ NB132_135.out _; (with_reducible repeat (first | refine zA6 ?_ _ | refine zA8 ?_ | refine zA5 ?_ _)); exact BK132.out) hb); have n1_ := zA2.mk (zAl (g := gb135) (o := .cells #[.int .i64 ((zAu l0_1 x17_1).f0), .int .i64 ((zAu l0_1 x17_1).f1)] 58 (0, 0)) (by (with_reducible repeat (first | refine zA6 ?_ _ | refine zA8 ?_ | refine zA5 ?_ _)); refine blk_put (cs := #[.int .i64 ((zAu l0_1 x17_1).f0), .int .i64 0]) ?_ 1 _ rfl; (with_reducible repeat (first | refine zA6 ?_ _ | refine zA8 ?_ | refine zA5 ?_ _)); refine blk_put (cs := #[.int .i64 0, .int .i64 0]) ?_ 0 _ rfl; (with_reducible repeat (first | refine zA6 ?_ _ | refine zA8 ?_ | refine zA5 ?_ _)); exact BK135.out) hb); have n2_ := zA2.mk (zAe (by repeat (first | (with_reducible first | exact HB.out | apply zA1 | apply zA0 | apply zA3 | refine zA4 ?_ GE132.out | refine zA4 ?_ GE135.out) | exact HB.out)) hb); clear BK132; clear BK135; clear HB; have BK132 := n0_; have BK135 := n1_; have HB := n2_; clear n0_ n1_ n2_; (try clear hb); (try clear hb2); (try clear hk); (try clear hi)))
        go_ret
        exact ⟨by first | rfl | (simp [zAr, zAq] <;> rfl) | (simp [*, zAr, zAq] <;> rfl), by repeat (first | (with_reducible first | exact HB.out | apply zA1 | apply zA0 | apply zA3 | refine zA4 ?_ GE132.out | refine zA4 ?_ GE135.out) | exact HB.out)⟩
     ·rw [if_neg c13] at H
      have c13b0 : decide (x17_1 < (l0_1.length : Int)) = false := decide_eq_false c13
      clear c13
      obtain rfl := Option.some.inj H
      go_wp2
      go_ret
      exact ⟨by first | rfl | (simp [zAr, zAq] <;> rfl) | (simp [*, zAr, zAq] <;> rfl), by repeat (first | (with_reducible first | exact HB.out | apply zA1 | apply zA0 | apply zA3 | refine zA4 ?_ GE132.out) | exact HB.out)⟩
 ·rw [if_neg c3] at H
  have c3b0 : (t133 == 0) = false := beq_eq_false_iff_ne.mpr c3
  have c3b1 : (t133 != 0) = true := bne_iff_ne.mpr c3
  obtain rfl := Option.some.inj H
  go_enter Tryz.func21, Tryz.ntmps21
  go_wp2_with (first | ((with_reducible refine zBl (N := 1) rfl ?_); refine zBj ?hg (N := 1) ?hd (cs := #[.int .i64 a0_0, .slice A0_1 l0_1.length c0_1]) (t := 28) ?hr ?_; (case hd => rfl); (case hg => rfl); (case hr => first | (go_simp; done) | (go_simp; rfl)); intro gb132 hg w32 hbox hb; have n0_ := zA2.mk (zAe (by repeat (first | (with_reducible first | exact HB.out | apply zA1 | apply zA0 | apply zA3) | exact HB.out)) hb); have n1_ := zA2.mk (hbox); have n2_ := zA2.mk ((by rw [hg]; exact (zAb (by repeat (first | (with_reducible first | exact HB.out | apply zA1 | apply zA0 | apply zA3) | exact HB.out))) : w.heap.size ≤ gb132)); have n3_ := zA2.mk ((by rw [hg]; exact (zAb (by repeat (first | (with_reducible first | exact HB.out | apply zA1 | apply zA0 | apply zA3) | exact HB.out))) : w.heap.size ≤ gb132)); clear HB; have HB := n0_; have BK132 := n1_; have GW132 := n2_; have GE132 := n3_; clear n0_ n1_ n2_ n3_; clear hb hbox hg; have hcz33_0 : w32.cell? ⟨gb132, 0, none⟩ = some (.int .i64 a0_0) := (zA7 BK132.out 0).trans rfl; have hcz33_1 : w32.cell? ⟨gb132, 1, none⟩ = some (.slice A0_1 l0_1.length c0_1) := (zA7 BK132.out 1).trans rfl; have hfz33_0 := zA9 BK132.out 0; have hfz33_1 := zA9 BK132.out 1) | ((with_reducible refine zAp (f := 39) rfl ?_); refine zBq (some 7) rfl rfl Tryz.func39 (by kernel_rfl) rfl #[.agg #[.int .i64 a0_0, .slice A0_1 l0_1.length c0_1]] rfl (by (try simp only [List.map_toArray, List.map_cons, List.map_nil]); first | done | rfl | (simp only [List.length_drop, List.length_take]; rfl)) ?_; (with_reducible refine (zAi.calls k a0_0 _ _ l0_1 t133 _ ?side1 ?side2 A2.out).mono ?_); (case side1 => repeat (first | exact (Kd.zAk HR0_1.out HB.out) | (with_reducible refine Kd.zAj ?_ _) | (with_reducible refine Kd.zAs ?_ _) | (with_reducible refine Kd.zB2 ?_))); (case side2 => exact HC0_1.out); rintro e w34 ⟨rfl, hb⟩; refine ⟨_, rfl, ?_⟩; have n0_ := zA2.mk (zAl (g := gb132) (o := .cells #[.int .i64 a0_0, .slice A0_1 l0_1.length c0_1] 28 (0, 0)) (by (with_reducible repeat (first | refine zA6 ?_ _ | refine zA8 ?_ | refine zA5 ?_ _)); exact BK132.out) hb); have n1_ := zA2.mk (zAe (by repeat (first | (with_reducible first | exact HB.out | apply zA1 | apply zA0 | apply zA3 | refine zA4 ?_ GE132.out) | exact HB.out)) hb); clear BK132; clear HB; have BK132 := n0_; have HB := n1_; clear n0_ n1_; (try clear hb); (try clear hb2); (try clear hk); (try clear hi)))
  go_ret
  exact ⟨by first | rfl | (simp [zAr, zAq] <;> rfl) | (simp [*, zAr, zAq] <;> rfl), by repeat (first | (with_reducible first | exact HB.out | apply zA1 | apply zA0 | apply zA3 | refine zA4 ?_ GE132.out) | exact HB.out)⟩
end
end Go.Proofs.YtbghfbhlbfcloaaGreatDoor.PL
namespace Go.Proofs.YtbghfbhlbfcloaaGreatDoor.PL
section
open Go.RowKit Go.Proofs.YtbghfbhlbfcloaaGreatDoorW.PrintWords Go.Proofs.YtbghfbhlbfcloaaGreatDoorW.PrintLast Go.Proofs.YtbghfbhlbfcloaaGreatDoorW.PrintMore
attribute [local go_sem] zBu zBs zC3 zC2 zBn zBm zBt zBr   -- for this text's walks alone
set_option linter.unusedVariables false
set_option linter.unusedSimpArgs false
def zB3.f (k : Nat) (a0_0 : Int) (l0_1 : List (S58)) (l1 : List Int) : Option (List Int × Int × Int) := (zAy.f k a0_0 l0_1).bind fun t149 => (if t149 = 0 then (if (l1.length : Int) = 0 then (some (([] : List Int), 0, 7)) else ((zAn.f k l1 a0_0).bind fun t150 => (if t150 = 0 then ((zAw.f k a0_0 l0_1).bind fun t151 => ((zAt.f k l1).bind fun t154 => (some (t151, t154, 0)))) else (some (([] : List Int), 0, t150))))) else (some (([] : List Int), 0, t149)))
theorem zB3.mono : ∀ a0 a1 a2 k, LeO (zB3.f k a0 a1 a2) (zB3.f (k + 1) a0 a1 a2) := by
 intro a0 a1 a2 k
 unfold zB3.f
 repeat' first
   | (with_reducible exact zAy.mono _ _ _)
   | (with_reducible exact zAw.mono _ _ _)
   | (with_reducible exact zAt.mono _ _)
   | (with_reducible exact zAn.mono _ _ _)
   | (with_reducible exact LeO.refl _)
   | (with_reducible exact LeO.none _)
   | (with_reducible refine LeO.ite ?_ ?_)
   | (with_reducible refine LeO.bind ?_ (fun _ => ?_))
set_option maxHeartbeats 8000000 in
set_option maxRecDepth 100000 in
theorem zB3.calls (k : Nat) (a0_0 : Int) (A0_1 : Option Addr) (c0_1 : Nat) (l0_1 : List (S58)) (A1 : Option Addr) (c1 : Nat) (l1 : List Int) (r1 : List Int) (r2 : Int) (r3 : Int) (w : World) (hr0_1 : Kd.C k58 w A0_1 l0_1.length l0_1) (hc0_1 : l0_1.length ≤ c0_1) (hr1 : Kd.C (Kd.int .i64) w A1 l1.length l1) (hc1 : l1.length ≤ c1) (h : zB3.f k a0_0 l0_1 l1 = some (r1, r2, r3)) :
  Calls Tryz.prog 27 #[.agg #[.int .i64 a0_0, .slice A0_1 l0_1.length c0_1], .slice A1 l1.length c1] w fun e w' => ∃ v0_ : Value, e = .returned (.tuple #[v0_, .int .u64 r2, .int .i64 r3]) ∧ Kd.R (Kd.int .u64) 65 w' w.heap.size (fun _ => True) v0_ r1 ∧ Below w.heap.size w w' := by
 have hu28 := Tryz.underlying28
 have HR0_1 := zA2.mk hr0_1
 have HC0_1 := zA2.mk hc0_1
 clear hr0_1 hc0_1
 have HR1 := zA2.mk hr1
 have HC1 := zA2.mk hc1
 clear hr1 hc1
 have HB := zA2.mk (Below.refl w.heap.size w)
 have H : ((zAy.f k a0_0 l0_1).bind fun t149 => (if t149 = 0 then (if (l1.length : Int) = 0 then (some (([] : List Int), 0, 7)) else ((zAn.f k l1 a0_0).bind fun t150 => (if t150 = 0 then ((zAw.f k a0_0 l0_1).bind fun t151 => ((zAt.f k l1).bind fun t154 => (some (t151, t154, 0)))) else (some (([] : List Int), 0, t150))))) else (some (([] : List Int), 0, t149)))) = some (r1, r2, r3) := h
 clear h
 replace H := Option.bind_eq_some_iff.mp H
 obtain ⟨t149, A30, H⟩ := H
 replace H : (if t149 = 0 then (if (l1.length : Int) = 0 then (some (([] : List Int), 0, 7)) else ((zAn.f k l1 a0_0).bind fun t150 => (if t150 = 0 then ((zAw.f k a0_0 l0_1).bind fun t151 => ((zAt.f k l1).bind fun t154 => (some (t151, t154, 0)))) else (some (([] : List Int), 0, t150))))) else (some (([] : List Int), 0, t149))) = some (r1, r2, r3) := H
 have A3 := zA2.mk A30
 clear A30
 by_cases c4 : t149 = 0
 ·rw [if_pos c4] at H
  have c4b0 : (t149 == 0) = true := beq_iff_eq.mpr c4
  have c4b1 : (t149 != 0) = false := bne_eq_false_iff_eq.mpr c4
  clear c4
  by_cases c5 : (l1.length : Int) = 0
  ·rw [if_pos c5] at H
   have c5b0 : ((l1.length : Int) == 0) = true := beq_iff_eq.mpr c5
   have c5b1 : ((l1.length : Int) != 0) = false := bne_eq_false_iff_eq.mpr c5
   clear c5
   simp only [Option.some.injEq, Prod.mk.injEq] at H
   obtain ⟨rfl, rfl, rfl⟩ := H
   go_enter Tryz.func27, Tryz.ntmps27
   go_wp2_with (first | ((with_reducible refine zBl (N := 2) rfl ?_); refine zBj ?hg (N := 2) ?hd (cs := #[.int .i64 a0_0, .slice A0_1 l0_1.length c0_1]) (t := 28) ?hr ?_; (case hd => rfl); (case hg => rfl); (case hr => first | (go_simp; done) | (go_simp; rfl)); intro gb148 hg w6 hbox hb; have n0_ := zA2.mk (zAe (by repeat (first | (with_reducible first | exact HB.out | apply zA1 | apply zA0 | apply zA3) | exact HB.out)) hb); have n1_ := zA2.mk (hbox); have n2_ := zA2.mk ((by rw [hg]; exact (zAb (by repeat (first | (with_reducible first | exact HB.out | apply zA1 | apply zA0 | apply zA3) | exact HB.out))) : w.heap.size ≤ gb148)); have n3_ := zA2.mk ((by rw [hg]; exact (zAb (by repeat (first | (with_reducible first | exact HB.out | apply zA1 | apply zA0 | apply zA3) | exact HB.out))) : w.heap.size ≤ gb148)); clear HB; have HB := n0_; have BK148 := n1_; have GW148 := n2_; have GE148 := n3_; clear n0_ n1_ n2_ n3_; clear hb hbox hg; have hcz7_0 : w6.cell? ⟨gb148, 0, none⟩ = some (.int .i64 a0_0) := (zA7 BK148.out 0).trans rfl; have hcz7_1 : w6.cell? ⟨gb148, 1, none⟩ = some (.slice A0_1 l0_1.length c0_1) := (zA7 BK148.out 1).trans rfl; have hfz7_0 := zA9 BK148.out 0; have hfz7_1 := zA9 BK148.out 1) | ((with_reducible refine zAp (f := 21) rfl ?_); refine zBq (some 10) rfl rfl Tryz.func21 (by kernel_rfl) rfl #[.agg #[.int .i64 a0_0, .slice A0_1 l0_1.length c0_1]] rfl (by (try simp only [List.map_toArray, List.map_cons, List.map_nil]); first | done | rfl | (simp only [List.length_drop, List.length_take]; rfl)) ?_; (with_reducible refine (zAy.calls k a0_0 _ _ l0_1 t149 _ ?side1 ?side2 A3.out).mono ?_); (case side1 => repeat (first | exact (Kd.zAk HR0_1.out HB.out) | (with_reducible refine Kd.zAj ?_ _) | (with_reducible refine Kd.zAs ?_ _) | (with_reducible refine Kd.zB2 ?_))); (case side2 => exact HC0_1.out); rintro e w8 ⟨rfl, hb⟩; refine ⟨_, rfl, ?_⟩; have n0_ := zA2.mk (zAl (g := gb148) (o := .cells #[.int .i64 a0_0, .slice A0_1 l0_1.length c0_1] 28 (0, 0)) (by (with_reducible repeat (first | refine zA6 ?_ _ | refine zA8 ?_ | refine zA5 ?_ _)); exact BK148.out) hb); have n1_ := zA2.mk (zAe (by repeat (first | (with_reducible first | exact HB.out | apply zA1 | apply zA0 | apply zA3 | refine zA4 ?_ GE148.out) | exact HB.out)) hb); clear BK148; clear HB; have BK148 := n0_; have HB := n1_; clear n0_ n1_; (try clear hb); (try clear hb2); (try clear hk); (try clear hi)))
   go_ret3
   exact ⟨_, by first | rfl | (simp [zAr, zAq] <;> rfl) | (simp [*, zAr, zAq] <;> rfl), by first | exact Kd.R_nil _ _ _ _ _ | exact Kd.N_nil _ _ _ _ _ | exact Kd.V_nil _ _ _ _ _ | exact Kd.Q_nil _ _ _ _ _ | exact Kd.S_nil _ _ _ _ _, by repeat (first | (with_reducible first | exact HB.out | apply zA1 | apply zA0 | apply zA3 | refine zA4 ?_ GE148.out) | exact HB.out)⟩
  ·rw [if_neg c5] at H
   have c5b0 : ((l1.length : Int) == 0) = false := beq_eq_false_iff_ne.mpr c5
   have c5b1 : ((l1.length : Int) != 0) = true := bne_iff_ne.mpr c5
   have c5b2 : ¬ (l1 = []) := fun h_ => c5 (by rw [h_]; rfl)
   replace H := Option.bind_eq_some_iff.mp H
   obtain ⟨t150, A90, H⟩ := H
   replace H : (if t150 = 0 then ((zAw.f k a0_0 l0_1).bind fun t151 => ((zAt.f k l1).bind fun t154 => (some (t151, t154, 0)))) else (some (([] : List Int), 0, t150))) = some (r1, r2, r3) := H
   have A9 := zA2.mk A90
   clear A90
   by_cases c10 : t150 = 0
   ·rw [if_pos c10] at H
    have c10b0 : (t150 == 0) = true := beq_iff_eq.mpr c10
    have c10b1 : (t150 != 0) = false := bne_eq_false_iff_eq.mpr c10
    clear c10
    replace H := Option.bind_eq_some_iff.mp H
    obtain ⟨t151, A110, H⟩ := H
    replace H : ((zAt.f k l1).bind fun t154 => (some (t151, t154, 0))) = some (r1, r2, r3) := H
    have A11 := zA2.mk A110
    clear A110
    replace H := Option.bind_eq_some_iff.mp H
    obtain ⟨t154, A120, H⟩ := H
    replace H : (some (t151, t154, 0)) = some (r1, r2, r3) := H
    have A12 := zA2.mk A120
    clear A120
    simp only [Option.some.injEq, Prod.mk.injEq] at H
    obtain ⟨rfl, rfl, rfl⟩ := H
    go_enter Tryz.func27, Tryz.ntmps27
    go_wp2_with (first | ((with_reducible refine zBl (N := 2) rfl ?_); refine zBj ?hg (N := 2) ?hd (cs := #[.int .i64 a0_0, .slice A0_1 l0_1.length c0_1]) (t := 28) ?hr ?_; (case hd => rfl); (case hg => rfl); (case hr => first | (go_simp; done) | (go_simp; rfl)); intro gb148 hg w13 hbox hb; have n0_ := zA2.mk (zAe (by repeat (first | (with_reducible first | exact HB.out | apply zA1 | apply zA0 | apply zA3) | exact HB.out)) hb); have n1_ := zA2.mk (hbox); have n2_ := zA2.mk ((by rw [hg]; exact (zAb (by repeat (first | (with_reducible first | exact HB.out | apply zA1 | apply zA0 | apply zA3) | exact HB.out))) : w.heap.size ≤ gb148)); have n3_ := zA2.mk ((by rw [hg]; exact (zAb (by repeat (first | (with_reducible first | exact HB.out | apply zA1 | apply zA0 | apply zA3) | exact HB.out))) : w.heap.size ≤ gb148)); clear HB; have HB := n0_; have BK148 := n1_; have GW148 := n2_; have GE148 := n3_; clear n0_ n1_ n2_ n3_; clear hb hbox hg; have hcz14_0 : w13.cell? ⟨gb148, 0, none⟩ = some (.int .i64 a0_0) := (zA7 BK148.out 0).trans rfl; have hcz14_1 : w13.cell? ⟨gb148, 1, none⟩ = some (.slice A0_1 l0_1.length c0_1) := (zA7 BK148.out 1).trans rfl; have hfz14_0 := zA9 BK148.out 0; have hfz14_1 := zA9 BK148.out 1) | ((with_reducible refine zAp (f := 21) rfl ?_); refine zBq (some 10) rfl rfl Tryz.func21 (by kernel_rfl) rfl #[.agg #[.int .i64 a0_0, .slice A0_1 l0_1.length c0_1]] rfl (by (try simp only [List.map_toArray, List.map_cons, List.map_nil]); first | done | rfl | (simp only [List.length_drop, List.length_take]; rfl)) ?_; (with_reducible refine (zAy.calls k a0_0 _ _ l0_1 t149 _ ?side1 ?side2 A3.out).mono ?_); (case side1 => repeat (first | exact (Kd.zAk HR0_1.out HB.out) | (with_reducible refine Kd.zAj ?_ _) | (with_reducible refine Kd.zAs ?_ _) | (with_reducible refine Kd.zB2 ?_))); (case side2 => exact HC0_1.out); rintro e w15 ⟨rfl, hb⟩; refine ⟨_, rfl, ?_⟩; have n0_ := zA2.mk (zAl (g := gb148) (o := .cells #[.int .i64 a0_0, .slice A0_1 l0_1.length c0_1] 28 (0, 0)) (by (with_reducible repeat (first | refine zA6 ?_ _ | refine zA8 ?_ | refine zA5 ?_ _)); exact BK148.out) hb); have n1_ := zA2.mk (zAe (by repeat (first | (with_reducible first | exact HB.out | apply zA1 | apply zA0 | apply zA3 | refine zA4 ?_ GE148.out) | exact HB.out)) hb); clear BK148; clear HB; have BK148 := n0_; have HB := n1_; clear n0_ n1_; (try clear hb); (try clear hb2); (try clear hk); (try clear hi); have hcz16_0 : w15.cell? ⟨gb148, 0, none⟩ = some (.int .i64 a0_0) := (zA7 BK148.out 0).trans rfl; have hcz16_1 : w15.cell? ⟨gb148, 1, none⟩ = some (.slice A0_1 l0_1.length c0_1) := (zA7 BK148.out 1).trans rfl; have hfz16_0 := zA9 BK148.out 0; have hfz16_1 := zA9 BK148.out 1) | ((with_reducible refine zAp (f := 49) rfl ?_); refine zBq (some 20) rfl rfl Tryz.func49 (by kernel_rfl) rfl #[.slice A1 l1.length c1, .int .i64 a0_0] rfl (by (try simp only [List.map_toArray, List.map_cons, List.map_nil]); first | done | rfl | (simp only [List.length_drop, List.length_take]; rfl)) ?_; (with_reducible refine (zAn.calls k _ _ l1 a0_0 t150 _ ?side1 ?side2 A9.out).mono ?_); (case side1 => repeat (first | exact (Kd.zAk HR1.out HB.out) | (with_reducible refine Kd.zAj ?_ _) | (with_reducible refine Kd.zAs ?_ _) | (with_reducible refine Kd.zB2 ?_))); (case side2 => exact HC1.out); rintro e w' ⟨rfl, ⟨nd, rfl⟩⟩; refine ⟨_, rfl, ?_⟩) | ((with_reducible refine zAp (f := 50) rfl ?_); refine zBq (some 25) rfl rfl Tryz.func50 (by kernel_rfl) rfl #[.agg #[.int .i64 a0_0, .slice A0_1 l0_1.length c0_1]] rfl (by (try simp only [List.map_toArray, List.map_cons, List.map_nil]); first | done | rfl | (simp only [List.length_drop, List.length_take]; rfl)) ?_; (with_reducible refine (zAw.calls k a0_0 _ _ l0_1 t151 _ ?side1 ?side2 A11.out).mono ?_); (case side1 => repeat (first | exact (Kd.zAk HR0_1.out (by repeat (first | (with_reducible first | exact HB.out | apply zA1 | apply zA0 | apply zA3 | refine zA4 ?_ GE148.out) | exact HB.out))) | (with_reducible refine Kd.zAj ?_ _) | (with_reducible refine Kd.zAs ?_ _) | (with_reducible refine Kd.zB2 ?_))); (case side2 => exact HC0_1.out); rintro e w17 ⟨v152, rfl, ho0, hb⟩; refine ⟨_, rfl, ?_⟩; have n0_ := zA2.mk (Kd.R_lower ho0 (zAb (by repeat (first | (with_reducible first | exact HB.out | apply zA1 | apply zA0 | apply zA3 | refine zA4 ?_ GE148.out) | exact HB.out)))); have n1_ := zA2.mk (zAl (g := gb148) (o := .cells #[.int .i64 a0_0, .slice A0_1 l0_1.length c0_1] 28 (0, 0)) (by (with_reducible repeat (first | refine zA6 ?_ _ | refine zA8 ?_ | refine zA5 ?_ _)); exact BK148.out) hb); have n2_ := zA2.mk (zAe (by repeat (first | (with_reducible first | exact HB.out | apply zA1 | apply zA0 | apply zA3 | refine zA4 ?_ GE148.out) | exact HB.out)) hb); clear BK148; clear HB; have HO153 := n0_; have BK148 := n1_; have HB := n2_; clear n0_ n1_ n2_; (try clear hb); (try clear hb2); (try clear hk); (try clear hi); (try clear ho0)) | ((with_reducible refine zAp (f := 51) rfl ?_); refine zBq (some 27) rfl rfl Tryz.func51 (by kernel_rfl) rfl #[.slice A1 l1.length c1] rfl (by (try simp only [List.map_toArray, List.map_cons, List.map_nil]); first | done | rfl | (simp only [List.length_drop, List.length_take]; rfl)) ?_; (with_reducible refine (zAt.calls k _ _ l1 t154 _ ?side1 ?side2 A12.out).mono ?_); (case side1 => repeat (first | exact (Kd.zAk HR1.out HB.out) | (with_reducible refine Kd.zAj ?_ _) | (with_reducible refine Kd.zAs ?_ _) | (with_reducible refine Kd.zB2 ?_))); (case side2 => exact HC1.out); rintro e w' ⟨rfl, ⟨nd, rfl⟩⟩; refine ⟨_, rfl, ?_⟩))
    go_ret3
    exact ⟨_, by first | rfl | (simp [zAr, zAq] <;> rfl) | (simp [*, zAr, zAq] <;> rfl), by (with_reducible repeat (first | apply Kd.zB6 | apply Kd.zB5 | apply Kd.zBf)); exact HO153.out, by repeat (first | (with_reducible first | exact HB.out | apply zA1 | apply zA0 | apply zA3 | refine zA4 ?_ GE148.out) | exact HB.out)⟩
   ·rw [if_neg c10] at H
    have c10b0 : (t150 == 0) = false := beq_eq_false_iff_ne.mpr c10
    have c10b1 : (t150 != 0) = true := bne_iff_ne.mpr c10
    simp only [Option.some.injEq, Prod.mk.injEq] at H
    obtain ⟨rfl, rfl, rfl⟩ := H
    go_enter Tryz.func27, Tryz.ntmps27
    go_wp2_with (first | ((with_reducible refine zBl (N := 2) rfl ?_); refine zBj ?hg (N := 2) ?hd (cs := #[.int .i64 a0_0, .slice A0_1 l0_1.length c0_1]) (t := 28) ?hr ?_; (case hd => rfl); (case hg => rfl); (case hr => first | (go_simp; done) | (go_simp; rfl)); intro gb148 hg w18 hbox hb; have n0_ := zA2.mk (zAe (by repeat (first | (with_reducible first | exact HB.out | apply zA1 | apply zA0 | apply zA3) | exact HB.out)) hb); have n1_ := zA2.mk (hbox); have n2_ := zA2.mk ((by rw [hg]; exact (zAb (by repeat (first | (with_reducible first | exact HB.out | apply zA1 | apply zA0 | apply zA3) | exact HB.out))) : w.heap.size ≤ gb148)); have n3_ := zA2.mk ((by rw [hg]; exact (zAb (by repeat (first | (with_reducible first | exact HB.out | apply zA1 | apply zA0 | apply zA3) | exact HB.out))) : w.heap.size ≤ gb148)); clear HB; have HB := n0_; have BK148 := n1_; have GW148 := n2_; have GE148 := n3_; clear n0_ n1_ n2_ n3_; clear hb hbox hg; have hcz19_0 : w18.cell? ⟨gb148, 0, none⟩ = some (.int .i64 a0_0) := (zA7 BK148.out 0).trans rfl; have hcz19_1 : w18.cell? ⟨gb148, 1, none⟩ = some (.slice A0_1 l0_1.length c0_1) := (zA7 BK148.out 1).trans rfl; have hfz19_0 := zA9 BK148.out 0; have hfz19_1 := zA9 BK148.out 1) | ((with_reducible refine zAp (f := 21) rfl ?_); refine zBq (some 10) rfl rfl Tryz.func21 (by kernel_rfl) rfl #[.agg #[.int .i64 a0_0, .slice A0_1 l0_1.length c0_1]] rfl (by (try simp only [List.map_toArray, List.map_cons, List.map_nil]); first | done | rfl | (simp only [List.length_drop, List.length_take]; rfl)) ?_; (with_reducible refine (zAy.calls k a0_0 _ _ l0_1 t149 _ ?side1 ?side2 A3.out).mono ?_); (case side1 => repeat (first | exact (Kd.zAk HR0_1.out HB.out) | (with_reducible refine Kd.zAj ?_ _) | (with_reducible refine Kd.zAs ?_ _) | (with_reducible refine Kd.zB2 ?_))); (case side2 => exact HC0_1.out); rintro e w20 ⟨rfl, hb⟩; refine ⟨_, rfl, ?_⟩; have n0_ := zA2.mk (zAl (g := gb148) (o := .cells #[.int .i64 a0_0, .slice A0_1 l0_1.length c0_1] 28 (0, 0)) (by (with_reducible repeat (first | refine zA6 ?_ _ | refine zA8 ?_ | refine zA5 ?_ _)); exact BK148.out) hb); have n1_ := zA2.mk (zAe (by repeat (first | (with_reducible first | exact HB.out | apply zA1 | apply zA0 | apply zA3 | refine zA4 ?_ GE148.out) | exact HB.out)) hb); clear BK148; clear HB; have BK148 := n0_; have HB := n1_; clear n0_ n1_; (try clear hb); (try clear hb2); (try clear hk); (try clear hi); have hcz21_0 : w20.cell? ⟨gb148, 0, none⟩ = some (.int .i64 a0_0) := (zA7 BK148.out 0).trans rfl; have hcz21_1 : w20.cell? ⟨gb148, 1, none⟩ = some (.slice A0_1 l0_1.length c0_1) := (zA7 BK148.out 1).trans rfl; have hfz21_0 := zA9 BK148.out 0; have hfz21_1 := zA9 BK148.out 1) | ((with_reducible refine zAp (f := 49) rfl ?_); refine zBq (some 20) rfl rfl Tryz.func49 (by kernel_rfl) rfl #[.slice A1 l1.length c1, .int .i64 a0_0] rfl (by (try simp only [List.map_toArray, List.map_cons, List.map_nil]); first | done | rfl | (simp only [List.length_drop, List.length_take]; rfl)) ?_; (with_reducible refine (zAn.calls k _ _ l1 a0_0 t150 _ ?side1 ?side2 A9.out).mono ?_); (case side1 => repeat (first | exact (Kd.zAk HR1.out HB.out) | (with_reducible refine Kd.zAj ?_ _) | (with_reducible refine Kd.zAs ?_ _) | (with_reducible refine Kd.zB2 ?_))); (case side2 => exact HC1.out); rintro e w' ⟨rfl, ⟨nd, rfl⟩⟩; refine ⟨_, rfl, ?_⟩))
    go_ret3
    exact ⟨_, by first | rfl | (simp [zAr, zAq] <;> rfl) | (simp [*, zAr, zAq] <;> rfl), by first | exact Kd.R_nil _ _ _ _ _ | exact Kd.N_nil _ _ _ _ _ | exact Kd.V_nil _ _ _ _ _ | exact Kd.Q_nil _ _ _ _ _ | exact Kd.S_nil _ _ _ _ _, by repeat (first | (with_reducible first | exact HB.out | apply zA1 | apply zA0 | apply zA3 | refine zA4 ?_ GE148.out) | exact HB.out)⟩
 ·rw [if_neg c4] at H
  have c4b0 : (t149 == 0) = false := beq_eq_false_iff_ne.mpr c4
  have c4b1 : (t149 != 0) = true := bne_iff_ne.mpr c4
  simp only [Option.some.injEq, Prod.mk.injEq] at H
  obtain ⟨rfl, rfl, rfl⟩ := H
  go_enter Tryz.func27, Tryz.ntmps27
  go_wp2_with (first | ((with_reducible refine zBl (N := 2) rfl ?_); refine zBj ?hg (N := 2) ?hd (cs := #[.int .i64 a0_0, .slice A0_1 l0_1.length c0_1]) (t := 28) ?hr ?_; (case hd => rfl); (case hg => rfl); (case hr => first | (go_simp; done) | (go_simp; rfl)); intro gb148 hg w22 hbox hb; have n0_ := zA2.mk (zAe (by repeat (first | (with_reducible first | exact HB.out | apply zA1 | apply zA0 | apply zA3) | exact HB.out)) hb); have n1_ := zA2.mk (hbox); have n2_ := zA2.mk ((by rw [hg]; exact (zAb (by repeat (first | (with_reducible first | exact HB.out | apply zA1 | apply zA0 | apply zA3) | exact HB.out))) : w.heap.size ≤ gb148)); have n3_ := zA2.mk ((by rw [hg]; exact (zAb (by repeat (first | (with_reducible first | exact HB.out | apply zA1 | apply zA0 | apply zA3) | exact HB.out))) : w.heap.size ≤ gb148)); clear HB; have HB := n0_; have BK148 := n1_; have GW148 := n2_; have GE148 := n3_; clear n0_ n1_ n2_ n3_; clear hb hbox hg; have hcz23_0 : w22.cell? ⟨gb148, 0, none⟩ = some (.int .i64 a0_0) := (zA7 BK148.out 0).trans rfl; have hcz23_1 : w22.cell? ⟨gb148, 1, none⟩ = some (.slice A0_1 l0_1.length c0_1) := (zA7 BK148.out 1).trans rfl; have hfz23_0 := zA9 BK148.out 0; have hfz23_1 := zA9 BK148.out 1) | ((with_reducible refine zAp (f := 21) rfl ?_); refine zBq (some 10) rfl rfl Tryz.func21 (by kernel_rfl) rfl #[.agg #[.int .i64 a0_0, .slice A0_1 l0_1.length c0_1]] rfl (by (try simp only [List.map_toArray, List.map_cons, List.map_nil]); first | done | rfl | (simp only [List.length_drop, List.length_take]; rfl)) ?_; (with_reducible refine (zAy.calls k a0_0 _ _ l0_1 t149 _ ?side1 ?side2 A3.out).mono ?_); (case side1 => repeat (first | exact (Kd.zAk HR0_1.out HB.out) | (with_reducible refine Kd.zAj ?_ _) | (with_reducible refine Kd.zAs ?_ _) | (with_reducible refine Kd.zB2 ?_))); (case side2 => exact HC0_1.out); rintro e w24 ⟨rfl, hb⟩; refine ⟨_, rfl, ?_⟩; have n0_ := zA2.mk (zAl (g := gb148) (o := .cells #[.int .i64 a0_0, .slice A0_1 l0_1.length c0_1] 28 (0, 0)) (by (with_reducible repeat (first | refine zA6 ?_ _ | refine zA8 ?_ | refine zA5 ?_ _)); exact BK148.out) hb); have n1_ := zA2.mk (zAe (by repeat (first | (with_reducible first | exact HB.out | apply zA1 | apply zA0 | apply zA3 | refine zA4 ?_ GE148.out) | exact HB.out)) hb); clear BK148; clear HB; have BK148 := n0_; have HB := n1_; clear n0_ n1_; (try clear hb); (try clear hb2); (try clear hk); (try clear hi)))
  go_ret3
  exact ⟨_, by first | rfl | (simp [zAr, zAq] <;> rfl) | (simp [*, zAr, zAq] <;> rfl), by first | exact Kd.R_nil _ _ _ _ _ | exact Kd.N_nil _ _ _ _ _ | exact Kd.V_nil _ _ _ _ _ | exact Kd.Q_nil _ _ _ _ _ | exact Kd.S_nil _ _ _ _ _, by repeat (first | (with_reducible first | exact HB.out | apply zA1 | apply zA0 | apply zA3 | refine zA4 ?_ GE148.out) | exact HB.out)⟩
end
end Go.Proofs.YtbghfbhlbfcloaaGreatDoor.PL
namespace Go.Proofs.YtbghfbhlbfcloaaGreatDoor.PL
section
set_option linter.unusedVariables false
set_option linter.unusedSimpArgs false
open Go.RowKit Go.Proofs.YtbghfbhlbfcloaaGreatDoorW.PrintWords Go.Proofs.YtbghfbhlbfcloaaGreatDoorW.PrintLast Go.Proofs.YtbghfbhlbfcloaaGreatDoorW.PrintMore
def tb (x : Int) (j : Nat) : Bool := decide (Go.bits .and .u16 (shr .u16 x (j : Int)) 1 = 1)
def row (t : Nat → Bool) (x4 x5 x6 : Nat) : Nat → List S58
 | 0 => []
 | c + 1 => (if t x4 = true then [⟨(x6 : Int), (x5 : Int)⟩, ⟨(x5 : Int), (x6 : Int)⟩] else []) ++ row t (x4 + 1) x5 (x6 + 1) c
theorem row_len (t : Nat → Bool) : ∀ (c x4 x5 x6 : Nat), (row t x4 x5 x6 c).length ≤ 2 * c
 | 0, _, _, _ => by simp [row]
 | c + 1, x4, x5, x6 => by
  have := row_len t c (x4 + 1) x5 (x6 + 1)
  unfold row
  rw [List.length_append]
  split
  ·simp only [List.length_cons, List.length_nil]; omega
  ·simp only [List.length_nil]; omega
theorem pairs_l1 (x0 : Int) (x5 : Nat) (h5 : x5 < 10) : ∀ (c x4 x6 : Nat) (x3 : List S58), x6 + c = x5 → x4 + c < 100 → x3.length + 2 * c < 1000 → ∀ k, c < k →
  zAv.l1 k x0 x3 (x4 : Int) (x5 : Int) (x6 : Int) = zAv.l0 (k - c - 1) x0 (x3 ++ row (tb x0) x4 x5 x6 c) ((x4 + c : Nat) : Int) ((x5 + 1 : Nat) : Int)
 | 0, x4, x6, x3, he, h4, h3, k, hk => by
  obtain ⟨k, rfl⟩ : ∃ q, k = q + 1 := ⟨k - 1, by omega⟩
  rw [zAv.l1, if_neg (by omega), wr1 x5 (by omega)]
  simp [row]
 | c + 1, x4, x6, x3, he, h4, h3, k, hk => by
  obtain ⟨k, rfl⟩ : ∃ q, k = q + 1 := ⟨k - 1, by omega⟩
  rw [zAv.l1, if_pos (by omega), if_pos (by omega), wr1 x4 (by omega), wr1 x6 (by omega)]
  have e : k + 1 - (c + 1) - 1 = k - c - 1 := by omega
  have e2 : x4 + 1 + c = x4 + (c + 1) := by omega
  by_cases ht : Go.bits .and .u16 (shr .u16 x0 (x4 : Int)) 1 = 1
  ·have htb : tb x0 x4 = true := decide_eq_true ht
   rw [if_pos ht, Option.bind_some, if_pos (by simp; omega)]
   have ih := pairs_l1 x0 x5 h5 c (x4 + 1) (x6 + 1) (x3 ++ [⟨(x6 : Int), (x5 : Int)⟩, ⟨(x5 : Int), (x6 : Int)⟩]) (by omega) (by omega) (by simp; omega) k (by omega)
   rw [ih, row, if_pos htb, List.append_assoc, e, e2]
  ·have htb : tb x0 x4 = false := decide_eq_false ht
   rw [if_neg ht]
   have ih := pairs_l1 x0 x5 h5 c (x4 + 1) (x6 + 1) x3 (by omega) (by omega) (by omega) k (by omega)
   rw [ih, row, htb, if_neg (by decide), e, e2]
   rfl
def U (t : Nat → Bool) : List S58 := row t 0 1 0 1 ++ row t 1 2 0 2 ++ row t 3 3 0 3 ++ row t 6 4 0 4 ++ row t 10 5 0 5
theorem U_len (t : Nat → Bool) : (U t).length ≤ 30 := by
 have h1 := row_len t 1 0 1 0
 have h2 := row_len t 2 1 2 0
 have h3 := row_len t 3 3 3 0
 have h4 := row_len t 4 6 4 0
 have h5 := row_len t 5 10 5 0
 unfold U
 simp only [List.length_append]
 omega
theorem pairs_make (x0 : Int) (k : Nat) (hk : 60 ≤ k) : zAv.f k x0 = (graph_Make.f 6 (U (tb x0))).bind fun t => some (t.1, t.2.1) := by
 obtain ⟨k, rfl⟩ : ∃ q, k = q + 60 := ⟨k - 60, by omega⟩
 have h1 := row_len (tb x0) 1 0 1 0
 have h2 := row_len (tb x0) 2 (0 + 1) (1 + 1) 0
 have h3 := row_len (tb x0) 3 (0 + 1 + 2) (1 + 1 + 1) 0
 have h4 := row_len (tb x0) 4 (0 + 1 + 2 + 3) (1 + 1 + 1 + 1) 0
 have st (k x3 x4 x5) (h : x5 < 6) : zAv.l0 (k + 1) x0 x3 (x4 : Int) ((x5 : Nat) : Int) = zAv.l1 k x0 x3 x4 ((x5 : Nat) : Int) ((0 : Nat) : Int) := by
  rw [zAv.l0, if_pos (by omega)]
  rfl
 have e0 : zAv.f (k + 60) x0 = zAv.l0 (k + 60) x0 [] ((0 : Nat) : Int) ((1 : Nat) : Int) := rfl
 rw [e0, st _ _ _ 1 (by omega), pairs_l1 x0 1 (by omega) 1 0 0 [] (by omega) (by omega) (by simp) _ (by omega)]
 rw [show k + 59 - 1 - 1 = (k + 56) + 1 by omega, st _ _ _ (1 + 1) (by omega), pairs_l1 x0 (1 + 1) (by omega) 2 (0 + 1) 0 _ (by omega) (by omega) (by simp; omega) _ (by omega)]
 rw [show k + 56 - 2 - 1 = (k + 52) + 1 by omega, st _ _ _ (1 + 1 + 1) (by omega), pairs_l1 x0 (1 + 1 + 1) (by omega) 3 (0 + 1 + 2) 0 _ (by omega) (by omega) (by simp only [List.length_append, List.nil_append]; omega) _ (by omega)]
 rw [show k + 52 - 3 - 1 = (k + 47) + 1 by omega, st _ _ _ (1 + 1 + 1 + 1) (by omega), pairs_l1 x0 (1 + 1 + 1 + 1) (by omega) 4 (0 + 1 + 2 + 3) 0 _ (by omega) (by omega) (by simp only [List.length_append, List.nil_append]; omega) _ (by omega)]
 rw [show k + 47 - 4 - 1 = (k + 41) + 1 by omega, st _ _ _ (1 + 1 + 1 + 1 + 1) (by omega), pairs_l1 x0 (1 + 1 + 1 + 1 + 1) (by omega) 5 (0 + 1 + 2 + 3 + 4) 0 _ (by omega) (by omega) (by simp only [List.length_append, List.nil_append]; omega) _ (by omega)]
 rw [show k + 41 - 5 - 1 = (k + 34) + 1 by omega, zAv.l0, if_neg (by decide)]
 rfl
theorem row_sub (t : Nat → Bool) : ∀ (c x4 x5 x6 : Nat), (row t x4 x5 x6 c).Sublist (row (fun _ => true) x4 x5 x6 c)
 | 0, _, _, _ => List.Sublist.refl _
 | c + 1, x4, x5, x6 => by
  unfold row
  refine List.Sublist.append ?_ (row_sub t c _ _ _)
  split
  ·exact List.Sublist.refl _
  ·exact List.nil_sublist _
theorem U_sub (t : Nat → Bool) : (U t).Sublist (U fun _ => true) := by
 unfold U
 exact List.Sublist.append (List.Sublist.append (List.Sublist.append (List.Sublist.append (row_sub t _ _ _ _) (row_sub t _ _ _ _)) (row_sub t _ _ _ _)) (row_sub t _ _ _ _)) (row_sub t _ _ _ _)
theorem U_full : (nodupE (U fun _ => true) && (U fun _ => true).all (okE 6) && (U fun _ => true).all (fun e => !(e.f0 == e.f1))) = true := by kernel_rfl
theorem nodupE_of : ∀ l : List S58, (l.Pairwise fun a b => ¬ (a.f0 = b.f0 ∧ a.f1 = b.f1)) → nodupE l = true
 | [], _ => rfl
 | a :: r, h => by
  unfold nodupE
  rw [nodupE_of r (List.Pairwise.of_cons h), Bool.and_true, List.all_eq_true]
  intro b hb
  have h1 := List.rel_of_pairwise_cons h hb
  simp only [Bool.not_eq_true', Bool.and_eq_false_iff, beq_eq_false_iff_ne]
  by_cases e : a.f0 = b.f0
  ·exact .inr (fun e2 => h1 ⟨e, e2⟩)
  ·exact .inl e
theorem U_nodup (t : Nat → Bool) : nodupE (U t) = true := by
 have h := U_full
 simp only [Bool.and_eq_true] at h
 exact nodupE_of _ ((nodupE_pair _ h.1.1).sublist (U_sub t))
theorem U_ok (t : Nat → Bool) : (U t).all (okE 6) = true := by
 have h := U_full
 simp only [Bool.and_eq_true] at h
 exact List.all_eq_true.2 fun e he => List.all_eq_true.1 h.1.2 e ((U_sub t).subset he)
theorem U_loop (t : Nat → Bool) (e : S58) (he : e ∈ U t) : e.f0 ≠ e.f1 := by
 have h := U_full
 simp only [Bool.and_eq_true] at h
 have := List.all_eq_true.1 h.2 e ((U_sub t).subset he)
 simpa using this
theorem row_sym (t : Nat → Bool) (a b : Int) : ∀ (c x4 x5 x6 : Nat), (⟨a, b⟩ : S58) ∈ row t x4 x5 x6 c → (⟨b, a⟩ : S58) ∈ row t x4 x5 x6 c
 | 0, _, _, _, h => by simp [row] at h
 | c + 1, x4, x5, x6, h => by
  unfold row at h ⊢
  rw [List.mem_append] at h ⊢
  rcases h with h | h
  ·split at h
   ·rename_i ht
    rw [if_pos ht]
    simp only [List.mem_cons, List.not_mem_nil, or_false, S58.mk.injEq] at h ⊢
    rcases h with ⟨rfl, rfl⟩ | ⟨rfl, rfl⟩ <;> simp
   ·simp at h
  ·exact .inr (row_sym t a b c _ _ _ h)
theorem U_sym (t : Nat → Bool) (a b : Int) (h : (⟨a, b⟩ : S58) ∈ U t) : (⟨b, a⟩ : S58) ∈ U t := by
 unfold U at h ⊢
 simp only [List.mem_append] at h ⊢
 rcases h with (((h | h) | h) | h) | h
 ·exact .inl (.inl (.inl (.inl (row_sym t a b _ _ _ _ h))))
 ·exact .inl (.inl (.inl (.inr (row_sym t a b _ _ _ _ h))))
 ·exact .inl (.inl (.inr (row_sym t a b _ _ _ _ h)))
 ·exact .inl (.inr (row_sym t a b _ _ _ _ h))
 ·exact .inr (row_sym t a b _ _ _ _ h)
def Eg (t : Nat → Bool) : List S58 := sortE (U t)
theorem make_f (t : Nat → Bool) : graph_Make.f 6 (U t) = some (6, Eg t, 0) := by
 have hl := U_len t
 show MK.f 6 (U t) = _
 unfold MK.f
 rw [if_pos ⟨by decide, by decide, U_ok t, by omega, U_nodup t⟩]
 rfl
theorem pairs_f (x0 : Int) (k : Nat) (hk : 60 ≤ k) : zAv.f k x0 = some (6, Eg (tb x0)) := by
 rw [pairs_make x0 k hk, make_f]
 rfl
theorem Eg_mem (t : Nat → Bool) (e : S58) : e ∈ Eg t ↔ e ∈ U t := (isort_perm (leC ordE) (U t)).mem_iff
theorem Eg_len (t : Nat → Bool) : (Eg t).length ≤ 30 := by
 have := (isort_perm (leC ordE) (U t)).length_eq
 have h := U_len t
 unfold Eg sortE
 omega
theorem ordE_of {x y : S58} (h : ¬ ordE y x < 0) (hne : ¬ (x.f0 = y.f0 ∧ x.f1 = y.f1)) : ordE x y < 0 := by
 unfold ordE at h ⊢
 split at h <;> (try split at h) <;> (try split at h) <;> (try split at h) <;> split <;> (try split) <;> (try split) <;> (try split) <;> omega
theorem Eg_pair (t : Nat → Bool) : (Eg t).Pairwise fun x y => ordE x y < 0 := by
 have ht : ∀ a b c, leC ordE a b = true → leC ordE b c = true → leC ordE a c = true := by
  intro a b c h1 h2
  have := ordE_swo.ntrans c b a (by simpa [leC, ltOf] using h2) (by simpa [leC, ltOf] using h1)
  simpa [leC, ltOf] using this
 have htot : ∀ a b, (leC ordE a b || leC ordE b a) = true := by
  intro a b
  have l1 := ordE_lt a b
  have l2 := ordE_lt b a
  unfold ltOf at l1 l2
  unfold leC
  rw [l1, l2]
  by_cases h1 : (a.f0 < b.f0 ∨ a.f0 = b.f0 ∧ a.f1 < b.f1)
  ·rw [decide_eq_true h1, decide_eq_false (by omega)]; rfl
  ·rw [decide_eq_false h1]; simp
 have h1 := isort_pair (leC ordE) ht htot (U t)
 have h2 : (isort (leC ordE) (U t)).Pairwise fun a b => ¬ (a.f0 = b.f0 ∧ a.f1 = b.f1) :=
  ((isort_perm (leC ordE) (U t)).pairwise_iff (fun h e => h ⟨e.1.symm, e.2.symm⟩)).2 (nodupE_pair _ (U_nodup t))
 exact (h1.and h2).imp fun h => ordE_of (by simpa [leC] using h.1) h.2
theorem Eg_ok (t : Nat → Bool) (e : S58) (he : e ∈ Eg t) : 0 ≤ e.f0 ∧ e.f0 < 6 ∧ 0 ≤ e.f1 ∧ e.f1 < 6 := by
 have h := List.all_eq_true.1 (U_ok t) e ((Eg_mem t e).1 he)
 simp only [okE, Bool.and_eq_true, decide_eq_true_eq] at h
 exact ⟨h.1.1, h.1.2, h.2.1, h.2.2⟩
theorem check_l0 (E : List S58) (hE : ∀ e ∈ E, 0 ≤ e.f0 ∧ e.f0 < 6 ∧ 0 ≤ e.f1 ∧ e.f1 < 6) (hl : E.length < 1000) : ∀ (c i : Nat), i + c = E.length → ∀ k, c < k → zAi.l0 k E (E.length : Int) (i : Int) 6 E = zAi.l1 (k - c - 1) 1 6 E
 | 0, i, hi, k, hk => by
  obtain ⟨k, rfl⟩ : ∃ q, k = q + 1 := ⟨k - 1, by omega⟩
  rw [zAi.l0, if_neg (by omega)]
  rfl
 | c + 1, i, hi, k, hk => by
  obtain ⟨k, rfl⟩ : ∃ q, k = q + 1 := ⟨k - 1, by omega⟩
  have h := hE E[i] (List.getElem_mem (by omega))
  have hb : ∀ z : Int, 0 ≤ z → z < 6 → zC5.f 6 z = some false := by
   intro z h0 h1
   unfold zC5.f
   rw [if_neg (by omega), decide_eq_false (by omega)]
  rw [zAi.l0, if_pos (by omega), if_pos (by omega), if_pos (by omega), rdE E i (by omega), hb _ h.1 h.2.1, Option.bind_some, if_neg (by decide), hb _ h.2.2.1 h.2.2.2, Option.bind_some, if_neg (by decide), wr1 i (by omega), check_l0 E hE hl c (i + 1) (by omega) k (by omega), show k + 1 - (c + 1) - 1 = k - c - 1 by omega]
theorem check_l1 (E : List S58) (hE : E.Pairwise fun x y => ordE x y < 0) (hl : E.length < 1000) : ∀ (c i : Nat), i + 1 + c = E.length ∨ (c = 0 ∧ E.length ≤ i + 1) → ∀ k, c + 5 < k → zAi.l1 k ((i + 1 : Nat) : Int) 6 E = some 0
 | 0, i, hi, k, hk => by
  obtain ⟨k, rfl⟩ : ∃ q, k = q + 1 := ⟨k - 1, by omega⟩
  rw [zAi.l1, if_neg (by omega)]
 | c + 1, i, hi, k, hk => by
  have hlt : i + 1 < E.length := by omega
  obtain ⟨k, rfl⟩ : ∃ q, k = q + 5 := ⟨k - 5, by omega⟩
  have h := List.pairwise_iff_getElem.1 hE i (i + 1) (by omega) hlt (by omega)
  rw [zAi.l1, if_pos (by omega), wm1 i (by omega), if_pos (by omega), if_pos (by omega), if_pos (by omega), rdE E i (by omega), rdE E (i + 1) hlt, order_f, Option.bind_some, if_neg (by omega), wr1 (i + 1) (by omega), check_l1 E hE hl c (i + 1) (by omega) (k + 4) (by omega)]
theorem gcheck_f (t : Nat → Bool) (k : Nat) (hk : 100 ≤ k) : zAi.f k 6 (Eg t) = some 0 := by
 have hl := Eg_len t
 obtain ⟨k, rfl⟩ : ∃ q, k = q + 1 := ⟨k - 1, by omega⟩
 unfold zAi.f
 rw [if_neg (by decide), zAi.j0, decide_eq_false (by decide), if_neg (by decide), if_neg (by
  rw [show wrap64 ((6 : Int) * 6) = 36 by simp [wrap64]]; omega)]
 have h0 := check_l0 (Eg t) (Eg_ok t) (by omega) (Eg t).length 0 (by omega) k (by omega)
 have h0' : zAi.l0 k (Eg t) ((Eg t).length : Int) 0 6 (Eg t) = zAi.l1 (k - (Eg t).length - 1) 1 6 (Eg t) := h0
 rw [h0']
 have h1 := check_l1 (Eg t) (Eg_pair t) (by omega) ((Eg t).length - 1) 0 (by omega) (k - (Eg t).length - 1) (by omega)
 exact h1
theorem e93_l (E : List S58) (a b : Int) (hl : E.length < 1000) : ∀ (c i : Nat), i + c = E.length → (⟨a, b⟩ : S58) ∈ E.drop i → ∀ k, c < k → ∃ r : Nat, zBk.l0 k E (E.length : Int) (i : Int) a b = some (r : Int)
 | 0, i, hi, hm, k, hk => by rw [List.drop_eq_nil_of_le (by omega)] at hm; simp at hm
 | c + 1, i, hi, hm, k, hk => by
  obtain ⟨k, rfl⟩ : ∃ q, k = q + 1 := ⟨k - 1, by omega⟩
  have hlt : i < E.length := by omega
  rw [zBk.l0, if_pos (by omega), if_pos (by omega), if_pos (by omega), rdE E i hlt]
  by_cases he : (a == E[i].f0 && (b == E[i].f1)) = true
  ·rw [if_pos he]
   exact ⟨i, rfl⟩
  ·rw [if_neg he, wr1 i (by omega)]
   refine e93_l E a b hl c (i + 1) (by omega) ?_ k (by omega)
   rw [List.drop_eq_getElem_cons hlt] at hm
   rcases List.mem_cons.1 hm with h | h
   ·exfalso
    apply he
    rw [← h]
    simp
   ·exact h
theorem lcheck_l (t : Nat → Bool) : ∀ (c i : Nat), i + c = (Eg t).length → ∀ k, c + 60 < k → zAy.l0 k (Eg t) ((Eg t).length : Int) (i : Int) 6 (Eg t) = some 0
 | 0, i, hi, k, hk => by
  obtain ⟨k, rfl⟩ : ∃ q, k = q + 1 := ⟨k - 1, by omega⟩
  rw [zAy.l0, if_neg (by omega)]
 | c + 1, i, hi, k, hk => by
  obtain ⟨k, rfl⟩ : ∃ q, k = q + 1 := ⟨k - 1, by omega⟩
  have hl := Eg_len t
  have hlt : i < (Eg t).length := by omega
  have hm := List.getElem_mem hlt
  have hloop := U_loop t _ ((Eg_mem t _).1 hm)
  have hsym : (⟨(Eg t)[i].f1, (Eg t)[i].f0⟩ : S58) ∈ Eg t := (Eg_mem t _).2 (U_sym t _ _ ((Eg_mem t _).1 hm))
  obtain ⟨r, hr⟩ := e93_l (Eg t) (Eg t)[i].f1 (Eg t)[i].f0 (by omega) (Eg t).length 0 (by omega) hsym k (by omega)
  have h73 : zCb.f k (Eg t) (Eg t)[i].f1 (Eg t)[i].f0 = some true := by
   unfold zCb.f zBk.f
   rw [show zBk.l0 k (Eg t) ((Eg t).length : Int) 0 (Eg t)[i].f1 (Eg t)[i].f0 = some (r : Int) from hr, Option.bind_some, decide_eq_true (by omega)]
  rw [zAy.l0, if_pos (by omega), if_pos (by omega), if_pos (by omega), rdE (Eg t) i hlt, if_neg hloop, h73, Option.bind_some, if_pos rfl, wr1 i (by omega), lcheck_l t c (i + 1) (by omega) k (by omega)]
theorem lcheck_f (t : Nat → Bool) (k : Nat) (hk : 100 ≤ k) : zAy.f k 6 (Eg t) = some 0 := by
 have hl := Eg_len t
 unfold zAy.f
 rw [gcheck_f t k hk, Option.bind_some, if_pos rfl, if_neg (by decide)]
 exact lcheck_l t (Eg t).length 0 (by omega) k (by omega)
theorem shl_tab : ((List.range 6).all fun i => shl .u64 1 (i : Int) == ((2 ^ i : Nat) : Int)) = true := by kernel_rfl
theorem shl_f (i : Nat) (hi : i < 6) : shl .u64 1 (i : Int) = ((2 ^ i : Nat) : Int) := by
 have h := List.all_eq_true.1 shl_tab i (List.mem_range.2 hi)
 simpa using h
theorem LI_len {A : List Nat} (h : Gd A) : (LI A).length = 6 := by unfold LI; rw [List.length_map]; exact h.1
theorem ad_set {A : List Nat} (h : Gd A) (i v a b : Nat) (hi : i < 6) : ad (A.set i v) a b = if a = i then v.testBit b else ad A a b := by
 unfold ad
 rw [List.getD_eq_getElem?_getD, List.getD_eq_getElem?_getD, List.getElem?_set]
 have := h.1
 by_cases e : i = a
 ·rw [if_pos e, if_pos e.symm, if_pos (by omega)]; rfl
 ·rw [if_neg e, if_neg (fun e2 => e e2.symm)]
theorem linked_l (E : List S58) (hE : ∀ e ∈ E, 0 ≤ e.f0 ∧ e.f0 < 6 ∧ 0 ≤ e.f1 ∧ e.f1 < 6) (hl : E.length < 1000) : ∀ (c i : Nat) (B : List Nat), i + c = E.length → Gd B → ∀ k, c < k →
  ∃ A, Gd A ∧ zAw.l0 k (LI B) E (E.length : Int) (i : Int) = some (LI A) ∧ ∀ a b, a < 6 → b < 6 → (ad A a b = true ↔ ad B a b = true ∨ (⟨(a : Int), (b : Int)⟩ : S58) ∈ E.drop i)
 | 0, i, B, hi, hB, k, hk => by
  obtain ⟨k, rfl⟩ : ∃ q, k = q + 1 := ⟨k - 1, by omega⟩
  refine ⟨B, hB, by rw [zAw.l0, if_neg (by omega)], fun a b _ _ => ?_⟩
  rw [List.drop_eq_nil_of_le (by omega)]
  simp
 | c + 1, i, B, hi, hB, k, hk => by
  obtain ⟨k, rfl⟩ : ∃ q, k = q + 1 := ⟨k - 1, by omega⟩
  have hlt : i < E.length := by omega
  obtain ⟨h0, h1, h2, h3⟩ := hE E[i] (List.getElem_mem hlt)
  obtain ⟨u, hu⟩ : ∃ u : Nat, E[i].f0 = (u : Int) := ⟨E[i].f0.toNat, by omega⟩
  obtain ⟨v, hv⟩ : ∃ v : Nat, E[i].f1 = (v : Int) := ⟨E[i].f1.toNat, by omega⟩
  have hu6 : u < 6 := by omega
  have hv6 : v < 6 := by omega
  have hBu := hB.lt u
  have h2v : 2 ^ v < 64 := Nat.pow_lt_pow_right (m := v) (n := 6) (by decide) hv6
  have hG : Gd (B.set u (B.getD u 0 ||| 2 ^ v)) := ⟨by rw [List.length_set]; exact hB.1, fun a ha => by
   rcases List.mem_or_eq_of_mem_set ha with h | h
   ·exact hB.2 a h
   ·rw [h]; exact Nat.or_lt_two_pow (n := 6) hBu h2v⟩
  obtain ⟨A, hA, hf, hb⟩ := linked_l E hE hl c (i + 1) (B.set u (B.getD u 0 ||| 2 ^ v)) (by omega) hG k (by omega)
  have hset : (LI B).set u (((B.getD u 0 ||| 2 ^ v : Nat)) : Int) = LI (B.set u (B.getD u 0 ||| 2 ^ v)) := by
   unfold LI
   rw [List.map_set]
  refine ⟨A, hA, ?_, fun a b ha hb' => ?_⟩
  ·rw [zAw.l0, if_pos (by omega), if_pos (by omega), if_pos (by omega), rdE E i hlt, hu, hv, if_pos (by omega), if_pos (by rw [LI_len hB]; omega), if_pos (by omega), rdL hB u hu6, shl_f v hv6, orI _ _ hBu h2v, Int.toNat_natCast, hset, wr1 i (by omega)]
   exact hf
  ·rw [hb a b ha hb', ad_set hB u _ a b hu6, List.drop_eq_getElem_cons hlt, List.mem_cons]
   have heq : (⟨(a : Int), (b : Int)⟩ : S58) = E[i] ↔ a = u ∧ b = v := by
    constructor
    ·intro e
     have e1 : (a : Int) = E[i].f0 := by rw [← e]
     have e2 : (b : Int) = E[i].f1 := by rw [← e]
     exact ⟨by omega, by omega⟩
    ·rintro ⟨rfl, rfl⟩
     exact extE (by rw [hu]) (by rw [hv])
   rw [heq]
   by_cases e : a = u
   ·rw [if_pos e, Nat.testBit_or, Nat.testBit_two_pow, Bool.or_eq_true, decide_eq_true_eq]
    subst e
    constructor
    ·rintro ((h | h) | h)
     ·exact .inl h
     ·exact .inr (.inl ⟨rfl, h.symm⟩)
     ·exact .inr (.inr h)
    ·rintro (h | ⟨_, h⟩ | h)
     ·exact .inl (.inl h)
     ·exact .inl (.inr h.symm)
     ·exact .inr h
   ·rw [if_neg e]
    constructor
    ·rintro (h | h)
     ·exact .inl h
     ·exact .inr (.inr h)
    ·rintro (h | ⟨h, _⟩ | h)
     ·exact .inl h
     ·exact absurd h e
     ·exact .inr h
theorem linked_f (t : Nat → Bool) (k : Nat) (hk : 100 ≤ k) : ∃ A, Gd A ∧ zAw.f k 6 (Eg t) = some (LI A) ∧ Ed A (Eg t) ∧ ∀ a b, a < 6 → b < 6 → ad A a b = ad A b a := by
 have hl := Eg_len t
 have hz : Gd [0, 0, 0, 0, 0, 0] := ⟨rfl, fun a ha => by simp at ha; omega⟩
 obtain ⟨A, hA, hf, hb⟩ := linked_l (Eg t) (Eg_ok t) (by omega) (Eg t).length 0 [0, 0, 0, 0, 0, 0] (by omega) hz k (by omega)
 have hb' : ∀ a b, a < 6 → b < 6 → (ad A a b = true ↔ (⟨(a : Int), (b : Int)⟩ : S58) ∈ Eg t) := by
  intro a b ha hb1
  rw [hb a b ha hb1, List.drop_zero]
  constructor
  ·rintro (h | h)
   ·exfalso
    have : ad [0, 0, 0, 0, 0, 0] a b = false := by
     unfold ad
     have : a = 0 ∨ a = 1 ∨ a = 2 ∨ a = 3 ∨ a = 4 ∨ a = 5 := by omega
     rcases this with rfl | rfl | rfl | rfl | rfl | rfl <;> simp
    rw [this] at h
    cases h
   ·exact h
  ·exact .inr
 refine ⟨A, hA, ?_, ⟨by omega, fun a b ha hb1 => ?_⟩, fun a b ha hb1 => ?_⟩
 ·unfold zAw.f
  rw [if_pos (by decide), if_pos (by decide)]
  exact hf
 ·have := hb' a b ha hb1
  cases e : ad A a b with
  | true => exact decide_eq_true (this.1 e)
  | false => exact decide_eq_false (fun h => by rw [this.2 h] at e; cases e)
 ·have h1 := hb' a b ha hb1
  have h2 := hb' b a hb1 ha
  cases e : ad A a b with
  | true => exact (h2.2 ((Eg_mem t _).2 (U_sym t _ _ ((Eg_mem t _).1 (h1.1 e))))).symm
  | false =>
   cases e2 : ad A b a with
   | false => rfl
   | true =>
    rw [h1.2 ((Eg_mem t _).2 (U_sym t _ _ ((Eg_mem t _).1 (h2.1 e2))))] at e
    cases e
theorem ordered_tab : ((List.range 64).all fun m => zAn.f 20 (EI m) 6 == some 0) = true := by kernel_rfl
theorem ordered_f (k : Nat) (hk : 20 ≤ k) (m : Nat) (hm : m < 64) : zAn.f k (EI m) 6 = some 0 := by
 have h := List.all_eq_true.1 ordered_tab m (List.mem_range.2 hm)
 exact up (fun k => zAn.mono (EI m) 6 k) (by simpa using h) k hk
theorem masked_tab : ((List.range 64).all fun m => zAt.f 20 (EI m) == some (m : Int)) = true := by kernel_rfl
theorem masked_f (k : Nat) (hk : 20 ≤ k) (m : Nat) (hm : m < 64) : zAt.f k (EI m) = some (m : Int) := by
 have h := List.all_eq_true.1 masked_tab m (List.mem_range.2 hm)
 exact up (fun k => zAt.mono (EI m) k) (by simpa using h) k hk
theorem EI_pos {m : Nat} (hm : m < 64) (h0 : m ≠ 0) : 0 < (EI m).length := by
 obtain ⟨_, l2, l3, l4⟩ := lo_f m hm h0
 unfold EI
 rw [List.length_map]
 exact List.length_pos_of_mem (El_mem.2 ⟨l3, l2⟩)
theorem opened_f (t : Nat → Bool) (A : List Nat) (m k : Nat) (hm : m < 64) (h0 : m ≠ 0) (hk : 100 ≤ k) (hA : zAw.f k 6 (Eg t) = some (LI A)) : zB3.f k 6 (Eg t) (EI m) = some (LI A, (m : Int), 0) := by
 have hp := EI_pos hm h0
 unfold zB3.f
 rw [lcheck_f t k hk, Option.bind_some, if_pos rfl, if_neg (by omega), ordered_f k (by omega) m hm, Option.bind_some, if_pos rfl, hA, Option.bind_some, masked_f k (by omega) m hm, Option.bind_some]
end
end Go.Proofs.YtbghfbhlbfcloaaGreatDoor.PL
