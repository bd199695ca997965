/- Put together by this session's program pack.py. -/
import Derived.Below
import Derived.Deep.Draws
import Derived.Deep.AppendLies
import Derived.Maps.AppendAt
import Derived.OwnWalk
import Derived.Laws.BytesArg
import Derived.Laws.MakeOwn
import Derived.Laws.OwnMore
import Derived.Deep.OwnRows
import Derived.Tactics
import Derived.Lib.ConvBytes
import Derived.Laws.Slices
import Derived.WalkKit
import Derived.KernelRfl
import Derived.RowKit3
import Derived.Deep.LoopGhost
import Derived.Deep.QuietTactic
import Derived.BigQuiet
import Derived.WideLaws
import Derived.Deep.DeepCutAuto
import Derived.Deep.CutBlock
import Derived.Deep.RegionHeld3
import Derived.Laws.Rows
import Derived.Lib.AppendStr
import Derived.ArgAppend
import Derived.Laws.IdiomCopy
import Derived.OrdersHeld
import Derived.Laws.BitsLemmas
import Derived.RowKit
import Derived.Sort.Grow
import Derived.Shelf.SlSortCmp.InsertionK
import Derived.Shelf.SlSortCmp.NoneTotal
import Derived.Shelf.SlGeneric
import Derived.Ground.SlsfProg
import Derived.WalkSpells
import Derived.Shelf.SlicesQ.IndexFunc
import Derived.Shelf.GgClosure.StringsIndexFuncTop
import Derived.Ground.SlgfProg
import Derived.Ground.GgwProg
import Derived.RangeFuncNested
import Derived.RangeFuncBound
import Derived.RangeFuncCalls
import Derived.RangeFuncLeaves
import Derived.Shelf.Abstract
import Derived.Shelf.RegionOpen
import Derived.OwnWalkIn
import Derived.TacticsInMore
import Derived.LoopNIn
import Derived.LoopIn
import Derived.OrdersIn
import Derived.RangeFuncKeeps
import Derived.RangeFuncWrites
import Derived.Test.YtbghfbhlbfcloaaDoorCw0
import Derived.Test.YtbghfbhlbfcloaaDoorCp0
import Derived.Test.YtbghfbhlbfcloaaDoorCp1
namespace Go.Proofs.YtbghfbhlbfcloaaDoor.PL
section
open Go.RowKit Go.Proofs.YtbghfbhlbfcloaaDoorW.PrintWords Go.Proofs.YtbghfbhlbfcloaaDoorW.PrintLast Go.Proofs.YtbghfbhlbfcloaaDoorW.PrintMore
attribute [local go_sem] max2_int min2_int max_two min_two max_three min_three max_four min_four   -- for this text's walks alone
set_option linter.unusedVariables false
set_option linter.unusedSimpArgs false
/-! ### liaison_opened: function 34 -/
def liaison_opened.f (k : Nat) (a0_0 : Int) (l0_1 : List (S68)) (l1 : List Int) : Option (List Int × Int × Int) := (liaison_Check.f k a0_0 l0_1).bind fun t157 => (if t157 = 0 then (if (l1.length : Int) = 0 then (some (([] : List Int), 0, 7)) else ((liaison_ordered.f k l1 a0_0).bind fun t158 => (if t158 = 0 then ((liaison_linked.f k a0_0 l0_1).bind fun t159 => ((liaison_masked.f k l1).bind fun t162 => (some (t159, t162, 0)))) else (some (([] : List Int), 0, t158))))) else (some (([] : List Int), 0, t157)))
theorem liaison_opened.mono : ∀ a0 a1 a2 k, LeO (liaison_opened.f k a0 a1 a2) (liaison_opened.f (k + 1) a0 a1 a2) := by
  intro a0 a1 a2 k
  unfold liaison_opened.f
  repeat' first
      | (with_reducible exact liaison_Check.mono _ _ _)
      | (with_reducible exact liaison_linked.mono _ _ _)
      | (with_reducible exact liaison_masked.mono _ _)
      | (with_reducible exact liaison_ordered.mono _ _ _)
      | (with_reducible exact LeO.refl _)
      | (with_reducible exact LeO.none _)
      | (with_reducible refine LeO.ite ?_ ?_)
      | (with_reducible refine LeO.bind ?_ (fun _ => ?_))
      | exact liaison_Check.mono _ _ _
      | exact liaison_linked.mono _ _ _
      | exact liaison_masked.mono _ _
      | exact liaison_ordered.mono _ _ _
      | exact LeO.none _
      | refine LeO.ite ?_ ?_
      | refine LeO.bind ?_ (fun _ => ?_)
set_option maxHeartbeats 8000000 in
set_option maxRecDepth 100000 in
theorem liaison_opened.calls (k : Nat) (a0_0 : Int) (A0_1 : Option Addr) (c0_1 : Nat) (l0_1 : List (S68)) (A1 : Option Addr) (c1 : Nat) (l1 : List Int) (r1 : List Int) (r2 : Int) (r3 : Int) (w : World) (hr0_1 : Kd.C k68 w A0_1 l0_1.length l0_1) (hc0_1 : l0_1.length ≤ c0_1) (hr1 : Kd.C (Kd.int .i64) w A1 l1.length l1) (hc1 : l1.length ≤ c1) (h : liaison_opened.f k a0_0 l0_1 l1 = some (r1, r2, r3)) :
    Calls Tryd.prog 34 #[.agg #[.int .i64 a0_0, .slice A0_1 l0_1.length c0_1], .slice A1 l1.length c1] w fun e w' => ∃ v0_ : Value, e = .returned (.tuple #[v0_, .int .u64 r2, .int .i64 r3]) ∧ Kd.R (Kd.int .u64) 71 w' w.heap.size (fun _ => True) v0_ r1 ∧ Below w.heap.size w w' := by
  have hu28 := Tryd.underlying28
  have HR0_1 := Aside0.mk hr0_1
  have HC0_1 := Aside0.mk hc0_1
  clear hr0_1 hc0_1
  have HR1 := Aside0.mk hr1
  have HC1 := Aside0.mk hc1
  clear hr1 hc1
  have HB := Aside0.mk (Below.refl w.heap.size w)
  have H : ((liaison_Check.f k a0_0 l0_1).bind fun t157 => (if t157 = 0 then (if (l1.length : Int) = 0 then (some (([] : List Int), 0, 7)) else ((liaison_ordered.f k l1 a0_0).bind fun t158 => (if t158 = 0 then ((liaison_linked.f k a0_0 l0_1).bind fun t159 => ((liaison_masked.f k l1).bind fun t162 => (some (t159, t162, 0)))) else (some (([] : List Int), 0, t158))))) else (some (([] : List Int), 0, t157)))) = some (r1, r2, r3) := h
  clear h
  replace H := Option.bind_eq_some_iff.mp H
  obtain ⟨t157, A30, H⟩ := H
  replace H : (if t157 = 0 then (if (l1.length : Int) = 0 then (some (([] : List Int), 0, 7)) else ((liaison_ordered.f k l1 a0_0).bind fun t158 => (if t158 = 0 then ((liaison_linked.f k a0_0 l0_1).bind fun t159 => ((liaison_masked.f k l1).bind fun t162 => (some (t159, t162, 0)))) else (some (([] : List Int), 0, t158))))) else (some (([] : List Int), 0, t157))) = some (r1, r2, r3) := H
  have A3 := Aside0.mk A30
  clear A30
  by_cases c4 : t157 = 0
  · rw [if_pos c4] at H
    have c4b0 : (t157 == 0) = true := beq_iff_eq.mpr c4
    have c4b1 : (t157 != 0) = false := bne_eq_false_iff_eq.mpr c4
    clear c4
    by_cases c5 : (l1.length : Int) = 0
    · rw [if_pos c5] at H
      have c5b0 : ((l1.length : Int) == 0) = true := beq_iff_eq.mpr c5
      have c5b1 : ((l1.length : Int) != 0) = false := bne_eq_false_iff_eq.mpr c5
      clear c5
      simp only [Option.some.injEq, Prod.mk.injEq] at H
      obtain ⟨rfl, rfl, rfl⟩ := H
      go_enter Tryd.func34, Tryd.ntmps34
      go_wp2_with (first | ((with_reducible refine gate_dst (N := 2) rfl ?_); refine box_event ?hg (N := 2) ?hd (cs := #[.int .i64 a0_0, .slice A0_1 l0_1.length c0_1]) (t := 28) ?hr ?_; (case hd => rfl); (case hg => rfl); (case hr => first | (go_simp; done) | (go_simp; rfl)); intro gb156 hg w6 hbox hb; have n0_ := Aside0.mk (below_step (by repeat (first | (with_reducible first | exact HB.out | apply below_alloc | apply pw_below_drewN | apply below_drew1) | exact HB.out)) hb); have n1_ := Aside0.mk (hbox); have n2_ := Aside0.mk ((by rw [hg]; exact (below_size (by repeat (first | (with_reducible first | exact HB.out | apply below_alloc | apply pw_below_drewN | apply below_drew1) | exact HB.out))) : w.heap.size ≤ gb156)); have n3_ := Aside0.mk ((by rw [hg]; exact (below_size (by repeat (first | (with_reducible first | exact HB.out | apply below_alloc | apply pw_below_drewN | apply below_drew1) | exact HB.out))) : w.heap.size ≤ gb156)); clear HB; have HB := n0_; have BK156 := n1_; have GW156 := n2_; have GE156 := n3_; clear n0_ n1_ n2_ n3_; clear hb hbox hg; have hcz7_0 : w6.cell? ⟨gb156, 0, none⟩ = some (.int .i64 a0_0) := (blk_cell BK156.out 0).trans rfl; have hcz7_1 : w6.cell? ⟨gb156, 1, none⟩ = some (.slice A0_1 l0_1.length c0_1) := (blk_cell BK156.out 1).trans rfl; have hfz7_0 := blk_frozen BK156.out 0; have hfz7_1 := blk_frozen BK156.out 1) | ((with_reducible refine gate_callee (f := 45) rfl ?_); refine goesL_ (some 10) rfl rfl Tryd.func45 (by kernel_rfl) rfl #[.agg #[.int .i64 a0_0, .slice A0_1 l0_1.length c0_1]] rfl (by (try simp only [List.map_toArray, List.map_cons, List.map_nil]); first | done | rfl | (simp only [List.length_drop, List.length_take]; rfl)) ?_; (with_reducible refine (liaison_Check.calls k a0_0 _ _ l0_1 t157 _ ?side1 ?side2 A3.out).mono ?_); (case side1 => repeat (first | exact (Kd.C_below HR0_1.out HB.out) | (with_reducible refine Kd.C_alloc ?_ _) | (with_reducible refine Kd.C_drewN ?_ _) | (with_reducible refine Kd.C_drew ?_))); (case side2 => exact HC0_1.out); rintro e w8 ⟨rfl, hb⟩; refine ⟨_, rfl, ?_⟩; have n0_ := Aside0.mk (blk_below (g := gb156) (o := .cells #[.int .i64 a0_0, .slice A0_1 l0_1.length c0_1] 28 (0, 0)) (by (with_reducible repeat (first | refine blk_drewN ?_ _ | refine blk_drew ?_ | refine blk_alloc ?_ _)); exact BK156.out) hb); have n1_ := Aside0.mk (below_step (by repeat (first | (with_reducible first | exact HB.out | apply below_alloc | apply pw_below_drewN | apply below_drew1 | refine below_set ?_ GE156.out) | exact HB.out)) hb); clear BK156; clear HB; have BK156 := n0_; have HB := n1_; clear n0_ n1_; (try clear hb); (try clear hb2); (try clear hk); (try clear hi)))
      go_ret3
      exact ⟨_, by first | rfl | (simp [errW_none, errW_some] <;> rfl) | (simp [*, errW_none, errW_some] <;> rfl), by first | exact Kd.R_nil _ _ _ _ _ | exact Kd.N_nil _ _ _ _ _ | exact Kd.V_nil _ _ _ _ _ | exact Kd.Q_nil _ _ _ _ _ | exact Kd.S_nil _ _ _ _ _, by repeat (first | (with_reducible first | exact HB.out | apply below_alloc | apply pw_below_drewN | apply below_drew1 | refine below_set ?_ GE156.out) | exact HB.out)⟩
    · rw [if_neg c5] at H
      have c5b0 : ((l1.length : Int) == 0) = false := beq_eq_false_iff_ne.mpr c5
      have c5b1 : ((l1.length : Int) != 0) = true := bne_iff_ne.mpr c5
      have c5b2 : ¬ (l1 = []) := fun h_ => c5 (by rw [h_]; rfl)
      replace H := Option.bind_eq_some_iff.mp H
      obtain ⟨t158, A90, H⟩ := H
      replace H : (if t158 = 0 then ((liaison_linked.f k a0_0 l0_1).bind fun t159 => ((liaison_masked.f k l1).bind fun t162 => (some (t159, t162, 0)))) else (some (([] : List Int), 0, t158))) = some (r1, r2, r3) := H
      have A9 := Aside0.mk A90
      clear A90
      by_cases c10 : t158 = 0
      · rw [if_pos c10] at H
        have c10b0 : (t158 == 0) = true := beq_iff_eq.mpr c10
        have c10b1 : (t158 != 0) = false := bne_eq_false_iff_eq.mpr c10
        clear c10
        replace H := Option.bind_eq_some_iff.mp H
        obtain ⟨t159, A110, H⟩ := H
        replace H : ((liaison_masked.f k l1).bind fun t162 => (some (t159, t162, 0))) = some (r1, r2, r3) := H
        have A11 := Aside0.mk A110
        clear A110
        replace H := Option.bind_eq_some_iff.mp H
        obtain ⟨t162, A120, H⟩ := H
        replace H : (some (t159, t162, 0)) = some (r1, r2, r3) := H
        have A12 := Aside0.mk A120
        clear A120
        simp only [Option.some.injEq, Prod.mk.injEq] at H
        obtain ⟨rfl, rfl, rfl⟩ := H
        go_enter Tryd.func34, Tryd.ntmps34
        go_wp2_with (first | ((with_reducible refine gate_dst (N := 2) rfl ?_); refine box_event ?hg (N := 2) ?hd (cs := #[.int .i64 a0_0, .slice A0_1 l0_1.length c0_1]) (t := 28) ?hr ?_; (case hd => rfl); (case hg => rfl); (case hr => first | (go_simp; done) | (go_simp; rfl)); intro gb156 hg w13 hbox hb; have n0_ := Aside0.mk (below_step (by repeat (first | (with_reducible first | exact HB.out | apply below_alloc | apply pw_below_drewN | apply below_drew1) | exact HB.out)) hb); have n1_ := Aside0.mk (hbox); have n2_ := Aside0.mk ((by rw [hg]; exact (below_size (by repeat (first | (with_reducible first | exact HB.out | apply below_alloc | apply pw_below_drewN | apply below_drew1) | exact HB.out))) : w.heap.size ≤ gb156)); have n3_ := Aside0.mk ((by rw [hg]; exact (below_size (by repeat (first | (with_reducible first | exact HB.out | apply below_alloc | apply pw_below_drewN | apply below_drew1) | exact HB.out))) : w.heap.size ≤ gb156)); clear HB; have HB := n0_; have BK156 := n1_; have GW156 := n2_; have GE156 := n3_; clear n0_ n1_ n2_ n3_; clear hb hbox hg; have hcz14_0 : w13.cell? ⟨gb156, 0, none⟩ = some (.int .i64 a0_0) := (blk_cell BK156.out 0).trans rfl; have hcz14_1 : w13.cell? ⟨gb156, 1, none⟩ = some (.slice A0_1 l0_1.length c0_1) := (blk_cell BK156.out 1).trans rfl; have hfz14_0 := blk_frozen BK156.out 0; have hfz14_1 := blk_frozen BK156.out 1) | ((with_reducible refine gate_callee (f := 45) rfl ?_); refine goesL_ (some 10) rfl rfl Tryd.func45 (by kernel_rfl) rfl #[.agg #[.int .i64 a0_0, .slice A0_1 l0_1.length c0_1]] rfl (by (try simp only [List.map_toArray, List.map_cons, List.map_nil]); first | done | rfl | (simp only [List.length_drop, List.length_take]; rfl)) ?_; (with_reducible refine (liaison_Check.calls k a0_0 _ _ l0_1 t157 _ ?side1 ?side2 A3.out).mono ?_); (case side1 => repeat (first | exact (Kd.C_below HR0_1.out HB.out) | (with_reducible refine Kd.C_alloc ?_ _) | (with_reducible refine Kd.C_drewN ?_ _) | (with_reducible refine Kd.C_drew ?_))); (case side2 => exact HC0_1.out); rintro e w15 ⟨rfl, hb⟩; refine ⟨_, rfl, ?_⟩; have n0_ := Aside0.mk (blk_below (g := gb156) (o := .cells #[.int .i64 a0_0, .slice A0_1 l0_1.length c0_1] 28 (0, 0)) (by (with_reducible repeat (first | refine blk_drewN ?_ _ | refine blk_drew ?_ | refine blk_alloc ?_ _)); exact BK156.out) hb); have n1_ := Aside0.mk (below_step (by repeat (first | (with_reducible first | exact HB.out | apply below_alloc | apply pw_below_drewN | apply below_drew1 | refine below_set ?_ GE156.out) | exact HB.out)) hb); clear BK156; clear HB; have BK156 := n0_; have HB := n1_; clear n0_ n1_; (try clear hb); (try clear hb2); (try clear hk); (try clear hi); have hcz16_0 : w15.cell? ⟨gb156, 0, none⟩ = some (.int .i64 a0_0) := (blk_cell BK156.out 0).trans rfl; have hcz16_1 : w15.cell? ⟨gb156, 1, none⟩ = some (.slice A0_1 l0_1.length c0_1) := (blk_cell BK156.out 1).trans rfl; have hfz16_0 := blk_frozen BK156.out 0; have hfz16_1 := blk_frozen BK156.out 1) | ((with_reducible refine gate_callee (f := 58) rfl ?_); refine goesL_ (some 20) rfl rfl Tryd.func58 (by kernel_rfl) rfl #[.slice A1 l1.length c1, .int .i64 a0_0] rfl (by (try simp only [List.map_toArray, List.map_cons, List.map_nil]); first | done | rfl | (simp only [List.length_drop, List.length_take]; rfl)) ?_; (with_reducible refine (liaison_ordered.calls k _ _ l1 a0_0 t158 _ ?side1 ?side2 A9.out).mono ?_); (case side1 => repeat (first | exact (Kd.C_below HR1.out HB.out) | (with_reducible refine Kd.C_alloc ?_ _) | (with_reducible refine Kd.C_drewN ?_ _) | (with_reducible refine Kd.C_drew ?_))); (case side2 => exact HC1.out); rintro e w' ⟨rfl, ⟨nd, rfl⟩⟩; refine ⟨_, rfl, ?_⟩) | ((with_reducible refine gate_callee (f := 46) rfl ?_); refine goesL_ (some 25) rfl rfl Tryd.func46 (by kernel_rfl) rfl #[.agg #[.int .i64 a0_0, .slice A0_1 l0_1.length c0_1]] rfl (by (try simp only [List.map_toArray, List.map_cons, List.map_nil]); first | done | rfl | (simp only [List.length_drop, List.length_take]; rfl)) ?_; (with_reducible refine (liaison_linked.calls k a0_0 _ _ l0_1 t159 _ ?side1 ?side2 A11.out).mono ?_); (case side1 => repeat (first | exact (Kd.C_below HR0_1.out (by repeat (first | (with_reducible first | exact HB.out | apply below_alloc | apply pw_below_drewN | apply below_drew1 | refine below_set ?_ GE156.out) | exact HB.out))) | (with_reducible refine Kd.C_alloc ?_ _) | (with_reducible refine Kd.C_drewN ?_ _) | (with_reducible refine Kd.C_drew ?_))); (case side2 => exact HC0_1.out); rintro e w17 ⟨v160, rfl, ho0, hb⟩; refine ⟨_, rfl, ?_⟩; have n0_ := Aside0.mk (Kd.R_lower ho0 (below_size (by repeat (first | (with_reducible first | exact HB.out | apply below_alloc | apply pw_below_drewN | apply below_drew1 | refine below_set ?_ GE156.out) | exact HB.out)))); have n1_ := Aside0.mk (blk_below (g := gb156) (o := .cells #[.int .i64 a0_0, .slice A0_1 l0_1.length c0_1] 28 (0, 0)) (by (with_reducible repeat (first | refine blk_drewN ?_ _ | refine blk_drew ?_ | refine blk_alloc ?_ _)); exact BK156.out) hb); have n2_ := Aside0.mk (below_step (by repeat (first | (with_reducible first | exact HB.out | apply below_alloc | apply pw_below_drewN | apply below_drew1 | refine below_set ?_ GE156.out) | exact HB.out)) hb); clear BK156; clear HB; have HO161 := n0_; have BK156 := n1_; have HB := n2_; clear n0_ n1_ n2_; (try clear hb); (try clear hb2); (try clear hk); (try clear hi); (try clear ho0)) | ((with_reducible refine gate_callee (f := 47) rfl ?_); refine goesL_ (some 27) rfl rfl Tryd.func47 (by kernel_rfl) rfl #[.slice A1 l1.length c1] rfl (by (try simp only [List.map_toArray, List.map_cons, List.map_nil]); first | done | rfl | (simp only [List.length_drop, List.length_take]; rfl)) ?_; (with_reducible refine (liaison_masked.calls k _ _ l1 t162 _ ?side1 ?side2 A12.out).mono ?_); (case side1 => repeat (first | exact (Kd.C_below HR1.out HB.out) | (with_reducible refine Kd.C_alloc ?_ _) | (with_reducible refine Kd.C_drewN ?_ _) | (with_reducible refine Kd.C_drew ?_))); (case side2 => exact HC1.out); rintro e w' ⟨rfl, ⟨nd, rfl⟩⟩; refine ⟨_, rfl, ?_⟩))
        go_ret3
        exact ⟨_, by first | rfl | (simp [errW_none, errW_some] <;> rfl) | (simp [*, errW_none, errW_some] <;> rfl), by (with_reducible repeat (first | apply Kd.R_alloc | apply Kd.R_drewN | apply Kd.R_drew)); exact HO161.out, by repeat (first | (with_reducible first | exact HB.out | apply below_alloc | apply pw_below_drewN | apply below_drew1 | refine below_set ?_ GE156.out) | exact HB.out)⟩
      · rw [if_neg c10] at H
        have c10b0 : (t158 == 0) = false := beq_eq_false_iff_ne.mpr c10
        have c10b1 : (t158 != 0) = true := bne_iff_ne.mpr c10
        simp only [Option.some.injEq, Prod.mk.injEq] at H
        obtain ⟨rfl, rfl, rfl⟩ := H
        go_enter Tryd.func34, Tryd.ntmps34
        go_wp2_with (first | ((with_reducible refine gate_dst (N := 2) rfl ?_); refine box_event ?hg (N := 2) ?hd (cs := #[.int .i64 a0_0, .slice A0_1 l0_1.length c0_1]) (t := 28) ?hr ?_; (case hd => rfl); (case hg => rfl); (case hr => first | (go_simp; done) | (go_simp; rfl)); intro gb156 hg w18 hbox hb; have n0_ := Aside0.mk (below_step (by repeat (first | (with_reducible first | exact HB.out | apply below_alloc | apply pw_below_drewN | apply below_drew1) | exact HB.out)) hb); have n1_ := Aside0.mk (hbox); have n2_ := Aside0.mk ((by rw [hg]; exact (below_size (by repeat (first | (with_reducible first | exact HB.out | apply below_alloc | apply pw_below_drewN | apply below_drew1) | exact HB.out))) : w.heap.size ≤ gb156)); have n3_ := Aside0.mk ((by rw [hg]; exact (below_size (by repeat (first | (with_reducible first | exact HB.out | apply below_alloc | apply pw_below_drewN | apply below_drew1) | exact HB.out))) : w.heap.size ≤ gb156)); clear HB; have HB := n0_; have BK156 := n1_; have GW156 := n2_; have GE156 := n3_; clear n0_ n1_ n2_ n3_; clear hb hbox hg; have hcz19_0 : w18.cell? ⟨gb156, 0, none⟩ = some (.int .i64 a0_0) := (blk_cell BK156.out 0).trans rfl; have hcz19_1 : w18.cell? ⟨gb156, 1, none⟩ = some (.slice A0_1 l0_1.length c0_1) := (blk_cell BK156.out 1).trans rfl; have hfz19_0 := blk_frozen BK156.out 0; have hfz19_1 := blk_frozen BK156.out 1) | ((with_reducible refine gate_callee (f := 45) rfl ?_); refine goesL_ (some 10) rfl rfl Tryd.func45 (by kernel_rfl) rfl #[.agg #[.int .i64 a0_0, .slice A0_1 l0_1.length c0_1]] rfl (by (try simp only [List.map_toArray, List.map_cons, List.map_nil]); first | done | rfl | (simp only [List.length_drop, List.length_take]; rfl)) ?_; (with_reducible refine (liaison_Check.calls k a0_0 _ _ l0_1 t157 _ ?side1 ?side2 A3.out).mono ?_); (case side1 => repeat (first | exact (Kd.C_below HR0_1.out HB.out) | (with_reducible refine Kd.C_alloc ?_ _) | (with_reducible refine Kd.C_drewN ?_ _) | (with_reducible refine Kd.C_drew ?_))); (case side2 => exact HC0_1.out); rintro e w20 ⟨rfl, hb⟩; refine ⟨_, rfl, ?_⟩; have n0_ := Aside0.mk (blk_below (g := gb156) (o := .cells #[.int .i64 a0_0, .slice A0_1 l0_1.length c0_1] 28 (0, 0)) (by (with_reducible repeat (first | refine blk_drewN ?_ _ | refine blk_drew ?_ | refine blk_alloc ?_ _)); exact BK156.out) hb); have n1_ := Aside0.mk (below_step (by repeat (first | (with_reducible first | exact HB.out | apply below_alloc | apply pw_below_drewN | apply below_drew1 | refine below_set ?_ GE156.out) | exact HB.out)) hb); clear BK156; clear HB; have BK156 := n0_; have HB := n1_; clear n0_ n1_; (try clear hb); (try clear hb2); (try clear hk); (try clear hi); have hcz21_0 : w20.cell? ⟨gb156, 0, none⟩ = some (.int .i64 a0_0) := (blk_cell BK156.out 0).trans rfl; have hcz21_1 : w20.cell? ⟨gb156, 1, none⟩ = some (.slice A0_1 l0_1.length c0_1) := (blk_cell BK156.out 1).trans rfl; have hfz21_0 := blk_frozen BK156.out 0; have hfz21_1 := blk_frozen BK156.out 1) | ((with_reducible refine gate_callee (f := 58) rfl ?_); refine goesL_ (some 20) rfl rfl Tryd.func58 (by kernel_rfl) rfl #[.slice A1 l1.length c1, .int .i64 a0_0] rfl (by (try simp only [List.map_toArray, List.map_cons, List.map_nil]); first | done | rfl | (simp only [List.length_drop, List.length_take]; rfl)) ?_; (with_reducible refine (liaison_ordered.calls k _ _ l1 a0_0 t158 _ ?side1 ?side2 A9.out).mono ?_); (case side1 => repeat (first | exact (Kd.C_below HR1.out HB.out) | (with_reducible refine Kd.C_alloc ?_ _) | (with_reducible refine Kd.C_drewN ?_ _) | (with_reducible refine Kd.C_drew ?_))); (case side2 => exact HC1.out); rintro e w' ⟨rfl, ⟨nd, rfl⟩⟩; refine ⟨_, rfl, ?_⟩))
        go_ret3
        exact ⟨_, by first | rfl | (simp [errW_none, errW_some] <;> rfl) | (simp [*, errW_none, errW_some] <;> rfl), by first | exact Kd.R_nil _ _ _ _ _ | exact Kd.N_nil _ _ _ _ _ | exact Kd.V_nil _ _ _ _ _ | exact Kd.Q_nil _ _ _ _ _ | exact Kd.S_nil _ _ _ _ _, by repeat (first | (with_reducible first | exact HB.out | apply below_alloc | apply pw_below_drewN | apply below_drew1 | refine below_set ?_ GE156.out) | exact HB.out)⟩
  · rw [if_neg c4] at H
    have c4b0 : (t157 == 0) = false := beq_eq_false_iff_ne.mpr c4
    have c4b1 : (t157 != 0) = true := bne_iff_ne.mpr c4
    simp only [Option.some.injEq, Prod.mk.injEq] at H
    obtain ⟨rfl, rfl, rfl⟩ := H
    go_enter Tryd.func34, Tryd.ntmps34
    go_wp2_with (first | ((with_reducible refine gate_dst (N := 2) rfl ?_); refine box_event ?hg (N := 2) ?hd (cs := #[.int .i64 a0_0, .slice A0_1 l0_1.length c0_1]) (t := 28) ?hr ?_; (case hd => rfl); (case hg => rfl); (case hr => first | (go_simp; done) | (go_simp; rfl)); intro gb156 hg w22 hbox hb; have n0_ := Aside0.mk (below_step (by repeat (first | (with_reducible first | exact HB.out | apply below_alloc | apply pw_below_drewN | apply below_drew1) | exact HB.out)) hb); have n1_ := Aside0.mk (hbox); have n2_ := Aside0.mk ((by rw [hg]; exact (below_size (by repeat (first | (with_reducible first | exact HB.out | apply below_alloc | apply pw_below_drewN | apply below_drew1) | exact HB.out))) : w.heap.size ≤ gb156)); have n3_ := Aside0.mk ((by rw [hg]; exact (below_size (by repeat (first | (with_reducible first | exact HB.out | apply below_alloc | apply pw_below_drewN | apply below_drew1) | exact HB.out))) : w.heap.size ≤ gb156)); clear HB; have HB := n0_; have BK156 := n1_; have GW156 := n2_; have GE156 := n3_; clear n0_ n1_ n2_ n3_; clear hb hbox hg; have hcz23_0 : w22.cell? ⟨gb156, 0, none⟩ = some (.int .i64 a0_0) := (blk_cell BK156.out 0).trans rfl; have hcz23_1 : w22.cell? ⟨gb156, 1, none⟩ = some (.slice A0_1 l0_1.length c0_1) := (blk_cell BK156.out 1).trans rfl; have hfz23_0 := blk_frozen BK156.out 0; have hfz23_1 := blk_frozen BK156.out 1) | ((with_reducible refine gate_callee (f := 45) rfl ?_); refine goesL_ (some 10) rfl rfl Tryd.func45 (by kernel_rfl) rfl #[.agg #[.int .i64 a0_0, .slice A0_1 l0_1.length c0_1]] rfl (by (try simp only [List.map_toArray, List.map_cons, List.map_nil]); first | done | rfl | (simp only [List.length_drop, List.length_take]; rfl)) ?_; (with_reducible refine (liaison_Check.calls k a0_0 _ _ l0_1 t157 _ ?side1 ?side2 A3.out).mono ?_); (case side1 => repeat (first | exact (Kd.C_below HR0_1.out HB.out) | (with_reducible refine Kd.C_alloc ?_ _) | (with_reducible refine Kd.C_drewN ?_ _) | (with_reducible refine Kd.C_drew ?_))); (case side2 => exact HC0_1.out); rintro e w24 ⟨rfl, hb⟩; refine ⟨_, rfl, ?_⟩; have n0_ := Aside0.mk (blk_below (g := gb156) (o := .cells #[.int .i64 a0_0, .slice A0_1 l0_1.length c0_1] 28 (0, 0)) (by (with_reducible repeat (first | refine blk_drewN ?_ _ | refine blk_drew ?_ | refine blk_alloc ?_ _)); exact BK156.out) hb); have n1_ := Aside0.mk (below_step (by repeat (first | (with_reducible first | exact HB.out | apply below_alloc | apply pw_below_drewN | apply below_drew1 | refine below_set ?_ GE156.out) | exact HB.out)) hb); clear BK156; clear HB; have BK156 := n0_; have HB := n1_; clear n0_ n1_; (try clear hb); (try clear hb2); (try clear hk); (try clear hi)))
    go_ret3
    exact ⟨_, by first | rfl | (simp [errW_none, errW_some] <;> rfl) | (simp [*, errW_none, errW_some] <;> rfl), by first | exact Kd.R_nil _ _ _ _ _ | exact Kd.N_nil _ _ _ _ _ | exact Kd.V_nil _ _ _ _ _ | exact Kd.Q_nil _ _ _ _ _ | exact Kd.S_nil _ _ _ _ _, by repeat (first | (with_reducible first | exact HB.out | apply below_alloc | apply pw_below_drewN | apply below_drew1 | refine below_set ?_ GE156.out) | exact HB.out)⟩
end
end Go.Proofs.YtbghfbhlbfcloaaDoor.PL
namespace Go.Proofs.YtbghfbhlbfcloaaDoor.PL
section
set_option linter.unusedVariables false
set_option linter.unusedSimpArgs false
open Go.RowKit Go.Proofs.YtbghfbhlbfcloaaDoorW.PrintWords Go.Proofs.YtbghfbhlbfcloaaDoorW.PrintLast Go.Proofs.YtbghfbhlbfcloaaDoorW.PrintMore

/-! ### the pairs -/
def tb (x : Int) (j : Nat) : Bool := decide (Go.bits .and .u16 (shr .u16 x (j : Int)) 1 = 1)
def row (t : Nat → Bool) (x4 x5 x6 : Nat) : Nat → List S68
  | 0 => []
  | c + 1 => (if t x4 = true then [⟨(x6 : Int), (x5 : Int)⟩, ⟨(x5 : Int), (x6 : Int)⟩] else []) ++ row t (x4 + 1) x5 (x6 + 1) c
theorem row_len (t : Nat → Bool) : ∀ (c x4 x5 x6 : Nat), (row t x4 x5 x6 c).length ≤ 2 * c
  | 0, _, _, _ => by simp [row]
  | c + 1, x4, x5, x6 => by
    have := row_len t c (x4 + 1) x5 (x6 + 1)
    unfold row
    rw [List.length_append]
    split
    · simp only [List.length_cons, List.length_nil]; omega
    · simp only [List.length_nil]; omega
theorem pairs_l1 (x0 : Int) (x5 : Nat) (h5 : x5 < 10) : ∀ (c x4 x6 : Nat) (x3 : List S68), x6 + c = x5 → x4 + c < 100 → x3.length + 2 * c < 1000 → ∀ k, c < k →
    dowellaw29_pairs.l1 k x0 x3 (x4 : Int) (x5 : Int) (x6 : Int) = dowellaw29_pairs.l0 (k - c - 1) x0 (x3 ++ row (tb x0) x4 x5 x6 c) ((x4 + c : Nat) : Int) ((x5 + 1 : Nat) : Int)
  | 0, x4, x6, x3, he, h4, h3, k, hk => by
    obtain ⟨k, rfl⟩ : ∃ q, k = q + 1 := ⟨k - 1, by omega⟩
    rw [dowellaw29_pairs.l1, if_neg (by omega), wr1 x5 (by omega)]
    simp [row]
  | c + 1, x4, x6, x3, he, h4, h3, k, hk => by
    obtain ⟨k, rfl⟩ : ∃ q, k = q + 1 := ⟨k - 1, by omega⟩
    rw [dowellaw29_pairs.l1, if_pos (by omega), if_pos (by omega), wr1 x4 (by omega), wr1 x6 (by omega)]
    have e : k + 1 - (c + 1) - 1 = k - c - 1 := by omega
    have e2 : x4 + 1 + c = x4 + (c + 1) := by omega
    by_cases ht : Go.bits .and .u16 (shr .u16 x0 (x4 : Int)) 1 = 1
    · have htb : tb x0 x4 = true := decide_eq_true ht
      rw [if_pos ht, Option.bind_some, if_pos (by simp; omega)]
      have ih := pairs_l1 x0 x5 h5 c (x4 + 1) (x6 + 1) (x3 ++ [⟨(x6 : Int), (x5 : Int)⟩, ⟨(x5 : Int), (x6 : Int)⟩]) (by omega) (by omega) (by simp; omega) k (by omega)
      rw [ih, row, if_pos htb, List.append_assoc, e, e2]
    · have htb : tb x0 x4 = false := decide_eq_false ht
      rw [if_neg ht]
      have ih := pairs_l1 x0 x5 h5 c (x4 + 1) (x6 + 1) x3 (by omega) (by omega) (by omega) k (by omega)
      rw [ih, row, htb, if_neg (by decide), e, e2]
      rfl
def U (t : Nat → Bool) : List S68 := row t 0 1 0 1 ++ row t 1 2 0 2 ++ row t 3 3 0 3 ++ row t 6 4 0 4 ++ row t 10 5 0 5
theorem U_len (t : Nat → Bool) : (U t).length ≤ 30 := by
  have h1 := row_len t 1 0 1 0
  have h2 := row_len t 2 1 2 0
  have h3 := row_len t 3 3 3 0
  have h4 := row_len t 4 6 4 0
  have h5 := row_len t 5 10 5 0
  unfold U
  simp only [List.length_append]
  omega
theorem pairs_make (x0 : Int) (k : Nat) (hk : 60 ≤ k) : dowellaw29_pairs.f k x0 = (graph_Make.f 6 (U (tb x0))).bind fun t => some (t.1, t.2.1) := by
  obtain ⟨k, rfl⟩ : ∃ q, k = q + 60 := ⟨k - 60, by omega⟩
  have h1 := row_len (tb x0) 1 0 1 0
  have h2 := row_len (tb x0) 2 (0 + 1) (1 + 1) 0
  have h3 := row_len (tb x0) 3 (0 + 1 + 2) (1 + 1 + 1) 0
  have h4 := row_len (tb x0) 4 (0 + 1 + 2 + 3) (1 + 1 + 1 + 1) 0
  have st (k x3 x4 x5) (h : x5 < 6) : dowellaw29_pairs.l0 (k + 1) x0 x3 (x4 : Int) ((x5 : Nat) : Int) = dowellaw29_pairs.l1 k x0 x3 x4 ((x5 : Nat) : Int) ((0 : Nat) : Int) := by
    rw [dowellaw29_pairs.l0, if_pos (by omega)]
    rfl
  have e0 : dowellaw29_pairs.f (k + 60) x0 = dowellaw29_pairs.l0 (k + 60) x0 [] ((0 : Nat) : Int) ((1 : Nat) : Int) := rfl
  rw [e0, st _ _ _ 1 (by omega), pairs_l1 x0 1 (by omega) 1 0 0 [] (by omega) (by omega) (by simp) _ (by omega)]
  rw [show k + 59 - 1 - 1 = (k + 56) + 1 by omega, st _ _ _ (1 + 1) (by omega), pairs_l1 x0 (1 + 1) (by omega) 2 (0 + 1) 0 _ (by omega) (by omega) (by simp; omega) _ (by omega)]
  rw [show k + 56 - 2 - 1 = (k + 52) + 1 by omega, st _ _ _ (1 + 1 + 1) (by omega), pairs_l1 x0 (1 + 1 + 1) (by omega) 3 (0 + 1 + 2) 0 _ (by omega) (by omega) (by simp only [List.length_append, List.nil_append]; omega) _ (by omega)]
  rw [show k + 52 - 3 - 1 = (k + 47) + 1 by omega, st _ _ _ (1 + 1 + 1 + 1) (by omega), pairs_l1 x0 (1 + 1 + 1 + 1) (by omega) 4 (0 + 1 + 2 + 3) 0 _ (by omega) (by omega) (by simp only [List.length_append, List.nil_append]; omega) _ (by omega)]
  rw [show k + 47 - 4 - 1 = (k + 41) + 1 by omega, st _ _ _ (1 + 1 + 1 + 1 + 1) (by omega), pairs_l1 x0 (1 + 1 + 1 + 1 + 1) (by omega) 5 (0 + 1 + 2 + 3 + 4) 0 _ (by omega) (by omega) (by simp only [List.length_append, List.nil_append]; omega) _ (by omega)]
  rw [show k + 41 - 5 - 1 = (k + 34) + 1 by omega, dowellaw29_pairs.l0, if_neg (by decide)]
  rfl
theorem row_sub (t : Nat → Bool) : ∀ (c x4 x5 x6 : Nat), (row t x4 x5 x6 c).Sublist (row (fun _ => true) x4 x5 x6 c)
  | 0, _, _, _ => List.Sublist.refl _
  | c + 1, x4, x5, x6 => by
    unfold row
    refine List.Sublist.append ?_ (row_sub t c _ _ _)
    split
    · exact List.Sublist.refl _
    · exact List.nil_sublist _
theorem U_sub (t : Nat → Bool) : (U t).Sublist (U fun _ => true) := by
  unfold U
  exact List.Sublist.append (List.Sublist.append (List.Sublist.append (List.Sublist.append (row_sub t _ _ _ _) (row_sub t _ _ _ _)) (row_sub t _ _ _ _)) (row_sub t _ _ _ _)) (row_sub t _ _ _ _)
theorem U_full : (nodupE (U fun _ => true) && (U fun _ => true).all (okE 6) && (U fun _ => true).all (fun e => !(e.f0 == e.f1))) = true := by kernel_rfl
theorem nodupE_of : ∀ l : List S68, (l.Pairwise fun a b => ¬ (a.f0 = b.f0 ∧ a.f1 = b.f1)) → nodupE l = true
  | [], _ => rfl
  | a :: r, h => by
    unfold nodupE
    rw [nodupE_of r (List.Pairwise.of_cons h), Bool.and_true, List.all_eq_true]
    intro b hb
    have h1 := List.rel_of_pairwise_cons h hb
    simp only [Bool.not_eq_true', Bool.and_eq_false_iff, beq_eq_false_iff_ne]
    by_cases e : a.f0 = b.f0
    · exact .inr (fun e2 => h1 ⟨e, e2⟩)
    · exact .inl e
theorem U_nodup (t : Nat → Bool) : nodupE (U t) = true := by
  have h := U_full
  simp only [Bool.and_eq_true] at h
  exact nodupE_of _ ((nodupE_pair _ h.1.1).sublist (U_sub t))
theorem U_ok (t : Nat → Bool) : (U t).all (okE 6) = true := by
  have h := U_full
  simp only [Bool.and_eq_true] at h
  exact List.all_eq_true.2 fun e he => List.all_eq_true.1 h.1.2 e ((U_sub t).subset he)
theorem U_loop (t : Nat → Bool) (e : S68) (he : e ∈ U t) : e.f0 ≠ e.f1 := by
  have h := U_full
  simp only [Bool.and_eq_true] at h
  have := List.all_eq_true.1 h.2 e ((U_sub t).subset he)
  simpa using this
theorem row_sym (t : Nat → Bool) (a b : Int) : ∀ (c x4 x5 x6 : Nat), (⟨a, b⟩ : S68) ∈ row t x4 x5 x6 c → (⟨b, a⟩ : S68) ∈ row t x4 x5 x6 c
  | 0, _, _, _, h => by simp [row] at h
  | c + 1, x4, x5, x6, h => by
    unfold row at h ⊢
    rw [List.mem_append] at h ⊢
    rcases h with h | h
    · split at h
      · rename_i ht
        rw [if_pos ht]
        simp only [List.mem_cons, List.not_mem_nil, or_false, S68.mk.injEq] at h ⊢
        rcases h with ⟨rfl, rfl⟩ | ⟨rfl, rfl⟩ <;> simp
      · simp at h
    · exact .inr (row_sym t a b c _ _ _ h)
theorem U_sym (t : Nat → Bool) (a b : Int) (h : (⟨a, b⟩ : S68) ∈ U t) : (⟨b, a⟩ : S68) ∈ U t := by
  unfold U at h ⊢
  simp only [List.mem_append] at h ⊢
  rcases h with (((h | h) | h) | h) | h
  · exact .inl (.inl (.inl (.inl (row_sym t a b _ _ _ _ h))))
  · exact .inl (.inl (.inl (.inr (row_sym t a b _ _ _ _ h))))
  · exact .inl (.inl (.inr (row_sym t a b _ _ _ _ h)))
  · exact .inl (.inr (row_sym t a b _ _ _ _ h))
  · exact .inr (row_sym t a b _ _ _ _ h)
/-- The graph's edges. -/
def Eg (t : Nat → Bool) : List S68 := sortE (U t)
theorem make_f (t : Nat → Bool) : graph_Make.f 6 (U t) = some (6, Eg t, 0) := by
  have hl := U_len t
  show MK.f 6 (U t) = _
  unfold MK.f
  rw [if_pos ⟨by decide, by decide, U_ok t, by omega, U_nodup t⟩]
  rfl
theorem pairs_f (x0 : Int) (k : Nat) (hk : 60 ≤ k) : dowellaw29_pairs.f k x0 = some (6, Eg (tb x0)) := by
  rw [pairs_make x0 k hk, make_f]
  rfl
theorem Eg_mem (t : Nat → Bool) (e : S68) : e ∈ Eg t ↔ e ∈ U t := (isort_perm (leC ordE) (U t)).mem_iff
theorem Eg_len (t : Nat → Bool) : (Eg t).length ≤ 30 := by
  have := (isort_perm (leC ordE) (U t)).length_eq
  have h := U_len t
  unfold Eg sortE
  omega

/-! ### graph.Check, liaison.Check -/
theorem ordE_of {x y : S68} (h : ¬ ordE y x < 0) (hne : ¬ (x.f0 = y.f0 ∧ x.f1 = y.f1)) : ordE x y < 0 := by
  unfold ordE at h ⊢
  split at h <;> (try split at h) <;> (try split at h) <;> (try split at h) <;> split <;> (try split) <;> (try split) <;> (try split) <;> omega
theorem Eg_pair (t : Nat → Bool) : (Eg t).Pairwise fun x y => ordE x y < 0 := by
  have ht : ∀ a b c, leC ordE a b = true → leC ordE b c = true → leC ordE a c = true := by
    intro a b c h1 h2
    have := ordE_swo.ntrans c b a (by simpa [leC, ltOf] using h2) (by simpa [leC, ltOf] using h1)
    simpa [leC, ltOf] using this
  have htot : ∀ a b, (leC ordE a b || leC ordE b a) = true := by
    intro a b
    have l1 := ordE_lt a b
    have l2 := ordE_lt b a
    unfold ltOf at l1 l2
    unfold leC
    rw [l1, l2]
    by_cases h1 : (a.f0 < b.f0 ∨ a.f0 = b.f0 ∧ a.f1 < b.f1)
    · rw [decide_eq_true h1, decide_eq_false (by omega)]; rfl
    · rw [decide_eq_false h1]; simp
  have h1 := isort_pair (leC ordE) ht htot (U t)
  have h2 : (isort (leC ordE) (U t)).Pairwise fun a b => ¬ (a.f0 = b.f0 ∧ a.f1 = b.f1) :=
    ((isort_perm (leC ordE) (U t)).pairwise_iff (fun h e => h ⟨e.1.symm, e.2.symm⟩)).2 (nodupE_pair _ (U_nodup t))
  exact (h1.and h2).imp fun h => ordE_of (by simpa [leC] using h.1) h.2
theorem Eg_ok (t : Nat → Bool) (e : S68) (he : e ∈ Eg t) : 0 ≤ e.f0 ∧ e.f0 < 6 ∧ 0 ≤ e.f1 ∧ e.f1 < 6 := by
  have h := List.all_eq_true.1 (U_ok t) e ((Eg_mem t e).1 he)
  simp only [okE, Bool.and_eq_true, decide_eq_true_eq] at h
  exact ⟨h.1.1, h.1.2, h.2.1, h.2.2⟩
theorem check_l0 (E : List S68) (hE : ∀ e ∈ E, 0 ≤ e.f0 ∧ e.f0 < 6 ∧ 0 ≤ e.f1 ∧ e.f1 < 6) (hl : E.length < 1000) : ∀ (c i : Nat), i + c = E.length → ∀ k, c < k → graph_Check.l0 k E (E.length : Int) (i : Int) 6 E = graph_Check.l1 (k - c - 1) 1 6 E
  | 0, i, hi, k, hk => by
    obtain ⟨k, rfl⟩ : ∃ q, k = q + 1 := ⟨k - 1, by omega⟩
    rw [graph_Check.l0, if_neg (by omega)]
    rfl
  | c + 1, i, hi, k, hk => by
    obtain ⟨k, rfl⟩ : ∃ q, k = q + 1 := ⟨k - 1, by omega⟩
    have h := hE E[i] (List.getElem_mem (by omega))
    have hb : ∀ z : Int, 0 ≤ z → z < 6 → graph_beyond.f 6 z = some false := by
      intro z h0 h1
      unfold graph_beyond.f
      rw [if_neg (by omega), decide_eq_false (by omega)]
    rw [graph_Check.l0, if_pos (by omega), if_pos (by omega), if_pos (by omega), rdE E i (by omega), hb _ h.1 h.2.1, Option.bind_some, if_neg (by decide), hb _ h.2.2.1 h.2.2.2, Option.bind_some, if_neg (by decide), wr1 i (by omega), check_l0 E hE hl c (i + 1) (by omega) k (by omega), show k + 1 - (c + 1) - 1 = k - c - 1 by omega]
theorem wm1 (i : Nat) (h : i < 1000000) : wrap64 (((i + 1 : Nat) : Int) - 1) = (i : Int) := by unfold wrap64; omega
theorem check_l1 (E : List S68) (hE : E.Pairwise fun x y => ordE x y < 0) (hl : E.length < 1000) : ∀ (c i : Nat), i + 1 + c = E.length ∨ (c = 0 ∧ E.length ≤ i + 1) → ∀ k, c + 5 < k → graph_Check.l1 k ((i + 1 : Nat) : Int) 6 E = some 0
  | 0, i, hi, k, hk => by
    obtain ⟨k, rfl⟩ : ∃ q, k = q + 1 := ⟨k - 1, by omega⟩
    rw [graph_Check.l1, if_neg (by omega)]
  | c + 1, i, hi, k, hk => by
    have hlt : i + 1 < E.length := by omega
    obtain ⟨k, rfl⟩ : ∃ q, k = q + 5 := ⟨k - 5, by omega⟩
    have h := List.pairwise_iff_getElem.1 hE i (i + 1) (by omega) hlt (by omega)
    rw [graph_Check.l1, if_pos (by omega), wm1 i (by omega), if_pos (by omega), if_pos (by omega), if_pos (by omega), rdE E i (by omega), rdE E (i + 1) hlt, order_f, Option.bind_some, if_neg (by omega), wr1 (i + 1) (by omega), check_l1 E hE hl c (i + 1) (by omega) (k + 4) (by omega)]
theorem gcheck_f (t : Nat → Bool) (k : Nat) (hk : 100 ≤ k) : graph_Check.f k 6 (Eg t) = some 0 := by
  have hl := Eg_len t
  obtain ⟨k, rfl⟩ : ∃ q, k = q + 1 := ⟨k - 1, by omega⟩
  unfold graph_Check.f
  rw [if_neg (by decide), graph_Check.j0, decide_eq_false (by decide), if_neg (by decide), if_neg (by
    rw [show wrap64 ((6 : Int) * 6) = 36 by simp [wrap64]]; omega)]
  have h0 := check_l0 (Eg t) (Eg_ok t) (by omega) (Eg t).length 0 (by omega) k (by omega)
  have h0' : graph_Check.l0 k (Eg t) ((Eg t).length : Int) 0 6 (Eg t) = graph_Check.l1 (k - (Eg t).length - 1) 1 6 (Eg t) := h0
  rw [h0']
  have h1 := check_l1 (Eg t) (Eg_pair t) (by omega) ((Eg t).length - 1) 0 (by omega) (k - (Eg t).length - 1) (by omega)
  exact h1
theorem e93_l (E : List S68) (a b : Int) (hl : E.length < 1000) : ∀ (c i : Nat), i + c = E.length → (⟨a, b⟩ : S68) ∈ E.drop i → ∀ k, c < k → ∃ r : Nat, graph_Edge_93.l0 k E (E.length : Int) (i : Int) a b = some (r : Int)
  | 0, i, hi, hm, k, hk => by rw [List.drop_eq_nil_of_le (by omega)] at hm; simp at hm
  | c + 1, i, hi, hm, k, hk => by
    obtain ⟨k, rfl⟩ : ∃ q, k = q + 1 := ⟨k - 1, by omega⟩
    have hlt : i < E.length := by omega
    rw [graph_Edge_93.l0, if_pos (by omega), if_pos (by omega), if_pos (by omega), rdE E i hlt]
    by_cases he : (a == E[i].f0 && (b == E[i].f1)) = true
    · rw [if_pos he]
      exact ⟨i, rfl⟩
    · rw [if_neg he, wr1 i (by omega)]
      refine e93_l E a b hl c (i + 1) (by omega) ?_ k (by omega)
      rw [List.drop_eq_getElem_cons hlt] at hm
      rcases List.mem_cons.1 hm with h | h
      · exfalso
        apply he
        rw [← h]
        simp
      · exact h
theorem lcheck_l (t : Nat → Bool) : ∀ (c i : Nat), i + c = (Eg t).length → ∀ k, c + 60 < k → liaison_Check.l0 k (Eg t) ((Eg t).length : Int) (i : Int) 6 (Eg t) = some 0
  | 0, i, hi, k, hk => by
    obtain ⟨k, rfl⟩ : ∃ q, k = q + 1 := ⟨k - 1, by omega⟩
    rw [liaison_Check.l0, if_neg (by omega)]
  | c + 1, i, hi, k, hk => by
    obtain ⟨k, rfl⟩ : ∃ q, k = q + 1 := ⟨k - 1, by omega⟩
    have hl := Eg_len t
    have hlt : i < (Eg t).length := by omega
    have hm := List.getElem_mem hlt
    have hloop := U_loop t _ ((Eg_mem t _).1 hm)
    have hsym : (⟨(Eg t)[i].f1, (Eg t)[i].f0⟩ : S68) ∈ Eg t := (Eg_mem t _).2 (U_sym t _ _ ((Eg_mem t _).1 hm))
    obtain ⟨r, hr⟩ := e93_l (Eg t) (Eg t)[i].f1 (Eg t)[i].f0 (by omega) (Eg t).length 0 (by omega) hsym k (by omega)
    have h73 : graph_Edge_73.f k (Eg t) (Eg t)[i].f1 (Eg t)[i].f0 = some true := by
      unfold graph_Edge_73.f graph_Edge_93.f
      rw [show graph_Edge_93.l0 k (Eg t) ((Eg t).length : Int) 0 (Eg t)[i].f1 (Eg t)[i].f0 = some (r : Int) from hr, Option.bind_some, decide_eq_true (by omega)]
    rw [liaison_Check.l0, if_pos (by omega), if_pos (by omega), if_pos (by omega), rdE (Eg t) i hlt, if_neg hloop, h73, Option.bind_some, if_pos rfl, wr1 i (by omega), lcheck_l t c (i + 1) (by omega) k (by omega)]
theorem lcheck_f (t : Nat → Bool) (k : Nat) (hk : 100 ≤ k) : liaison_Check.f k 6 (Eg t) = some 0 := by
  have hl := Eg_len t
  unfold liaison_Check.f
  rw [gcheck_f t k hk, Option.bind_some, if_pos rfl, if_neg (by decide)]
  exact lcheck_l t (Eg t).length 0 (by omega) k (by omega)

/-! ### the masks -/
theorem shl_tab : ((List.range 6).all fun i => shl .u64 1 (i : Int) == ((2 ^ i : Nat) : Int)) = true := by kernel_rfl
theorem shl_f (i : Nat) (hi : i < 6) : shl .u64 1 (i : Int) = ((2 ^ i : Nat) : Int) := by
  have h := List.all_eq_true.1 shl_tab i (List.mem_range.2 hi)
  simpa using h
theorem LI_len {A : List Nat} (h : Gd A) : (LI A).length = 6 := by unfold LI; rw [List.length_map]; exact h.1
theorem ad_set {A : List Nat} (h : Gd A) (i v a b : Nat) (hi : i < 6) : ad (A.set i v) a b = if a = i then v.testBit b else ad A a b := by
  unfold ad
  rw [List.getD_eq_getElem?_getD, List.getD_eq_getElem?_getD, List.getElem?_set]
  have := h.1
  by_cases e : i = a
  · rw [if_pos e, if_pos e.symm, if_pos (by omega)]; rfl
  · rw [if_neg e, if_neg (fun e2 => e e2.symm)]
theorem linked_l (E : List S68) (hE : ∀ e ∈ E, 0 ≤ e.f0 ∧ e.f0 < 6 ∧ 0 ≤ e.f1 ∧ e.f1 < 6) (hl : E.length < 1000) : ∀ (c i : Nat) (B : List Nat), i + c = E.length → Gd B → ∀ k, c < k →
    ∃ A, Gd A ∧ liaison_linked.l0 k (LI B) E (E.length : Int) (i : Int) = some (LI A) ∧ ∀ a b, a < 6 → b < 6 → (ad A a b = true ↔ ad B a b = true ∨ (⟨(a : Int), (b : Int)⟩ : S68) ∈ E.drop i)
  | 0, i, B, hi, hB, k, hk => by
    obtain ⟨k, rfl⟩ : ∃ q, k = q + 1 := ⟨k - 1, by omega⟩
    refine ⟨B, hB, by rw [liaison_linked.l0, if_neg (by omega)], fun a b _ _ => ?_⟩
    rw [List.drop_eq_nil_of_le (by omega)]
    simp
  | c + 1, i, B, hi, hB, k, hk => by
    obtain ⟨k, rfl⟩ : ∃ q, k = q + 1 := ⟨k - 1, by omega⟩
    have hlt : i < E.length := by omega
    obtain ⟨h0, h1, h2, h3⟩ := hE E[i] (List.getElem_mem hlt)
    obtain ⟨u, hu⟩ : ∃ u : Nat, E[i].f0 = (u : Int) := ⟨E[i].f0.toNat, by omega⟩
    obtain ⟨v, hv⟩ : ∃ v : Nat, E[i].f1 = (v : Int) := ⟨E[i].f1.toNat, by omega⟩
    have hu6 : u < 6 := by omega
    have hv6 : v < 6 := by omega
    have hBu := hB.lt u
    have h2v : 2 ^ v < 64 := Nat.pow_lt_pow_right (m := v) (n := 6) (by decide) hv6
    have hG : Gd (B.set u (B.getD u 0 ||| 2 ^ v)) := ⟨by rw [List.length_set]; exact hB.1, fun a ha => by
      rcases List.mem_or_eq_of_mem_set ha with h | h
      · exact hB.2 a h
      · rw [h]; exact Nat.or_lt_two_pow (n := 6) hBu h2v⟩
    obtain ⟨A, hA, hf, hb⟩ := linked_l E hE hl c (i + 1) (B.set u (B.getD u 0 ||| 2 ^ v)) (by omega) hG k (by omega)
    have hset : (LI B).set u (((B.getD u 0 ||| 2 ^ v : Nat)) : Int) = LI (B.set u (B.getD u 0 ||| 2 ^ v)) := by
      unfold LI
      rw [List.map_set]
    refine ⟨A, hA, ?_, fun a b ha hb' => ?_⟩
    · rw [liaison_linked.l0, if_pos (by omega), if_pos (by omega), if_pos (by omega), rdE E i hlt, hu, hv, if_pos (by omega), if_pos (by rw [LI_len hB]; omega), if_pos (by omega), rdL hB u hu6, shl_f v hv6, orI _ _ hBu h2v, Int.toNat_natCast, hset, wr1 i (by omega)]
      exact hf
    · rw [hb a b ha hb', ad_set hB u _ a b hu6, List.drop_eq_getElem_cons hlt, List.mem_cons]
      have heq : (⟨(a : Int), (b : Int)⟩ : S68) = E[i] ↔ a = u ∧ b = v := by
        constructor
        · intro e
          have e1 : (a : Int) = E[i].f0 := by rw [← e]
          have e2 : (b : Int) = E[i].f1 := by rw [← e]
          exact ⟨by omega, by omega⟩
        · rintro ⟨rfl, rfl⟩
          exact extE (by rw [hu]) (by rw [hv])
      rw [heq]
      by_cases e : a = u
      · rw [if_pos e, Nat.testBit_or, Nat.testBit_two_pow, Bool.or_eq_true, decide_eq_true_eq]
        subst e
        constructor
        · rintro ((h | h) | h)
          · exact .inl h
          · exact .inr (.inl ⟨rfl, h.symm⟩)
          · exact .inr (.inr h)
        · rintro (h | ⟨_, h⟩ | h)
          · exact .inl (.inl h)
          · exact .inl (.inr h.symm)
          · exact .inr h
      · rw [if_neg e]
        constructor
        · rintro (h | h)
          · exact .inl h
          · exact .inr (.inr h)
        · rintro (h | ⟨h, _⟩ | h)
          · exact .inl h
          · exact absurd h e
          · exact .inr h
theorem linked_f (t : Nat → Bool) (k : Nat) (hk : 100 ≤ k) : ∃ A, Gd A ∧ liaison_linked.f k 6 (Eg t) = some (LI A) ∧ Ed A (Eg t) ∧ ∀ a b, a < 6 → b < 6 → ad A a b = ad A b a := by
  have hl := Eg_len t
  have hz : Gd [0, 0, 0, 0, 0, 0] := ⟨rfl, fun a ha => by simp at ha; omega⟩
  obtain ⟨A, hA, hf, hb⟩ := linked_l (Eg t) (Eg_ok t) (by omega) (Eg t).length 0 [0, 0, 0, 0, 0, 0] (by omega) hz k (by omega)
  have hb' : ∀ a b, a < 6 → b < 6 → (ad A a b = true ↔ (⟨(a : Int), (b : Int)⟩ : S68) ∈ Eg t) := by
    intro a b ha hb1
    rw [hb a b ha hb1, List.drop_zero]
    constructor
    · rintro (h | h)
      · exfalso
        have : ad [0, 0, 0, 0, 0, 0] a b = false := by
          unfold ad
          have : a = 0 ∨ a = 1 ∨ a = 2 ∨ a = 3 ∨ a = 4 ∨ a = 5 := by omega
          rcases this with rfl | rfl | rfl | rfl | rfl | rfl <;> simp
        rw [this] at h
        cases h
      · exact h
    · exact .inr
  refine ⟨A, hA, ?_, ⟨by omega, fun a b ha hb1 => ?_⟩, fun a b ha hb1 => ?_⟩
  · unfold liaison_linked.f
    rw [if_pos (by decide), if_pos (by decide)]
    exact hf
  · have := hb' a b ha hb1
    cases e : ad A a b with
    | true => exact decide_eq_true (this.1 e)
    | false => exact decide_eq_false (fun h => by rw [this.2 h] at e; cases e)
  · have h1 := hb' a b ha hb1
    have h2 := hb' b a hb1 ha
    cases e : ad A a b with
    | true => exact (h2.2 ((Eg_mem t _).2 (U_sym t _ _ ((Eg_mem t _).1 (h1.1 e))))).symm
    | false =>
      cases e2 : ad A b a with
      | false => rfl
      | true =>
        rw [h1.2 ((Eg_mem t _).2 (U_sym t _ _ ((Eg_mem t _).1 (h2.1 e2))))] at e
        cases e
theorem ordered_tab : ((List.range 64).all fun m => liaison_ordered.f 20 (EI m) 6 == some 0) = true := by kernel_rfl
theorem ordered_f (k : Nat) (hk : 20 ≤ k) (m : Nat) (hm : m < 64) : liaison_ordered.f k (EI m) 6 = some 0 := by
  have h := List.all_eq_true.1 ordered_tab m (List.mem_range.2 hm)
  exact up (fun k => liaison_ordered.mono (EI m) 6 k) (by simpa using h) k hk
theorem masked_tab : ((List.range 64).all fun m => liaison_masked.f 20 (EI m) == some (m : Int)) = true := by kernel_rfl
theorem masked_f (k : Nat) (hk : 20 ≤ k) (m : Nat) (hm : m < 64) : liaison_masked.f k (EI m) = some (m : Int) := by
  have h := List.all_eq_true.1 masked_tab m (List.mem_range.2 hm)
  exact up (fun k => liaison_masked.mono (EI m) k) (by simpa using h) k hk
theorem EI_pos {m : Nat} (hm : m < 64) (h0 : m ≠ 0) : 0 < (EI m).length := by
  obtain ⟨_, l2, l3, l4⟩ := lo_f m hm h0
  unfold EI
  rw [List.length_map]
  exact List.length_pos_of_mem (El_mem.2 ⟨l3, l2⟩)
theorem opened_f (t : Nat → Bool) (A : List Nat) (m k : Nat) (hm : m < 64) (h0 : m ≠ 0) (hk : 100 ≤ k) (hA : liaison_linked.f k 6 (Eg t) = some (LI A)) : liaison_opened.f k 6 (Eg t) (EI m) = some (LI A, (m : Int), 0) := by
  have hp := EI_pos hm h0
  unfold liaison_opened.f
  rw [lcheck_f t k hk, Option.bind_some, if_pos rfl, if_neg (by omega), ordered_f k (by omega) m hm, Option.bind_some, if_pos rfl, hA, Option.bind_some, masked_f k (by omega) m hm, Option.bind_some]
end
end Go.Proofs.YtbghfbhlbfcloaaDoor.PL
namespace Go.Proofs.YtbghfbhlbfcloaaDoor.PL
section
open Go.RowKit Go.Proofs.YtbghfbhlbfcloaaDoorW.PrintWords Go.Proofs.YtbghfbhlbfcloaaDoorW.PrintLast Go.Proofs.YtbghfbhlbfcloaaDoorW.PrintMore
attribute [local go_sem] max2_int min2_int max_two min_two max_three min_three max_four min_four   -- for this text's walks alone
set_option linter.unusedVariables false
set_option linter.unusedSimpArgs false
/-! ### dowellaw29_pieces: function 22 -/
def dowellaw29_pieces.l0 : Nat → List Int → List (List Int) → Int → List (S68) → Option ((List (List Int)))
  | 0, _, _, _, _ => none
  | k + 1, x1, x5, x379000, x379001 => if (x1.length : Int) > 0 then ((dowellaw29_piece.f k x379000 x379001 x1).bind fun t379 => (if x5.length < 5864062014805 then ((dowellaw29_without.f k x1 t379).bind fun t385 => (dowellaw29_pieces.l0 k t385 (x5 ++ [t379]) x379000 x379001)) else (none))) else (some x5)
def dowellaw29_pieces.f (k : Nat) (a0_0 : Int) (l0_1 : List (S68)) (l1 : List Int) : Option ((List (List Int))) := dowellaw29_pieces.l0 k l1 ([] : List (List Int)) a0_0 l0_1
theorem dowellaw29_pieces.mono_l : ∀ k, (∀ y0 y1 y2 y3, LeO (dowellaw29_pieces.l0 k y0 y1 y2 y3) (dowellaw29_pieces.l0 (k + 1) y0 y1 y2 y3))
  | 0 => fun _ _ _ _ r h => by simp [dowellaw29_pieces.l0] at h
  | k + 1 => by
    have ih0 := dowellaw29_pieces.mono_l k
    · intro y0 y1 y2 y3
      unfold dowellaw29_pieces.l0
      repeat' first
      | (with_reducible exact ih0 _ _ _ _)
      | (with_reducible exact dowellaw29_piece.mono _ _ _ _)
      | (with_reducible exact dowellaw29_without.mono _ _ _)
      | (with_reducible exact LeO.refl _)
      | (with_reducible exact LeO.none _)
      | (with_reducible refine LeO.ite ?_ ?_)
      | (with_reducible refine LeO.bind ?_ (fun _ => ?_))
      | exact ih0 _ _ _ _
      | exact dowellaw29_piece.mono _ _ _ _
      | exact dowellaw29_without.mono _ _ _
      | exact LeO.none _
      | refine LeO.ite ?_ ?_
      | refine LeO.bind ?_ (fun _ => ?_)
theorem dowellaw29_pieces.mono : ∀ a0 a1 a2 k, LeO (dowellaw29_pieces.f k a0 a1 a2) (dowellaw29_pieces.f (k + 1) a0 a1 a2) := by
  intro a0 a1 a2 k
  have ih0 := dowellaw29_pieces.mono_l k
  unfold dowellaw29_pieces.f
  repeat' first
      | (with_reducible exact ih0 _ _ _ _)
      | (with_reducible exact dowellaw29_piece.mono _ _ _ _)
      | (with_reducible exact dowellaw29_without.mono _ _ _)
      | (with_reducible exact LeO.refl _)
      | (with_reducible exact LeO.none _)
      | (with_reducible refine LeO.ite ?_ ?_)
      | (with_reducible refine LeO.bind ?_ (fun _ => ?_))
      | exact ih0 _ _ _ _
      | exact dowellaw29_piece.mono _ _ _ _
      | exact dowellaw29_without.mono _ _ _
      | exact LeO.none _
      | refine LeO.ite ?_ ?_
      | refine LeO.bind ?_ (fun _ => ?_)
set_option maxHeartbeats 8000000 in
set_option maxRecDepth 100000 in
theorem dowellaw29_pieces.calls (k : Nat) (a0_0 : Int) (A0_1 : Option Addr) (c0_1 : Nat) (l0_1 : List (S68)) (P1_ : Nat → Prop) (A1 : Option Addr) (c1 : Nat) (l1 : List Int) (r : List (List Int)) (w : World) (hr0_1 : Kd.C k68 w A0_1 l0_1.length l0_1) (hc0_1 : l0_1.length ≤ c0_1) (hs1 : Kd.V (Kd.int .i64) 3 w w.heap.size (fun k_ => P1_ k_) (.slice A1 l1.length c1) l1) (h : dowellaw29_pieces.f k a0_0 l0_1 l1 = some r) :
    Calls Tryd.prog 22 #[.agg #[.int .i64 a0_0, .slice A0_1 l0_1.length c0_1], .slice A1 l1.length c1] w fun e w' => ∃ v0_ : Value, e = .returned (v0_) ∧ Kd.S (Kd.slice 3 (Kd.int .i64)) 23 w' w.heap.size (fun k_ => (w.heap.size ≤ k_)) v0_ r ∧ Below w.heap.size w w' := by
  have hu28 := Tryd.underlying28
  have HR0_1 := Aside0.mk hr0_1
  have HC0_1 := Aside0.mk hc0_1
  clear hr0_1 hc0_1
  have HO1 := Aside0.mk (show Kd.V (Kd.int .i64) 3 w w.heap.size (fun k_ => (P1_ k_ ∨ w.heap.size ≤ k_)) (.slice A1 l1.length c1) l1 from Kd.V_mono hs1 (fun k_ hk => .inl hk))
  have HB := Aside0.mk (Below.refl w.heap.size w)
  have H : (dowellaw29_pieces.l0 k l1 ([] : List (List Int)) a0_0 l0_1) = some r := h
  clear h
  have H' := Aside0.mk H
  clear H
  go_enter Tryd.func22, Tryd.ntmps22
  go_wp2_with (first | ((with_reducible refine gate_dst (N := 2) rfl ?_); refine box_event ?hg (N := 2) ?hd (cs := #[.int .i64 a0_0, .slice A0_1 l0_1.length c0_1]) (t := 28) ?hr ?_; (case hd => rfl); (case hg => rfl); (case hr => first | (go_simp; done) | (go_simp; rfl)); intro gb378 hg w3 hbox hb; have n0_ := Aside0.mk (Kd.V_below (Kd.V_elderB (by (with_reducible repeat (first | apply Kd.V_alloc | apply Kd.V_drewN | apply Kd.V_drew)); exact HO1.out) gb378 (Nat.le_of_eq hg.symm)) hb); have n1_ := Aside0.mk (below_step (by repeat (first | (with_reducible first | exact HB.out | apply below_alloc | apply pw_below_drewN | apply below_drew1) | exact HB.out)) hb); have n2_ := Aside0.mk (hbox); have n3_ := Aside0.mk ((by rw [hg]; exact (below_size (by repeat (first | (with_reducible first | exact HB.out | apply below_alloc | apply pw_below_drewN | apply below_drew1) | exact HB.out))) : w.heap.size ≤ gb378)); have n4_ := Aside0.mk ((by rw [hg]; exact (below_size (by repeat (first | (with_reducible first | exact HB.out | apply below_alloc | apply pw_below_drewN | apply below_drew1) | exact HB.out))) : w.heap.size ≤ gb378)); clear HO1; clear HB; have HO1 := n0_; have HB := n1_; have BK378 := n2_; have GW378 := n3_; have GE378 := n4_; clear n0_ n1_ n2_ n3_ n4_; clear hb hbox hg))
  go_loopg [1, 5] k (fun kq v1 v5 w' => ∃ (x1_1 : List Int) (x5_1 : List (List Int)), Aside0 (dowellaw29_pieces.l0 kq x1_1 x5_1 a0_0 l0_1 = some r) ∧ Aside0 (kq ≤ k) ∧ Aside0 (Kd.V (Kd.int .i64) 3 w' w.heap.size (fun k_ => (P1_ k_ ∨ w.heap.size ≤ k_) ∧ some k_ ≠ (v5 : Value).ownBlock ∧ k_ ≠ gb378) v1 x1_1) ∧ Aside0 (Kd.S (Kd.slice 3 (Kd.int .i64)) 23 w' w.heap.size (fun k_ => (w.heap.size ≤ k_)) v5 x5_1) ∧ Aside0 (w'.heap[gb378]? = some (.cells #[.int .i64 a0_0, (.slice A0_1 l0_1.length c0_1)] 28 (0, 0))) ∧ Aside0 (Below w.heap.size w w'))
  case atStart => exact ⟨(l1), (([] : List (List Int))), H', ⟨Nat.le_refl _⟩, ⟨by (with_reducible repeat (first | apply Kd.V_alloc | apply Kd.V_drewN | apply Kd.V_drew)); exact Kd.V_mono HO1.out (fun _ hk => ⟨hk.1, ⟨(by simp [Value.ownBlock]), hk.2⟩⟩)⟩, ⟨by first | exact Kd.S_nil _ _ _ _ _ | exact Kd.N_nil _ _ _ _ _ | exact Kd.V_nil _ _ _ _ _ | exact Kd.Q_nil _ _ _ _ _ | exact Kd.R_nil _ _ _ _ _⟩, ⟨by (with_reducible repeat (first | refine blk_drewN ?_ _ | refine blk_drew ?_ | refine blk_alloc ?_ _)); exact BK378.out⟩, ⟨by repeat (first | (with_reducible first | exact HB.out | apply below_alloc | apply pw_below_drewN | apply below_drew1 | refine below_set ?_ GE378.out) | exact HB.out)⟩⟩
  case round =>
    clear H'
    try clear c1
    try clear c2
    try clear p2
    obtain ⟨x1_1, x5_1, HA, HK1, HO_1, HO_5, BK378, HB⟩ := hrel
    cases gk with
    | zero => exact absurd HA.out (by simp [dowellaw29_pieces.l0])
    | succ k1 =>
      have H := HA.out
      clear HA
      simp only [dowellaw29_pieces.l0] at H
      by_cases c4 : (x1_1.length : Int) > 0
      · rw [if_pos c4] at H
        have c4b0 : decide (0 < (x1_1.length : Int)) = true := decide_eq_true c4
        have c4b1 : decide (0 < x1_1.length) = true := decide_eq_true (by omega)
        clear c4
        replace H := Option.bind_eq_some_iff.mp H
        obtain ⟨t379, A50, H⟩ := H
        replace H : (if x5_1.length < 5864062014805 then ((dowellaw29_without.f k1 x1_1 t379).bind fun t385 => (dowellaw29_pieces.l0 k1 t385 (x5_1 ++ [t379]) a0_0 l0_1)) else (none)) = some r := H
        have A5 := Aside0.mk A50
        clear A50
        by_cases c6 : x5_1.length < 5864062014805
        · rw [if_pos c6] at H
          have LMc6 := Aside0.mk c6
          clear c6
          obtain ⟨y382, hy382⟩ : ∃ y_ : List (List Int), y_ = (x5_1 ++ [t379]) := ⟨_, rfl⟩
          replace H : ((dowellaw29_without.f k1 x1_1 t379).bind fun t385 => (dowellaw29_pieces.l0 k1 t385 y382 a0_0 l0_1)) = some r := by first | (rw [hy382]; with_reducible exact H) | (have H2_ := (Option.bind_some _ _).symm.trans H; rw [hy382]; with_reducible exact H2_) | (have H2_ := (Option.bind_some _ _).symm.trans H; with_reducible exact H2_) | with_reducible exact H | (rw [hy382]; exact H) | exact H
          have Ny382 := Aside0.mk hy382
          clear hy382
          replace H := Option.bind_eq_some_iff.mp H
          obtain ⟨t385, A70, H⟩ := H
          replace H : (dowellaw29_pieces.l0 k1 t385 y382 a0_0 l0_1) = some r := H
          have A7 := Aside0.mk A70
          clear A70
          have H' := Aside0.mk H
          clear H
          obtain ⟨Ao8, co8, eo8⟩ := Kd.V_slice HO_1.out
          subst eo8
          have hcz9_0 : wr.cell? ⟨gb378, 0, none⟩ = some (.int .i64 a0_0) := (blk_cell BK378.out 0).trans rfl
          have hcz9_1 : wr.cell? ⟨gb378, 1, none⟩ = some (.slice A0_1 l0_1.length c0_1) := (blk_cell BK378.out 1).trans rfl
          have hfz9_0 := blk_frozen BK378.out 0
          have hfz9_1 := blk_frozen BK378.out 1
          go_wp2_with (first | ((with_reducible refine gate_callee (f := 41) rfl ?_); refine goesL_ (some 12) rfl rfl Tryd.func41 (by kernel_rfl) rfl #[.agg #[.int .i64 a0_0, .slice A0_1 l0_1.length c0_1], .slice Ao8 x1_1.length co8] rfl (by (try simp only [List.map_toArray, List.map_cons, List.map_nil]); first | done | rfl | (simp only [List.length_drop, List.length_take]; rfl)) ?_; (with_reducible refine (dowellaw29_piece.calls k1 a0_0 _ _ l0_1 _ _ x1_1 t379 _ ?side1 ?side2 ?side3 ?side4 A5.out).mono ?_); (case side1 => repeat (first | exact (Kd.C_below HR0_1.out HB.out) | (with_reducible refine Kd.C_alloc ?_ _) | (with_reducible refine Kd.C_drewN ?_ _) | (with_reducible refine Kd.C_drew ?_))); (case side2 => exact HC0_1.out); (case side3 => repeat (first | exact (Kd.V_reads' HO_1.out).2.2 | (with_reducible refine Kd.C_alloc ?_ _) | (with_reducible refine Kd.C_drewN ?_ _) | (with_reducible refine Kd.C_drew ?_))); (case side4 => exact (Kd.V_reads' HO_1.out).2.1); rintro e w10 ⟨v380, rfl, ho0, hb⟩; refine ⟨_, rfl, ?_⟩; have n0_ := Aside0.mk (Kd.V_elder' (by (with_reducible repeat (first | apply Kd.V_alloc | apply Kd.V_drewN | apply Kd.V_drew)); exact HO_1.out) (Kd.R_base ho0) hb); have n1_ := Aside0.mk (Kd.S_elder' (by (with_reducible repeat (first | apply Kd.S_alloc | apply Kd.S_drewN | apply Kd.S_drew)); exact HO_5.out) (Kd.R_base ho0) hb); have n2_ := Aside0.mk (Kd.R_lower (Kd.R_newM (M := fun k_ => (w.heap.size ≤ k_)) ho0 (below_size (by repeat (first | (with_reducible first | exact HB.out | apply below_alloc | apply pw_below_drewN | apply below_drew1 | refine below_set ?_ GE378.out) | exact HB.out))) (fun k_ h_ => h_)) (below_size (by repeat (first | (with_reducible first | exact HB.out | apply below_alloc | apply pw_below_drewN | apply below_drew1 | refine below_set ?_ GE378.out) | exact HB.out)))); have n3_ := Aside0.mk (blk_below (g := gb378) (o := .cells #[.int .i64 a0_0, .slice A0_1 l0_1.length c0_1] 28 (0, 0)) (by (with_reducible repeat (first | refine blk_drewN ?_ _ | refine blk_drew ?_ | refine blk_alloc ?_ _)); exact BK378.out) hb); have n4_ := Aside0.mk (below_step (by repeat (first | (with_reducible first | exact HB.out | apply below_alloc | apply pw_below_drewN | apply below_drew1 | refine below_set ?_ GE378.out) | exact HB.out)) hb); clear HO_1; clear HO_5; clear BK378; clear HB; have HO_1 := n0_; have HO_5 := n1_; have HO381 := n2_; have BK378 := n3_; have HB := n4_; clear n0_ n1_ n2_ n3_ n4_; (try clear hb); (try clear hb2); (try clear hk); (try clear hi); (try clear ho0); obtain ⟨Ao12, co12, eo12⟩ := Kd.R_slice HO381.out; subst eo12) | ((with_reducible refine gate_builtin (b := .append) (xs := #[.tmp 13, .tmp 15]) rfl ?_); at_builtin; refine Kd.S_append (Kd.slice 3 (Kd.int .i64)) (w0 := w) w.heap.size rfl (.tmp 13) (.tmp 15) 45 23 (.slice none 0 0) 24 rfl Tryd.underlying45 info23 rfl (by decide) (by omega) u5 x5_1 t379 [.slice Ao12 t379.length co12] (fun k_ => (w.heap.size ≤ k_)) (fun k_ => some k_ = (.slice Ao12 t379.length co12 : Value).ownBlock) rfl rfl ?aP (fun k_ hk_ => ((Kd.R_mono (ok' := fun k_ => ((fun k_ => (w.heap.size ≤ k_))) k_ ∧ some k_ ≠ (u5 : Value).ownBlock) (Kd.R_apart' (HO381.out) (Kd.S_typed HO_5.out) (by decide)) (fun k_ hk => ⟨hk.1.1, hk.2⟩))).1 k_ hk_.symm) ?aF ?aO ?aB ?aS ?aL ?_; (case aP => exact Kd.M_row (Kd.R_mono (Kd.R_tight rfl (Kd.R_mono (ok' := fun k_ => ((fun k_ => (w.heap.size ≤ k_))) k_ ∧ some k_ ≠ (u5 : Value).ownBlock) (Kd.R_apart' (HO381.out) (Kd.S_typed HO_5.out) (by decide)) (fun k_ hk => ⟨hk.1.1, hk.2⟩))) (fun _ h_ => h_))); (case aB => exact (by repeat (first | (with_reducible first | exact HB.out | apply below_alloc | apply pw_below_drewN | apply below_drew1 | refine below_set ?_ GE378.out) | exact HB.out))); (case aF => exact (fun k_ hk => (Nat.le_trans (below_size (by repeat (first | (with_reducible first | exact HB.out | apply below_alloc | apply pw_below_drewN | apply below_drew1 | refine below_set ?_ GE378.out) | exact HB.out))) hk))); (case aO => exact (by (with_reducible repeat (first | apply Kd.S_alloc | apply Kd.S_drewN | apply Kd.S_drew)); exact Kd.S_mono HO_5.out (fun k_ hk => ⟨hk.1, fun e_ => hk.2 e_⟩))); (case aS => exact (below_size (by repeat (first | (with_reducible first | exact HB.out | apply below_alloc | apply pw_below_drewN | apply below_drew1 | refine below_set ?_ GE378.out) | exact HB.out)))); (case aL => have := LMc6.out; omega); intro v383 w11 ho hb hg hat; rw [← Ny382.out] at ho; have n0_ := Aside0.mk (Kd.V_afterv (ok := (fun k_ => (P1_ k_ ∨ w.heap.size ≤ k_) ∧ some k_ ≠ (.slice Ao12 t379.length co12 : Value).ownBlock ∧ k_ ≠ gb378)) (by (with_reducible repeat (first | apply Kd.V_alloc | apply Kd.V_drewN | apply Kd.V_drew)); exact Kd.V_mono HO_1.out (fun _ hk => ⟨⟨hk.1.1, ⟨hk.2, hk.1.2.2⟩⟩, hk.1.2.1⟩)) hg hat); have n1_ := Aside0.mk (blk_grown (g := gb378) (o := .cells #[.int .i64 a0_0, .slice A0_1 l0_1.length c0_1] 28 (0, 0)) (by (with_reducible repeat (first | refine blk_drewN ?_ _ | refine blk_drew ?_ | refine blk_alloc ?_ _)); exact BK378.out) hg (Kd.S_ne HO_5.out BK378.out (by decide))); have n2_ := Aside0.mk (hb); have n3_ := Aside0.mk (ho); have n9_ := Aside0.mk (Kd.R_grown (ok := fun k_ => ((fun k_ => (w.heap.size ≤ k_))) k_ ∧ some k_ ≠ (u5 : Value).ownBlock) (by (with_reducible repeat (first | apply Kd.R_alloc | apply Kd.R_drewN | apply Kd.R_drew)); exact (Kd.R_mono (ok' := fun k_ => ((fun k_ => (w.heap.size ≤ k_))) k_ ∧ some k_ ≠ (u5 : Value).ownBlock) (Kd.R_apart' (HO381.out) (Kd.S_typed HO_5.out) (by decide)) (fun k_ hk => ⟨hk.1.1, hk.2⟩))) hg (fun _ hk => hk.2)); clear HO_1; clear BK378; clear HB; clear HO_5; clear HO381; have HO381 := n9_; clear n9_; have HO_1 := n0_; have BK378 := n1_; have HB := n2_; have HO384 := n3_; clear n0_ n1_ n2_ n3_; clear ho hb hg hat) | ((with_reducible refine gate_callee (f := 43) rfl ?_); refine goesL_ (some 19) rfl rfl Tryd.func43 (by kernel_rfl) rfl #[.slice Ao8 x1_1.length co8, .slice Ao12 t379.length co12] rfl (by (try simp only [List.map_toArray, List.map_cons, List.map_nil]); first | done | rfl | (simp only [List.length_drop, List.length_take]; rfl)) ?_; (with_reducible refine (dowellaw29_without.calls k1 _ _ x1_1 _ _ t379 t385 _ ?side1 ?side2 ?side3 ?side4 A7.out).mono ?_); (case side1 => repeat (first | exact (Kd.V_reads' HO_1.out).2.2 | (with_reducible refine Kd.C_alloc ?_ _) | (with_reducible refine Kd.C_drewN ?_ _) | (with_reducible refine Kd.C_drew ?_))); (case side2 => exact (Kd.V_reads' HO_1.out).2.1); (case side3 => repeat (first | exact (Kd.R_reads' HO381.out).2.2 | (with_reducible refine Kd.C_alloc ?_ _) | (with_reducible refine Kd.C_drewN ?_ _) | (with_reducible refine Kd.C_drew ?_))); (case side4 => exact (Kd.R_reads' HO381.out).2.1); rintro e w13 ⟨v386, rfl, ho0, hb⟩; refine ⟨_, rfl, ?_⟩; have n0_ := Aside0.mk (Kd.V_elder' (by (with_reducible repeat (first | apply Kd.V_alloc | apply Kd.V_drewN | apply Kd.V_drew)); exact HO_1.out) (Kd.R_base ho0) hb); have n1_ := Aside0.mk (Kd.S_elder' (by (with_reducible repeat (first | apply Kd.S_alloc | apply Kd.S_drewN | apply Kd.S_drew)); exact HO384.out) (Kd.R_base ho0) hb); have n2_ := Aside0.mk (Kd.R_lower (Kd.R_newM (M := fun k_ => (w.heap.size ≤ k_)) ho0 (below_size (by repeat (first | (with_reducible first | exact HB.out | apply below_alloc | apply pw_below_drewN | apply below_drew1 | refine below_set ?_ GE378.out) | exact HB.out))) (fun k_ h_ => h_)) (below_size (by repeat (first | (with_reducible first | exact HB.out | apply below_alloc | apply pw_below_drewN | apply below_drew1 | refine below_set ?_ GE378.out) | exact HB.out)))); have n3_ := Aside0.mk (blk_below (g := gb378) (o := .cells #[.int .i64 a0_0, .slice A0_1 l0_1.length c0_1] 28 (0, 0)) (by (with_reducible repeat (first | refine blk_drewN ?_ _ | refine blk_drew ?_ | refine blk_alloc ?_ _)); exact BK378.out) hb); have n4_ := Aside0.mk (below_step (by repeat (first | (with_reducible first | exact HB.out | apply below_alloc | apply pw_below_drewN | apply below_drew1 | refine below_set ?_ GE378.out) | exact HB.out)) hb); clear HO_1; clear HO384; clear BK378; clear HB; have HO_1 := n0_; have HO384 := n1_; have HO387 := n2_; have BK378 := n3_; have HB := n4_; clear n0_ n1_ n2_ n3_ n4_; (try clear hb); (try clear hb2); (try clear hk); (try clear hi); (try clear ho0)))
          go_roundg k1
          case measure => have := HK1.out; omega
          case rel => exact ⟨(t385), (y382), H', ⟨by have := HK1.out; omega⟩, ⟨Kd.V_mono (ok := fun k_ => w.heap.size ≤ k_ ∧ some k_ ≠ (v383 : Value).ownBlock ∧ k_ ≠ gb378) (Kd.R_V (by (with_reducible repeat (first | apply Kd.R_alloc | apply Kd.R_drewN | apply Kd.R_drew)); exact Kd.R_mono (Kd.R_types (Kd.R_apart' HO387.out (Kd.S_typed HO384.out) (by decide)) BK378.out (by decide)) (fun _ hk => ⟨hk.1.1.1, ⟨hk.1.2, hk.2⟩⟩))) (fun k_ hk => by first | exact ⟨(.inr (hk.1)), hk.2⟩ | exact (.inr (hk)))⟩, ⟨by (with_reducible repeat (first | apply Kd.S_alloc | apply Kd.S_drewN | apply Kd.S_drew)); exact Kd.S_mono HO384.out (fun _ hk => hk.1)⟩, ⟨by (with_reducible repeat (first | refine blk_drewN ?_ _ | refine blk_drew ?_ | refine blk_alloc ?_ _)); exact BK378.out⟩, ⟨by repeat (first | (with_reducible first | exact HB.out | apply below_alloc | apply pw_below_drewN | apply below_drew1 | refine below_set ?_ GE378.out) | exact HB.out)⟩⟩
        · rw [if_neg c6] at H
          exact absurd H (by simp)
      · rw [if_neg c4] at H
        have c4b0 : decide (0 < (x1_1.length : Int)) = false := decide_eq_false c4
        have c4b1 : decide (0 < x1_1.length) = false := decide_eq_false (by omega)
        clear c4
        obtain rfl := Option.some.inj H
        obtain ⟨Ao14, co14, eo14⟩ := Kd.V_slice HO_1.out
        subst eo14
        go_wp2
        go_ret
        exact ⟨_, by first | rfl | (simp [errW_none, errW_some] <;> rfl) | (simp [*, errW_none, errW_some] <;> rfl), by (with_reducible repeat (first | apply Kd.S_alloc | apply Kd.S_drewN | apply Kd.S_drew)); exact HO_5.out, by repeat (first | (with_reducible first | exact HB.out | apply below_alloc | apply pw_below_drewN | apply below_drew1 | refine below_set ?_ GE378.out) | exact HB.out)⟩
end
end Go.Proofs.YtbghfbhlbfcloaaDoor.PL
namespace Go.Proofs.YtbghfbhlbfcloaaDoor.PL
section
open Go.RowKit Go.Proofs.YtbghfbhlbfcloaaDoorW.PrintWords Go.Proofs.YtbghfbhlbfcloaaDoorW.PrintLast Go.Proofs.YtbghfbhlbfcloaaDoorW.PrintMore
attribute [local go_sem] max2_int min2_int max_two min_two max_three min_three max_four min_four   -- for this text's walks alone
set_option linter.unusedVariables false
set_option linter.unusedSimpArgs false
/-! ### liaison_Neighbours: function 18 -/
def liaison_Neighbours.l0 : Nat → List Int → Int → Int → List Int → Int → Int → Option (List Int × Int)
  | 0, _, _, _, _, _, _ => none
  | k + 1, x6, x7, x9, x22, x23, x24 => if x24 < x23 then (if 0 ≤ x24 then (if x24 < (x22.length : Int) then (if 0 ≤ (rd x22 x24) then (if (rd x22 x24) < (x6.length : Int) then (liaison_Neighbours.l0 k x6 x7 (Go.bits .or .u64 x9 (rd x6 (rd x22 x24))) x22 x23 (wrap64 (x24 + 1))) else (none)) else (none)) else (none)) else (none)) else ((liaison_listed.f k (Go.bits .andNot .u64 x9 x7)).bind fun t372 => (some (t372, 0)))
def liaison_Neighbours.f (k : Nat) (a0_0 : Int) (l0_1 : List (S68)) (l1 : List Int) : Option (List Int × Int) := (liaison_opened.f k a0_0 l0_1 l1).bind fun bt365 => (if bt365.2.2 = 0 then (liaison_Neighbours.l0 k bt365.1 bt365.2.1 0 l1 (l1.length : Int) 0) else (some (([] : List Int), bt365.2.2)))
theorem liaison_Neighbours.mono_l : ∀ k, (∀ y0 y1 y2 y3 y4 y5, LeO (liaison_Neighbours.l0 k y0 y1 y2 y3 y4 y5) (liaison_Neighbours.l0 (k + 1) y0 y1 y2 y3 y4 y5))
  | 0 => fun _ _ _ _ _ _ r h => by simp [liaison_Neighbours.l0] at h
  | k + 1 => by
    have ih0 := liaison_Neighbours.mono_l k
    · intro y0 y1 y2 y3 y4 y5
      unfold liaison_Neighbours.l0
      repeat' first
      | (with_reducible exact ih0 _ _ _ _ _ _)
      | (with_reducible exact liaison_listed.mono _ _)
      | (with_reducible exact liaison_opened.mono _ _ _ _)
      | (with_reducible exact LeO.refl _)
      | (with_reducible exact LeO.none _)
      | (with_reducible refine LeO.ite ?_ ?_)
      | (with_reducible refine LeO.bind ?_ (fun _ => ?_))
      | exact ih0 _ _ _ _ _ _
      | exact liaison_listed.mono _ _
      | exact liaison_opened.mono _ _ _ _
      | exact LeO.none _
      | refine LeO.ite ?_ ?_
      | refine LeO.bind ?_ (fun _ => ?_)
theorem liaison_Neighbours.mono : ∀ a0 a1 a2 k, LeO (liaison_Neighbours.f k a0 a1 a2) (liaison_Neighbours.f (k + 1) a0 a1 a2) := by
  intro a0 a1 a2 k
  have ih0 := liaison_Neighbours.mono_l k
  unfold liaison_Neighbours.f
  repeat' first
      | (with_reducible exact ih0 _ _ _ _ _ _)
      | (with_reducible exact liaison_listed.mono _ _)
      | (with_reducible exact liaison_opened.mono _ _ _ _)
      | (with_reducible exact LeO.refl _)
      | (with_reducible exact LeO.none _)
      | (with_reducible refine LeO.ite ?_ ?_)
      | (with_reducible refine LeO.bind ?_ (fun _ => ?_))
      | exact ih0 _ _ _ _ _ _
      | exact liaison_listed.mono _ _
      | exact liaison_opened.mono _ _ _ _
      | exact LeO.none _
      | refine LeO.ite ?_ ?_
      | refine LeO.bind ?_ (fun _ => ?_)
set_option maxHeartbeats 8000000 in
set_option maxRecDepth 100000 in
theorem liaison_Neighbours.calls (k : Nat) (a0_0 : Int) (A0_1 : Option Addr) (c0_1 : Nat) (l0_1 : List (S68)) (A1 : Option Addr) (c1 : Nat) (l1 : List Int) (r1 : List Int) (r2 : Int) (w : World) (hr0_1 : Kd.C k68 w A0_1 l0_1.length l0_1) (hc0_1 : l0_1.length ≤ c0_1) (hr1 : Kd.C (Kd.int .i64) w A1 l1.length l1) (hc1 : l1.length ≤ c1) (hG : Kd.C (Kd.int .u8) w (some tabA) tabL.length tabL) (h : liaison_Neighbours.f k a0_0 l0_1 l1 = some (r1, r2)) :
    Calls Tryd.prog 18 #[.agg #[.int .i64 a0_0, .slice A0_1 l0_1.length c0_1], .slice A1 l1.length c1] w fun e w' => ∃ v0_ : Value, e = .returned (.tuple #[v0_, .int .i64 r2]) ∧ Kd.R (Kd.int .i64) 3 w' w.heap.size (fun _ => True) v0_ r1 ∧ Below w.heap.size w w' := by
  have hu28 := Tryd.underlying28
  have HR0_1 := Aside0.mk hr0_1
  have HC0_1 := Aside0.mk hc0_1
  clear hr0_1 hc0_1
  have HR1 := Aside0.mk hr1
  have HC1 := Aside0.mk hc1
  clear hr1 hc1
  have HB := Aside0.mk (Below.refl w.heap.size w)
  have HG := Aside0.mk hG
  clear hG
  have H : ((liaison_opened.f k a0_0 l0_1 l1).bind fun bt365 => (if bt365.2.2 = 0 then (liaison_Neighbours.l0 k bt365.1 bt365.2.1 0 l1 (l1.length : Int) 0) else (some (([] : List Int), bt365.2.2)))) = some (r1, r2) := h
  clear h
  replace H := Option.bind_eq_some_iff.mp H
  obtain ⟨⟨t365, t368, t369⟩, A30, H⟩ := H
  replace H : (if t369 = 0 then (liaison_Neighbours.l0 k t365 t368 0 l1 (l1.length : Int) 0) else (some (([] : List Int), t369))) = some (r1, r2) := H
  have A3 := Aside0.mk A30
  clear A30
  by_cases c4 : t369 = 0
  · rw [if_pos c4] at H
    have c4b0 : (t369 == 0) = true := beq_iff_eq.mpr c4
    have c4b1 : (t369 != 0) = false := bne_eq_false_iff_eq.mpr c4
    clear c4
    have H' := Aside0.mk H
    clear H
    go_enter Tryd.func18, Tryd.ntmps18
    go_wp2_with (first | ((with_reducible refine gate_dst (N := 2) rfl ?_); refine box_event ?hg (N := 2) ?hd (cs := #[.int .i64 a0_0, .slice A0_1 l0_1.length c0_1]) (t := 28) ?hr ?_; (case hd => rfl); (case hg => rfl); (case hr => first | (go_simp; done) | (go_simp; rfl)); intro gb364 hg w5 hbox hb; have n0_ := Aside0.mk (below_step (by repeat (first | (with_reducible first | exact HB.out | apply below_alloc | apply pw_below_drewN | apply below_drew1) | exact HB.out)) hb); have n1_ := Aside0.mk (hbox); have n2_ := Aside0.mk ((by rw [hg]; exact (below_size (by repeat (first | (with_reducible first | exact HB.out | apply below_alloc | apply pw_below_drewN | apply below_drew1) | exact HB.out))) : w.heap.size ≤ gb364)); have n3_ := Aside0.mk ((by rw [hg]; exact (below_size (by repeat (first | (with_reducible first | exact HB.out | apply below_alloc | apply pw_below_drewN | apply below_drew1) | exact HB.out))) : w.heap.size ≤ gb364)); clear HB; have HB := n0_; have BK364 := n1_; have GW364 := n2_; have GE364 := n3_; clear n0_ n1_ n2_ n3_; clear hb hbox hg; have hcz6_0 : w5.cell? ⟨gb364, 0, none⟩ = some (.int .i64 a0_0) := (blk_cell BK364.out 0).trans rfl; have hcz6_1 : w5.cell? ⟨gb364, 1, none⟩ = some (.slice A0_1 l0_1.length c0_1) := (blk_cell BK364.out 1).trans rfl; have hfz6_0 := blk_frozen BK364.out 0; have hfz6_1 := blk_frozen BK364.out 1) | ((with_reducible refine gate_callee (f := 34) rfl ?_); refine goesL_ (some 15) rfl rfl Tryd.func34 (by kernel_rfl) rfl #[.agg #[.int .i64 a0_0, .slice A0_1 l0_1.length c0_1], .slice A1 l1.length c1] rfl (by (try simp only [List.map_toArray, List.map_cons, List.map_nil]); first | done | rfl | (simp only [List.length_drop, List.length_take]; rfl)) ?_; (with_reducible refine (liaison_opened.calls k a0_0 _ _ l0_1 _ _ l1 t365 t368 t369 _ ?side1 ?side2 ?side3 ?side4 A3.out).mono ?_); (case side1 => repeat (first | exact (Kd.C_below HR0_1.out HB.out) | (with_reducible refine Kd.C_alloc ?_ _) | (with_reducible refine Kd.C_drewN ?_ _) | (with_reducible refine Kd.C_drew ?_))); (case side2 => exact HC0_1.out); (case side3 => repeat (first | exact (Kd.C_below HR1.out HB.out) | (with_reducible refine Kd.C_alloc ?_ _) | (with_reducible refine Kd.C_drewN ?_ _) | (with_reducible refine Kd.C_drew ?_))); (case side4 => exact HC1.out); rintro e w7 ⟨v366, rfl, ho0, hb⟩; refine ⟨_, rfl, ?_⟩; have n0_ := Aside0.mk (Kd.R_lower ho0 (below_size (by repeat (first | (with_reducible first | exact HB.out | apply below_alloc | apply pw_below_drewN | apply below_drew1 | refine below_set ?_ GE364.out) | exact HB.out)))); have n1_ := Aside0.mk (blk_below (g := gb364) (o := .cells #[.int .i64 a0_0, .slice A0_1 l0_1.length c0_1] 28 (0, 0)) (by (with_reducible repeat (first | refine blk_drewN ?_ _ | refine blk_drew ?_ | refine blk_alloc ?_ _)); exact BK364.out) hb); have n2_ := Aside0.mk (below_step (by repeat (first | (with_reducible first | exact HB.out | apply below_alloc | apply pw_below_drewN | apply below_drew1 | refine below_set ?_ GE364.out) | exact HB.out)) hb); clear BK364; clear HB; have HO367 := n0_; have BK364 := n1_; have HB := n2_; clear n0_ n1_ n2_; (try clear hb); (try clear hb2); (try clear hk); (try clear hi); (try clear ho0)))
    go_loopg [9, 24] k (fun kq v9 v24 w' => ∃ (x9_1 : Int) (x24_1 : Int), v9 = .int .u64 x9_1 ∧ v24 = .int .i64 x24_1 ∧ Aside0 (liaison_Neighbours.l0 kq t365 t368 x9_1 l1 (l1.length : Int) x24_1 = some (r1, r2)) ∧ Aside0 (kq ≤ k) ∧ Aside0 (Kd.R (Kd.int .u64) 71 w' w.heap.size (fun _ => True) v366 t365) ∧ Aside0 (w'.heap[gb364]? = some (.cells #[.int .i64 a0_0, (.slice A0_1 l0_1.length c0_1)] 28 (0, 0))) ∧ Aside0 (Below w.heap.size w w'))
    case atStart => exact ⟨(0), (0), (by first | rfl | (simp; done) | (simp [*]; done)), (by first | rfl | (simp; done) | (simp [*]; done)), H', ⟨Nat.le_refl _⟩, ⟨by (with_reducible repeat (first | apply Kd.R_alloc | apply Kd.R_drewN | apply Kd.R_drew)); exact HO367.out⟩, ⟨by (with_reducible repeat (first | refine blk_drewN ?_ _ | refine blk_drew ?_ | refine blk_alloc ?_ _)); exact BK364.out⟩, ⟨by repeat (first | (with_reducible first | exact HB.out | apply below_alloc | apply pw_below_drewN | apply below_drew1 | refine below_set ?_ GE364.out) | exact HB.out)⟩⟩
    case round =>
      clear H'
      try clear c1
      try clear p2
      try clear c3
      try clear c4
      try clear c4b0
      try clear c4b1
      try clear hcz6_0
      try clear hcz6_1
      try clear hfz6_0
      try clear hfz6_1
      obtain ⟨x9_1, x24_1, rfl, rfl, HA, HK1, HO_6, BK364, HB⟩ := hrel
      cases gk with
      | zero => exact absurd HA.out (by simp [liaison_Neighbours.l0])
      | succ k1 =>
        have H := HA.out
        clear HA
        simp only [liaison_Neighbours.l0] at H
        by_cases c8 : x24_1 < (l1.length : Int)
        · rw [if_pos c8] at H
          have c8b0 : decide (x24_1 < (l1.length : Int)) = true := decide_eq_true c8
          clear c8
          by_cases c9 : 0 ≤ x24_1
          · rw [if_pos c9] at H
            have c9b0 : decide (0 ≤ x24_1) = true := decide_eq_true c9
            clear c9
            by_cases c10 : x24_1 < (l1.length : Int)
            · rw [if_pos c10] at H
              have c10b0 : decide (x24_1 < (l1.length : Int)) = true := decide_eq_true c10
              clear c10
              by_cases c11 : 0 ≤ (rd l1 x24_1)
              · rw [if_pos c11] at H
                have c11b0 : decide (0 ≤ (rd l1 x24_1)) = true := decide_eq_true c11
                clear c11
                by_cases c12 : (rd l1 x24_1) < (t365.length : Int)
                · rw [if_pos c12] at H
                  have c12b0 : decide ((rd l1 x24_1) < (t365.length : Int)) = true := decide_eq_true c12
                  clear c12
                  have H' := Aside0.mk H
                  clear H
                  have p370 : 0 ≤ (x24_1 : Int) := of_decide_eq_true (by first | (with_reducible assumption) | assumption)
                  have q370 : x24_1 < (l1.length : Int) := of_decide_eq_true (by first | (with_reducible assumption) | assumption)
                  obtain ⟨ad370, e370, hx370_0⟩ := Kd.at_int HR1.out x24_1 p370 q370
                  cases e370
                  replace hx370_0 := (HB.out.cell (World.block_lt_of_cell? w _ hx370_0)).trans hx370_0
                  replace p370 := eq_true p370
                  replace q370 := eq_true q370
                  obtain ⟨Ao13, co13, eo13⟩ := Kd.R_slice HO_6.out
                  subst eo13
                  have p371 : 0 ≤ ((rd l1 x24_1) : Int) := of_decide_eq_true (by first | (with_reducible assumption) | assumption)
                  have q371 : (rd l1 x24_1) < (t365.length : Int) := of_decide_eq_true (by first | (with_reducible assumption) | assumption)
                  obtain ⟨ad371, e371, hx371_0⟩ := Kd.at_int (Kd.R_reads' HO_6.out).2.2 (rd l1 x24_1) p371 q371
                  cases e371
                  replace p371 := eq_true p371
                  replace q371 := eq_true q371
                  go_wp2
                  go_roundg k1
                  case measure => have := HK1.out; omega
                  case rel => exact ⟨(Go.bits .or .u64 x9_1 (rd t365 (rd l1 x24_1))), (wrap64 (x24_1 + 1)), (by first | rfl | (simp; done) | (simp [*]; done)), (by first | rfl | (simp; done) | (simp [*]; done)), H', ⟨by have := HK1.out; omega⟩, ⟨by (with_reducible repeat (first | apply Kd.R_alloc | apply Kd.R_drewN | apply Kd.R_drew)); exact HO_6.out⟩, ⟨by (with_reducible repeat (first | refine blk_drewN ?_ _ | refine blk_drew ?_ | refine blk_alloc ?_ _)); exact BK364.out⟩, ⟨by repeat (first | (with_reducible first | exact HB.out | apply below_alloc | apply pw_below_drewN | apply below_drew1 | refine below_set ?_ GE364.out) | exact HB.out)⟩⟩
                · rw [if_neg c12] at H
                  exact absurd H (by simp)
              · rw [if_neg c11] at H
                exact absurd H (by simp)
            · rw [if_neg c10] at H
              exact absurd H (by simp)
          · rw [if_neg c9] at H
            exact absurd H (by simp)
        · rw [if_neg c8] at H
          have c8b0 : decide (x24_1 < (l1.length : Int)) = false := decide_eq_false c8
          clear c8
          replace H := Option.bind_eq_some_iff.mp H
          obtain ⟨t372, A140, H⟩ := H
          replace H : (some (t372, 0)) = some (r1, r2) := H
          have A14 := Aside0.mk A140
          clear A140
          simp only [Option.some.injEq, Prod.mk.injEq] at H
          obtain ⟨rfl, rfl⟩ := H
          go_wp2_with (first | ((with_reducible refine gate_callee (f := 37) rfl ?_); refine goesL_ (some 38) rfl rfl Tryd.func37 (by kernel_rfl) rfl #[.int .u64 (Go.bits .andNot .u64 x9_1 t368)] rfl (by (try simp only [List.map_toArray, List.map_cons, List.map_nil]); first | done | rfl | (simp only [List.length_drop, List.length_take]; rfl)) ?_; (with_reducible refine (liaison_listed.calls k1 (Go.bits .andNot .u64 x9_1 t368) t372 _ ?side1 A14.out).mono ?_); (case side1 => repeat (first | exact (Kd.C_below HG.out HB.out) | (with_reducible refine Kd.C_alloc ?_ _) | (with_reducible refine Kd.C_drewN ?_ _) | (with_reducible refine Kd.C_drew ?_))); rintro e w15 ⟨v373, rfl, ho0, hb⟩; refine ⟨_, rfl, ?_⟩; have n0_ := Aside0.mk (Kd.R_below (by (with_reducible repeat (first | apply Kd.R_alloc | apply Kd.R_drewN | apply Kd.R_drew)); exact HO_6.out) hb); have n1_ := Aside0.mk (Kd.R_lower ho0 (below_size (by repeat (first | (with_reducible first | exact HB.out | apply below_alloc | apply pw_below_drewN | apply below_drew1 | refine below_set ?_ GE364.out) | exact HB.out)))); have n2_ := Aside0.mk (blk_below (g := gb364) (o := .cells #[.int .i64 a0_0, .slice A0_1 l0_1.length c0_1] 28 (0, 0)) (by (with_reducible repeat (first | refine blk_drewN ?_ _ | refine blk_drew ?_ | refine blk_alloc ?_ _)); exact BK364.out) hb); have n3_ := Aside0.mk (below_step (by repeat (first | (with_reducible first | exact HB.out | apply below_alloc | apply pw_below_drewN | apply below_drew1 | refine below_set ?_ GE364.out) | exact HB.out)) hb); clear HO_6; clear BK364; clear HB; have HO_6 := n0_; have HO374 := n1_; have BK364 := n2_; have HB := n3_; clear n0_ n1_ n2_ n3_; (try clear hb); (try clear hb2); (try clear hk); (try clear hi); (try clear ho0)))
          go_ret2
          exact ⟨_, by first | rfl | (simp [errW_none, errW_some] <;> rfl) | (simp [*, errW_none, errW_some] <;> rfl), by (with_reducible repeat (first | apply Kd.R_alloc | apply Kd.R_drewN | apply Kd.R_drew)); exact HO374.out, by repeat (first | (with_reducible first | exact HB.out | apply below_alloc | apply pw_below_drewN | apply below_drew1 | refine below_set ?_ GE364.out) | exact HB.out)⟩
  · rw [if_neg c4] at H
    have c4b0 : (t369 == 0) = false := beq_eq_false_iff_ne.mpr c4
    have c4b1 : (t369 != 0) = true := bne_iff_ne.mpr c4
    simp only [Option.some.injEq, Prod.mk.injEq] at H
    obtain ⟨rfl, rfl⟩ := H
    go_enter Tryd.func18, Tryd.ntmps18
    go_wp2_with (first | ((with_reducible refine gate_dst (N := 2) rfl ?_); refine box_event ?hg (N := 2) ?hd (cs := #[.int .i64 a0_0, .slice A0_1 l0_1.length c0_1]) (t := 28) ?hr ?_; (case hd => rfl); (case hg => rfl); (case hr => first | (go_simp; done) | (go_simp; rfl)); intro gb364 hg w16 hbox hb; have n0_ := Aside0.mk (below_step (by repeat (first | (with_reducible first | exact HB.out | apply below_alloc | apply pw_below_drewN | apply below_drew1) | exact HB.out)) hb); have n1_ := Aside0.mk (hbox); have n2_ := Aside0.mk ((by rw [hg]; exact (below_size (by repeat (first | (with_reducible first | exact HB.out | apply below_alloc | apply pw_below_drewN | apply below_drew1) | exact HB.out))) : w.heap.size ≤ gb364)); have n3_ := Aside0.mk ((by rw [hg]; exact (below_size (by repeat (first | (with_reducible first | exact HB.out | apply below_alloc | apply pw_below_drewN | apply below_drew1) | exact HB.out))) : w.heap.size ≤ gb364)); clear HB; have HB := n0_; have BK364 := n1_; have GW364 := n2_; have GE364 := n3_; clear n0_ n1_ n2_ n3_; clear hb hbox hg; have hcz17_0 : w16.cell? ⟨gb364, 0, none⟩ = some (.int .i64 a0_0) := (blk_cell BK364.out 0).trans rfl; have hcz17_1 : w16.cell? ⟨gb364, 1, none⟩ = some (.slice A0_1 l0_1.length c0_1) := (blk_cell BK364.out 1).trans rfl; have hfz17_0 := blk_frozen BK364.out 0; have hfz17_1 := blk_frozen BK364.out 1) | ((with_reducible refine gate_callee (f := 34) rfl ?_); refine goesL_ (some 15) rfl rfl Tryd.func34 (by kernel_rfl) rfl #[.agg #[.int .i64 a0_0, .slice A0_1 l0_1.length c0_1], .slice A1 l1.length c1] rfl (by (try simp only [List.map_toArray, List.map_cons, List.map_nil]); first | done | rfl | (simp only [List.length_drop, List.length_take]; rfl)) ?_; (with_reducible refine (liaison_opened.calls k a0_0 _ _ l0_1 _ _ l1 t365 t368 t369 _ ?side1 ?side2 ?side3 ?side4 A3.out).mono ?_); (case side1 => repeat (first | exact (Kd.C_below HR0_1.out HB.out) | (with_reducible refine Kd.C_alloc ?_ _) | (with_reducible refine Kd.C_drewN ?_ _) | (with_reducible refine Kd.C_drew ?_))); (case side2 => exact HC0_1.out); (case side3 => repeat (first | exact (Kd.C_below HR1.out HB.out) | (with_reducible refine Kd.C_alloc ?_ _) | (with_reducible refine Kd.C_drewN ?_ _) | (with_reducible refine Kd.C_drew ?_))); (case side4 => exact HC1.out); rintro e w18 ⟨v366, rfl, ho0, hb⟩; refine ⟨_, rfl, ?_⟩; have n0_ := Aside0.mk (Kd.R_lower ho0 (below_size (by repeat (first | (with_reducible first | exact HB.out | apply below_alloc | apply pw_below_drewN | apply below_drew1 | refine below_set ?_ GE364.out) | exact HB.out)))); have n1_ := Aside0.mk (blk_below (g := gb364) (o := .cells #[.int .i64 a0_0, .slice A0_1 l0_1.length c0_1] 28 (0, 0)) (by (with_reducible repeat (first | refine blk_drewN ?_ _ | refine blk_drew ?_ | refine blk_alloc ?_ _)); exact BK364.out) hb); have n2_ := Aside0.mk (below_step (by repeat (first | (with_reducible first | exact HB.out | apply below_alloc | apply pw_below_drewN | apply below_drew1 | refine below_set ?_ GE364.out) | exact HB.out)) hb); clear BK364; clear HB; have HO367 := n0_; have BK364 := n1_; have HB := n2_; clear n0_ n1_ n2_; (try clear hb); (try clear hb2); (try clear hk); (try clear hi); (try clear ho0)))
    go_ret2
    exact ⟨_, by first | rfl | (simp [errW_none, errW_some] <;> rfl) | (simp [*, errW_none, errW_some] <;> rfl), by first | exact Kd.R_nil _ _ _ _ _ | exact Kd.N_nil _ _ _ _ _ | exact Kd.V_nil _ _ _ _ _ | exact Kd.Q_nil _ _ _ _ _ | exact Kd.S_nil _ _ _ _ _, by repeat (first | (with_reducible first | exact HB.out | apply below_alloc | apply pw_below_drewN | apply below_drew1 | refine below_set ?_ GE364.out) | exact HB.out)⟩
end
end Go.Proofs.YtbghfbhlbfcloaaDoor.PL
namespace Go.Proofs.YtbghfbhlbfcloaaDoor.PL
section
open Go.RowKit Go.Proofs.YtbghfbhlbfcloaaDoorW.PrintWords Go.Proofs.YtbghfbhlbfcloaaDoorW.PrintLast Go.Proofs.YtbghfbhlbfcloaaDoorW.PrintMore
attribute [local go_sem] max2_int min2_int max_two min_two max_three min_three max_four min_four   -- for this text's walks alone
set_option linter.unusedVariables false
set_option linter.unusedSimpArgs false
/-! ### liaison_Connected: function 16 -/
def liaison_Connected.f (k : Nat) (a0_0 : Int) (l0_1 : List (S68)) (l1 : List Int) : Option (Bool × Int) := (liaison_opened.f k a0_0 l0_1 l1).bind fun bt345 => (if bt345.2.2 = 0 then ((liaison_links_connected.f k bt345.1 bt345.2.1).bind fun t350 => (some (t350, bt345.2.2))) else (some (false, bt345.2.2)))
theorem liaison_Connected.mono : ∀ a0 a1 a2 k, LeO (liaison_Connected.f k a0 a1 a2) (liaison_Connected.f (k + 1) a0 a1 a2) := by
  intro a0 a1 a2 k
  unfold liaison_Connected.f
  repeat' first
      | (with_reducible exact liaison_links_connected.mono _ _ _)
      | (with_reducible exact liaison_opened.mono _ _ _ _)
      | (with_reducible exact LeO.refl _)
      | (with_reducible exact LeO.none _)
      | (with_reducible refine LeO.ite ?_ ?_)
      | (with_reducible refine LeO.bind ?_ (fun _ => ?_))
      | exact liaison_links_connected.mono _ _ _
      | exact liaison_opened.mono _ _ _ _
      | exact LeO.none _
      | refine LeO.ite ?_ ?_
      | refine LeO.bind ?_ (fun _ => ?_)
set_option maxHeartbeats 8000000 in
set_option maxRecDepth 100000 in
theorem liaison_Connected.calls (k : Nat) (a0_0 : Int) (A0_1 : Option Addr) (c0_1 : Nat) (l0_1 : List (S68)) (A1 : Option Addr) (c1 : Nat) (l1 : List Int) (r1 : Bool) (r2 : Int) (w : World) (hr0_1 : Kd.C k68 w A0_1 l0_1.length l0_1) (hc0_1 : l0_1.length ≤ c0_1) (hr1 : Kd.C (Kd.int .i64) w A1 l1.length l1) (hc1 : l1.length ≤ c1) (hG : Kd.C (Kd.int .u8) w (some tabA) tabL.length tabL) (h : liaison_Connected.f k a0_0 l0_1 l1 = some (r1, r2)) :
    Calls Tryd.prog 16 #[.agg #[.int .i64 a0_0, .slice A0_1 l0_1.length c0_1], .slice A1 l1.length c1] w fun e w' => e = .returned (.tuple #[.bool r1, .int .i64 r2]) ∧ Below w.heap.size w w' := by
  have hu28 := Tryd.underlying28
  have HR0_1 := Aside0.mk hr0_1
  have HC0_1 := Aside0.mk hc0_1
  clear hr0_1 hc0_1
  have HR1 := Aside0.mk hr1
  have HC1 := Aside0.mk hc1
  clear hr1 hc1
  have HB := Aside0.mk (Below.refl w.heap.size w)
  have HG := Aside0.mk hG
  clear hG
  have H : ((liaison_opened.f k a0_0 l0_1 l1).bind fun bt345 => (if bt345.2.2 = 0 then ((liaison_links_connected.f k bt345.1 bt345.2.1).bind fun t350 => (some (t350, bt345.2.2))) else (some (false, bt345.2.2)))) = some (r1, r2) := h
  clear h
  replace H := Option.bind_eq_some_iff.mp H
  obtain ⟨⟨t345, t348, t349⟩, A30, H⟩ := H
  replace H : (if t349 = 0 then ((liaison_links_connected.f k t345 t348).bind fun t350 => (some (t350, t349))) else (some (false, t349))) = some (r1, r2) := H
  have A3 := Aside0.mk A30
  clear A30
  by_cases c4 : t349 = 0
  · rw [if_pos c4] at H
    have c4b0 : (t349 == 0) = true := beq_iff_eq.mpr c4
    have c4b1 : (t349 != 0) = false := bne_eq_false_iff_eq.mpr c4
    clear c4
    replace H := Option.bind_eq_some_iff.mp H
    obtain ⟨t350, A50, H⟩ := H
    replace H : (some (t350, t349)) = some (r1, r2) := H
    have A5 := Aside0.mk A50
    clear A50
    simp only [Option.some.injEq, Prod.mk.injEq] at H
    obtain ⟨rfl, rfl⟩ := H
    go_enter Tryd.func16, Tryd.ntmps16
    go_wp2_with (first | ((with_reducible refine gate_dst (N := 2) rfl ?_); refine box_event ?hg (N := 2) ?hd (cs := #[.int .i64 a0_0, .slice A0_1 l0_1.length c0_1]) (t := 28) ?hr ?_; (case hd => rfl); (case hg => rfl); (case hr => first | (go_simp; done) | (go_simp; rfl)); intro gb344 hg w6 hbox hb; have n0_ := Aside0.mk (below_step (by repeat (first | (with_reducible first | exact HB.out | apply below_alloc | apply pw_below_drewN | apply below_drew1) | exact HB.out)) hb); have n1_ := Aside0.mk (hbox); have n2_ := Aside0.mk ((by rw [hg]; exact (below_size (by repeat (first | (with_reducible first | exact HB.out | apply below_alloc | apply pw_below_drewN | apply below_drew1) | exact HB.out))) : w.heap.size ≤ gb344)); have n3_ := Aside0.mk ((by rw [hg]; exact (below_size (by repeat (first | (with_reducible first | exact HB.out | apply below_alloc | apply pw_below_drewN | apply below_drew1) | exact HB.out))) : w.heap.size ≤ gb344)); clear HB; have HB := n0_; have BK344 := n1_; have GW344 := n2_; have GE344 := n3_; clear n0_ n1_ n2_ n3_; clear hb hbox hg; have hcz7_0 : w6.cell? ⟨gb344, 0, none⟩ = some (.int .i64 a0_0) := (blk_cell BK344.out 0).trans rfl; have hcz7_1 : w6.cell? ⟨gb344, 1, none⟩ = some (.slice A0_1 l0_1.length c0_1) := (blk_cell BK344.out 1).trans rfl; have hfz7_0 := blk_frozen BK344.out 0; have hfz7_1 := blk_frozen BK344.out 1) | ((with_reducible refine gate_callee (f := 34) rfl ?_); refine goesL_ (some 12) rfl rfl Tryd.func34 (by kernel_rfl) rfl #[.agg #[.int .i64 a0_0, .slice A0_1 l0_1.length c0_1], .slice A1 l1.length c1] rfl (by (try simp only [List.map_toArray, List.map_cons, List.map_nil]); first | done | rfl | (simp only [List.length_drop, List.length_take]; rfl)) ?_; (with_reducible refine (liaison_opened.calls k a0_0 _ _ l0_1 _ _ l1 t345 t348 t349 _ ?side1 ?side2 ?side3 ?side4 A3.out).mono ?_); (case side1 => repeat (first | exact (Kd.C_below HR0_1.out HB.out) | (with_reducible refine Kd.C_alloc ?_ _) | (with_reducible refine Kd.C_drewN ?_ _) | (with_reducible refine Kd.C_drew ?_))); (case side2 => exact HC0_1.out); (case side3 => repeat (first | exact (Kd.C_below HR1.out HB.out) | (with_reducible refine Kd.C_alloc ?_ _) | (with_reducible refine Kd.C_drewN ?_ _) | (with_reducible refine Kd.C_drew ?_))); (case side4 => exact HC1.out); rintro e w8 ⟨v346, rfl, ho0, hb⟩; refine ⟨_, rfl, ?_⟩; have n0_ := Aside0.mk (Kd.R_lower ho0 (below_size (by repeat (first | (with_reducible first | exact HB.out | apply below_alloc | apply pw_below_drewN | apply below_drew1 | refine below_set ?_ GE344.out) | exact HB.out)))); have n1_ := Aside0.mk (blk_below (g := gb344) (o := .cells #[.int .i64 a0_0, .slice A0_1 l0_1.length c0_1] 28 (0, 0)) (by (with_reducible repeat (first | refine blk_drewN ?_ _ | refine blk_drew ?_ | refine blk_alloc ?_ _)); exact BK344.out) hb); have n2_ := Aside0.mk (below_step (by repeat (first | (with_reducible first | exact HB.out | apply below_alloc | apply pw_below_drewN | apply below_drew1 | refine below_set ?_ GE344.out) | exact HB.out)) hb); clear BK344; clear HB; have HO347 := n0_; have BK344 := n1_; have HB := n2_; clear n0_ n1_ n2_; (try clear hb); (try clear hb2); (try clear hk); (try clear hi); (try clear ho0); obtain ⟨Ao9, co9, eo9⟩ := Kd.R_slice HO347.out; subst eo9) | (go_at_call 35; (with_reducible refine (liaison_links_connected.calls k _ _ t345 t348 t350 _ ?side1 ?side2 ?side3 A5.out).mono ?_); (case side1 => repeat (first | exact (Kd.R_reads' HO347.out).2.2 | (with_reducible refine Kd.C_alloc ?_ _) | (with_reducible refine Kd.C_drewN ?_ _) | (with_reducible refine Kd.C_drew ?_))); (case side2 => exact (Kd.R_reads' HO347.out).2.1); (case side3 => repeat (first | exact (Kd.C_below HG.out HB.out) | (with_reducible refine Kd.C_alloc ?_ _) | (with_reducible refine Kd.C_drewN ?_ _) | (with_reducible refine Kd.C_drew ?_))); rintro e w10 ⟨rfl, hb⟩; have n0_ := Aside0.mk (Kd.R_below (by (with_reducible repeat (first | apply Kd.R_alloc | apply Kd.R_drewN | apply Kd.R_drew)); exact HO347.out) hb); have n1_ := Aside0.mk (blk_below (g := gb344) (o := .cells #[.int .i64 a0_0, .slice A0_1 l0_1.length c0_1] 28 (0, 0)) (by (with_reducible repeat (first | refine blk_drewN ?_ _ | refine blk_drew ?_ | refine blk_alloc ?_ _)); exact BK344.out) hb); have n2_ := Aside0.mk (below_step (by repeat (first | (with_reducible first | exact HB.out | apply below_alloc | apply pw_below_drewN | apply below_drew1 | refine below_set ?_ GE344.out) | exact HB.out)) hb); clear HO347; clear BK344; clear HB; have HO347 := n0_; have BK344 := n1_; have HB := n2_; clear n0_ n1_ n2_; (try clear hb); (try clear hb2); (try clear hk); (try clear hi)))
    go_ret2
    exact ⟨by first | rfl | (simp [errW_none, errW_some] <;> rfl) | (simp [*, errW_none, errW_some] <;> rfl), by repeat (first | (with_reducible first | exact HB.out | apply below_alloc | apply pw_below_drewN | apply below_drew1 | refine below_set ?_ GE344.out) | exact HB.out)⟩
  · rw [if_neg c4] at H
    have c4b0 : (t349 == 0) = false := beq_eq_false_iff_ne.mpr c4
    have c4b1 : (t349 != 0) = true := bne_iff_ne.mpr c4
    simp only [Option.some.injEq, Prod.mk.injEq] at H
    obtain ⟨rfl, rfl⟩ := H
    go_enter Tryd.func16, Tryd.ntmps16
    go_wp2_with (first | ((with_reducible refine gate_dst (N := 2) rfl ?_); refine box_event ?hg (N := 2) ?hd (cs := #[.int .i64 a0_0, .slice A0_1 l0_1.length c0_1]) (t := 28) ?hr ?_; (case hd => rfl); (case hg => rfl); (case hr => first | (go_simp; done) | (go_simp; rfl)); intro gb344 hg w11 hbox hb; have n0_ := Aside0.mk (below_step (by repeat (first | (with_reducible first | exact HB.out | apply below_alloc | apply pw_below_drewN | apply below_drew1) | exact HB.out)) hb); have n1_ := Aside0.mk (hbox); have n2_ := Aside0.mk ((by rw [hg]; exact (below_size (by repeat (first | (with_reducible first | exact HB.out | apply below_alloc | apply pw_below_drewN | apply below_drew1) | exact HB.out))) : w.heap.size ≤ gb344)); have n3_ := Aside0.mk ((by rw [hg]; exact (below_size (by repeat (first | (with_reducible first | exact HB.out | apply below_alloc | apply pw_below_drewN | apply below_drew1) | exact HB.out))) : w.heap.size ≤ gb344)); clear HB; have HB := n0_; have BK344 := n1_; have GW344 := n2_; have GE344 := n3_; clear n0_ n1_ n2_ n3_; clear hb hbox hg; have hcz12_0 : w11.cell? ⟨gb344, 0, none⟩ = some (.int .i64 a0_0) := (blk_cell BK344.out 0).trans rfl; have hcz12_1 : w11.cell? ⟨gb344, 1, none⟩ = some (.slice A0_1 l0_1.length c0_1) := (blk_cell BK344.out 1).trans rfl; have hfz12_0 := blk_frozen BK344.out 0; have hfz12_1 := blk_frozen BK344.out 1) | ((with_reducible refine gate_callee (f := 34) rfl ?_); refine goesL_ (some 12) rfl rfl Tryd.func34 (by kernel_rfl) rfl #[.agg #[.int .i64 a0_0, .slice A0_1 l0_1.length c0_1], .slice A1 l1.length c1] rfl (by (try simp only [List.map_toArray, List.map_cons, List.map_nil]); first | done | rfl | (simp only [List.length_drop, List.length_take]; rfl)) ?_; (with_reducible refine (liaison_opened.calls k a0_0 _ _ l0_1 _ _ l1 t345 t348 t349 _ ?side1 ?side2 ?side3 ?side4 A3.out).mono ?_); (case side1 => repeat (first | exact (Kd.C_below HR0_1.out HB.out) | (with_reducible refine Kd.C_alloc ?_ _) | (with_reducible refine Kd.C_drewN ?_ _) | (with_reducible refine Kd.C_drew ?_))); (case side2 => exact HC0_1.out); (case side3 => repeat (first | exact (Kd.C_below HR1.out HB.out) | (with_reducible refine Kd.C_alloc ?_ _) | (with_reducible refine Kd.C_drewN ?_ _) | (with_reducible refine Kd.C_drew ?_))); (case side4 => exact HC1.out); rintro e w13 ⟨v346, rfl, ho0, hb⟩; refine ⟨_, rfl, ?_⟩; have n0_ := Aside0.mk (Kd.R_lower ho0 (below_size (by repeat (first | (with_reducible first | exact HB.out | apply below_alloc | apply pw_below_drewN | apply below_drew1 | refine below_set ?_ GE344.out) | exact HB.out)))); have n1_ := Aside0.mk (blk_below (g := gb344) (o := .cells #[.int .i64 a0_0, .slice A0_1 l0_1.length c0_1] 28 (0, 0)) (by (with_reducible repeat (first | refine blk_drewN ?_ _ | refine blk_drew ?_ | refine blk_alloc ?_ _)); exact BK344.out) hb); have n2_ := Aside0.mk (below_step (by repeat (first | (with_reducible first | exact HB.out | apply below_alloc | apply pw_below_drewN | apply below_drew1 | refine below_set ?_ GE344.out) | exact HB.out)) hb); clear BK344; clear HB; have HO347 := n0_; have BK344 := n1_; have HB := n2_; clear n0_ n1_ n2_; (try clear hb); (try clear hb2); (try clear hk); (try clear hi); (try clear ho0)))
    go_ret2
    exact ⟨by first | rfl | (simp [errW_none, errW_some] <;> rfl) | (simp [*, errW_none, errW_some] <;> rfl), by repeat (first | (with_reducible first | exact HB.out | apply below_alloc | apply pw_below_drewN | apply below_drew1 | refine below_set ?_ GE344.out) | exact HB.out)⟩
end
end Go.Proofs.YtbghfbhlbfcloaaDoor.PL
namespace Go.Proofs.YtbghfbhlbfcloaaDoor.PL
section
open Go.RowKit Go.Proofs.YtbghfbhlbfcloaaDoorW.PrintWords Go.Proofs.YtbghfbhlbfcloaaDoorW.PrintLast Go.Proofs.YtbghfbhlbfcloaaDoorW.PrintMore
attribute [local go_sem] max2_int min2_int max_two min_two max_three min_three max_four min_four   -- for this text's walks alone
set_option linter.unusedVariables false
set_option linter.unusedSimpArgs false
/-! ### liaison_Pieces: function 17 -/
def liaison_Pieces.l0 : Nat → List Int → Int → List (List Int) → Option ((List (List Int)) × Int)
  | 0, _, _, _ => none
  | k + 1, x6, x7, x9 => if x7 = 0 then (some (x9, 0)) else ((liaison_links_piece.f k x6 x7).bind fun t357 => ((liaison_listed.f k t357).bind fun t358 => (if x9.length < 5864062014805 then (liaison_Pieces.l0 k x6 (Go.bits .andNot .u64 x7 t357) (x9 ++ [t358])) else (none))))
def liaison_Pieces.f (k : Nat) (a0_0 : Int) (l0_1 : List (S68)) (l1 : List Int) : Option ((List (List Int)) × Int) := (liaison_opened.f k a0_0 l0_1 l1).bind fun bt352 => (if bt352.2.2 = 0 then (liaison_Pieces.l0 k bt352.1 bt352.2.1 ([] : List (List Int))) else (some (([] : List (List Int)), bt352.2.2)))
theorem liaison_Pieces.mono_l : ∀ k, (∀ y0 y1 y2, LeO (liaison_Pieces.l0 k y0 y1 y2) (liaison_Pieces.l0 (k + 1) y0 y1 y2))
  | 0 => fun _ _ _ r h => by simp [liaison_Pieces.l0] at h
  | k + 1 => by
    have ih0 := liaison_Pieces.mono_l k
    · intro y0 y1 y2
      unfold liaison_Pieces.l0
      repeat' first
      | (with_reducible exact ih0 _ _ _)
      | (with_reducible exact liaison_links_piece.mono _ _ _)
      | (with_reducible exact liaison_listed.mono _ _)
      | (with_reducible exact liaison_opened.mono _ _ _ _)
      | (with_reducible exact LeO.refl _)
      | (with_reducible exact LeO.none _)
      | (with_reducible refine LeO.ite ?_ ?_)
      | (with_reducible refine LeO.bind ?_ (fun _ => ?_))
      | exact ih0 _ _ _
      | exact liaison_links_piece.mono _ _ _
      | exact liaison_listed.mono _ _
      | exact liaison_opened.mono _ _ _ _
      | exact LeO.none _
      | refine LeO.ite ?_ ?_
      | refine LeO.bind ?_ (fun _ => ?_)
theorem liaison_Pieces.mono : ∀ a0 a1 a2 k, LeO (liaison_Pieces.f k a0 a1 a2) (liaison_Pieces.f (k + 1) a0 a1 a2) := by
  intro a0 a1 a2 k
  have ih0 := liaison_Pieces.mono_l k
  unfold liaison_Pieces.f
  repeat' first
      | (with_reducible exact ih0 _ _ _)
      | (with_reducible exact liaison_links_piece.mono _ _ _)
      | (with_reducible exact liaison_listed.mono _ _)
      | (with_reducible exact liaison_opened.mono _ _ _ _)
      | (with_reducible exact LeO.refl _)
      | (with_reducible exact LeO.none _)
      | (with_reducible refine LeO.ite ?_ ?_)
      | (with_reducible refine LeO.bind ?_ (fun _ => ?_))
      | exact ih0 _ _ _
      | exact liaison_links_piece.mono _ _ _
      | exact liaison_listed.mono _ _
      | exact liaison_opened.mono _ _ _ _
      | exact LeO.none _
      | refine LeO.ite ?_ ?_
      | refine LeO.bind ?_ (fun _ => ?_)
set_option maxHeartbeats 8000000 in
set_option maxRecDepth 100000 in
theorem liaison_Pieces.calls (k : Nat) (a0_0 : Int) (A0_1 : Option Addr) (c0_1 : Nat) (l0_1 : List (S68)) (A1 : Option Addr) (c1 : Nat) (l1 : List Int) (r1 : List (List Int)) (r2 : Int) (w : World) (hr0_1 : Kd.C k68 w A0_1 l0_1.length l0_1) (hc0_1 : l0_1.length ≤ c0_1) (hr1 : Kd.C (Kd.int .i64) w A1 l1.length l1) (hc1 : l1.length ≤ c1) (hG : Kd.C (Kd.int .u8) w (some tabA) tabL.length tabL) (h : liaison_Pieces.f k a0_0 l0_1 l1 = some (r1, r2)) :
    Calls Tryd.prog 17 #[.agg #[.int .i64 a0_0, .slice A0_1 l0_1.length c0_1], .slice A1 l1.length c1] w fun e w' => ∃ v0_ : Value, e = .returned (.tuple #[v0_, .int .i64 r2]) ∧ Kd.S (Kd.slice 3 (Kd.int .i64)) 23 w' w.heap.size (fun _ => True) v0_ r1 ∧ Below w.heap.size w w' := by
  have hu28 := Tryd.underlying28
  have HR0_1 := Aside0.mk hr0_1
  have HC0_1 := Aside0.mk hc0_1
  clear hr0_1 hc0_1
  have HR1 := Aside0.mk hr1
  have HC1 := Aside0.mk hc1
  clear hr1 hc1
  have HB := Aside0.mk (Below.refl w.heap.size w)
  have HG := Aside0.mk hG
  clear hG
  have H : ((liaison_opened.f k a0_0 l0_1 l1).bind fun bt352 => (if bt352.2.2 = 0 then (liaison_Pieces.l0 k bt352.1 bt352.2.1 ([] : List (List Int))) else (some (([] : List (List Int)), bt352.2.2)))) = some (r1, r2) := h
  clear h
  replace H := Option.bind_eq_some_iff.mp H
  obtain ⟨⟨t352, t355, t356⟩, A30, H⟩ := H
  replace H : (if t356 = 0 then (liaison_Pieces.l0 k t352 t355 ([] : List (List Int))) else (some (([] : List (List Int)), t356))) = some (r1, r2) := H
  have A3 := Aside0.mk A30
  clear A30
  by_cases c4 : t356 = 0
  · rw [if_pos c4] at H
    have c4b0 : (t356 == 0) = true := beq_iff_eq.mpr c4
    have c4b1 : (t356 != 0) = false := bne_eq_false_iff_eq.mpr c4
    clear c4
    have H' := Aside0.mk H
    clear H
    go_enter Tryd.func17, Tryd.ntmps17
    go_wp2_with (first | ((with_reducible refine gate_dst (N := 2) rfl ?_); refine box_event ?hg (N := 2) ?hd (cs := #[.int .i64 a0_0, .slice A0_1 l0_1.length c0_1]) (t := 28) ?hr ?_; (case hd => rfl); (case hg => rfl); (case hr => first | (go_simp; done) | (go_simp; rfl)); intro gb351 hg w5 hbox hb; have n0_ := Aside0.mk (below_step (by repeat (first | (with_reducible first | exact HB.out | apply below_alloc | apply pw_below_drewN | apply below_drew1) | exact HB.out)) hb); have n1_ := Aside0.mk (hbox); have n2_ := Aside0.mk ((by rw [hg]; exact (below_size (by repeat (first | (with_reducible first | exact HB.out | apply below_alloc | apply pw_below_drewN | apply below_drew1) | exact HB.out))) : w.heap.size ≤ gb351)); have n3_ := Aside0.mk ((by rw [hg]; exact (below_size (by repeat (first | (with_reducible first | exact HB.out | apply below_alloc | apply pw_below_drewN | apply below_drew1) | exact HB.out))) : w.heap.size ≤ gb351)); clear HB; have HB := n0_; have BK351 := n1_; have GW351 := n2_; have GE351 := n3_; clear n0_ n1_ n2_ n3_; clear hb hbox hg; have hcz6_0 : w5.cell? ⟨gb351, 0, none⟩ = some (.int .i64 a0_0) := (blk_cell BK351.out 0).trans rfl; have hcz6_1 : w5.cell? ⟨gb351, 1, none⟩ = some (.slice A0_1 l0_1.length c0_1) := (blk_cell BK351.out 1).trans rfl; have hfz6_0 := blk_frozen BK351.out 0; have hfz6_1 := blk_frozen BK351.out 1) | ((with_reducible refine gate_callee (f := 34) rfl ?_); refine goesL_ (some 14) rfl rfl Tryd.func34 (by kernel_rfl) rfl #[.agg #[.int .i64 a0_0, .slice A0_1 l0_1.length c0_1], .slice A1 l1.length c1] rfl (by (try simp only [List.map_toArray, List.map_cons, List.map_nil]); first | done | rfl | (simp only [List.length_drop, List.length_take]; rfl)) ?_; (with_reducible refine (liaison_opened.calls k a0_0 _ _ l0_1 _ _ l1 t352 t355 t356 _ ?side1 ?side2 ?side3 ?side4 A3.out).mono ?_); (case side1 => repeat (first | exact (Kd.C_below HR0_1.out HB.out) | (with_reducible refine Kd.C_alloc ?_ _) | (with_reducible refine Kd.C_drewN ?_ _) | (with_reducible refine Kd.C_drew ?_))); (case side2 => exact HC0_1.out); (case side3 => repeat (first | exact (Kd.C_below HR1.out HB.out) | (with_reducible refine Kd.C_alloc ?_ _) | (with_reducible refine Kd.C_drewN ?_ _) | (with_reducible refine Kd.C_drew ?_))); (case side4 => exact HC1.out); rintro e w7 ⟨v353, rfl, ho0, hb⟩; refine ⟨_, rfl, ?_⟩; have n0_ := Aside0.mk (Kd.R_lower ho0 (below_size (by repeat (first | (with_reducible first | exact HB.out | apply below_alloc | apply pw_below_drewN | apply below_drew1 | refine below_set ?_ GE351.out) | exact HB.out)))); have n1_ := Aside0.mk (blk_below (g := gb351) (o := .cells #[.int .i64 a0_0, .slice A0_1 l0_1.length c0_1] 28 (0, 0)) (by (with_reducible repeat (first | refine blk_drewN ?_ _ | refine blk_drew ?_ | refine blk_alloc ?_ _)); exact BK351.out) hb); have n2_ := Aside0.mk (below_step (by repeat (first | (with_reducible first | exact HB.out | apply below_alloc | apply pw_below_drewN | apply below_drew1 | refine below_set ?_ GE351.out) | exact HB.out)) hb); clear BK351; clear HB; have HO354 := n0_; have BK351 := n1_; have HB := n2_; clear n0_ n1_ n2_; (try clear hb); (try clear hb2); (try clear hk); (try clear hi); (try clear ho0)))
    go_loopg [7, 9] k (fun kq v7 v9 w' => ∃ (x7_1 : Int) (x9_1 : List (List Int)), v7 = .int .u64 x7_1 ∧ Aside0 (liaison_Pieces.l0 kq t352 x7_1 x9_1 = some (r1, r2)) ∧ Aside0 (kq ≤ k) ∧ Aside0 (Kd.R (Kd.int .u64) 71 w' w.heap.size (fun _ => True) v353 t352) ∧ Aside0 (Kd.S (Kd.slice 3 (Kd.int .i64)) 23 w' w.heap.size (fun _ => True) v9 x9_1) ∧ Aside0 (w'.heap[gb351]? = some (.cells #[.int .i64 a0_0, (.slice A0_1 l0_1.length c0_1)] 28 (0, 0))) ∧ Aside0 (Below w.heap.size w w'))
    case atStart => exact ⟨(t355), (([] : List (List Int))), (by first | rfl | (simp; done) | (simp [*]; done)), H', ⟨Nat.le_refl _⟩, ⟨by (with_reducible repeat (first | apply Kd.R_alloc | apply Kd.R_drewN | apply Kd.R_drew)); exact HO354.out⟩, ⟨by first | exact Kd.S_nil _ _ _ _ _ | exact Kd.N_nil _ _ _ _ _ | exact Kd.V_nil _ _ _ _ _ | exact Kd.Q_nil _ _ _ _ _ | exact Kd.R_nil _ _ _ _ _⟩, ⟨by (with_reducible repeat (first | refine blk_drewN ?_ _ | refine blk_drew ?_ | refine blk_alloc ?_ _)); exact BK351.out⟩, ⟨by repeat (first | (with_reducible first | exact HB.out | apply below_alloc | apply pw_below_drewN | apply below_drew1 | refine below_set ?_ GE351.out) | exact HB.out)⟩⟩
    case round =>
      clear H'
      try clear c1
      try clear p2
      try clear c3
      try clear c4
      try clear c4b0
      try clear c4b1
      try clear hcz6_0
      try clear hcz6_1
      try clear hfz6_0
      try clear hfz6_1
      obtain ⟨x7_1, x9_1, rfl, HA, HK1, HO_6, HO_9, BK351, HB⟩ := hrel
      cases gk with
      | zero => exact absurd HA.out (by simp [liaison_Pieces.l0])
      | succ k1 =>
        have H := HA.out
        clear HA
        simp only [liaison_Pieces.l0] at H
        by_cases c8 : x7_1 = 0
        · rw [if_pos c8] at H
          have c8b0 : (x7_1 == 0) = true := beq_iff_eq.mpr c8
          have c8b1 : (x7_1 != 0) = false := bne_eq_false_iff_eq.mpr c8
          clear c8
          simp only [Option.some.injEq, Prod.mk.injEq] at H
          obtain ⟨rfl, rfl⟩ := H
          go_wp2
          go_ret2
          exact ⟨_, by first | rfl | (simp [errW_none, errW_some] <;> rfl) | (simp [*, errW_none, errW_some] <;> rfl), by (with_reducible repeat (first | apply Kd.S_alloc | apply Kd.S_drewN | apply Kd.S_drew)); exact HO_9.out, by repeat (first | (with_reducible first | exact HB.out | apply below_alloc | apply pw_below_drewN | apply below_drew1 | refine below_set ?_ GE351.out) | exact HB.out)⟩
        · rw [if_neg c8] at H
          have c8b0 : (x7_1 == 0) = false := beq_eq_false_iff_ne.mpr c8
          have c8b1 : (x7_1 != 0) = true := bne_iff_ne.mpr c8
          replace H := Option.bind_eq_some_iff.mp H
          obtain ⟨t357, A90, H⟩ := H
          replace H : ((liaison_listed.f k1 t357).bind fun t358 => (if x9_1.length < 5864062014805 then (liaison_Pieces.l0 k1 t352 (Go.bits .andNot .u64 x7_1 t357) (x9_1 ++ [t358])) else (none))) = some (r1, r2) := H
          have A9 := Aside0.mk A90
          clear A90
          replace H := Option.bind_eq_some_iff.mp H
          obtain ⟨t358, A100, H⟩ := H
          replace H : (if x9_1.length < 5864062014805 then (liaison_Pieces.l0 k1 t352 (Go.bits .andNot .u64 x7_1 t357) (x9_1 ++ [t358])) else (none)) = some (r1, r2) := H
          have A10 := Aside0.mk A100
          clear A100
          by_cases c11 : x9_1.length < 5864062014805
          · rw [if_pos c11] at H
            have LMc11 := Aside0.mk c11
            clear c11
            obtain ⟨y361, hy361⟩ : ∃ y_ : List (List Int), y_ = (x9_1 ++ [t358]) := ⟨_, rfl⟩
            replace H : (liaison_Pieces.l0 k1 t352 (Go.bits .andNot .u64 x7_1 t357) y361) = some (r1, r2) := by first | (rw [hy361]; with_reducible exact H) | (have H2_ := (Option.bind_some _ _).symm.trans H; rw [hy361]; with_reducible exact H2_) | (have H2_ := (Option.bind_some _ _).symm.trans H; with_reducible exact H2_) | with_reducible exact H | (rw [hy361]; exact H) | exact H
            have Ny361 := Aside0.mk hy361
            clear hy361
            have H' := Aside0.mk H
            clear H
            obtain ⟨Ao12, co12, eo12⟩ := Kd.R_slice HO_6.out
            subst eo12
            go_wp2_with (first | ((with_reducible refine gate_callee (f := 44) rfl ?_); refine goesL_ (some 25) rfl rfl Tryd.func44 (by kernel_rfl) rfl #[.slice Ao12 t352.length co12, .int .u64 x7_1] rfl (by (try simp only [List.map_toArray, List.map_cons, List.map_nil]); first | done | rfl | (simp only [List.length_drop, List.length_take]; rfl)) ?_; (with_reducible refine (liaison_links_piece.calls k1 _ _ t352 x7_1 t357 _ ?side1 ?side2 ?side3 A9.out).mono ?_); (case side1 => repeat (first | exact (Kd.R_reads' HO_6.out).2.2 | (with_reducible refine Kd.C_alloc ?_ _) | (with_reducible refine Kd.C_drewN ?_ _) | (with_reducible refine Kd.C_drew ?_))); (case side2 => exact (Kd.R_reads' HO_6.out).2.1); (case side3 => repeat (first | exact (Kd.C_below HG.out HB.out) | (with_reducible refine Kd.C_alloc ?_ _) | (with_reducible refine Kd.C_drewN ?_ _) | (with_reducible refine Kd.C_drew ?_))); rintro e w13 ⟨rfl, hb⟩; refine ⟨_, rfl, ?_⟩; have n0_ := Aside0.mk (Kd.R_below (by (with_reducible repeat (first | apply Kd.R_alloc | apply Kd.R_drewN | apply Kd.R_drew)); exact HO_6.out) hb); have n1_ := Aside0.mk (Kd.S_below (by (with_reducible repeat (first | apply Kd.S_alloc | apply Kd.S_drewN | apply Kd.S_drew)); exact HO_9.out) hb); have n2_ := Aside0.mk (blk_below (g := gb351) (o := .cells #[.int .i64 a0_0, .slice A0_1 l0_1.length c0_1] 28 (0, 0)) (by (with_reducible repeat (first | refine blk_drewN ?_ _ | refine blk_drew ?_ | refine blk_alloc ?_ _)); exact BK351.out) hb); have n3_ := Aside0.mk (below_step (by repeat (first | (with_reducible first | exact HB.out | apply below_alloc | apply pw_below_drewN | apply below_drew1 | refine below_set ?_ GE351.out) | exact HB.out)) hb); clear HO_6; clear HO_9; clear BK351; clear HB; have HO_6 := n0_; have HO_9 := n1_; have BK351 := n2_; have HB := n3_; clear n0_ n1_ n2_ n3_; (try clear hb); (try clear hb2); (try clear hk); (try clear hi)) | ((with_reducible refine gate_callee (f := 37) rfl ?_); refine goesL_ (some 28) rfl rfl Tryd.func37 (by kernel_rfl) rfl #[.int .u64 t357] rfl (by (try simp only [List.map_toArray, List.map_cons, List.map_nil]); first | done | rfl | (simp only [List.length_drop, List.length_take]; rfl)) ?_; (with_reducible refine (liaison_listed.calls k1 t357 t358 _ ?side1 A10.out).mono ?_); (case side1 => repeat (first | exact (Kd.C_below HG.out HB.out) | (with_reducible refine Kd.C_alloc ?_ _) | (with_reducible refine Kd.C_drewN ?_ _) | (with_reducible refine Kd.C_drew ?_))); rintro e w14 ⟨v359, rfl, ho0, hb⟩; refine ⟨_, rfl, ?_⟩; have n0_ := Aside0.mk (Kd.R_below (by (with_reducible repeat (first | apply Kd.R_alloc | apply Kd.R_drewN | apply Kd.R_drew)); exact HO_6.out) hb); have n1_ := Aside0.mk (Kd.S_elder' (by (with_reducible repeat (first | apply Kd.S_alloc | apply Kd.S_drewN | apply Kd.S_drew)); exact HO_9.out) (Kd.R_base ho0) hb); have n2_ := Aside0.mk (Kd.R_lower ho0 (below_size (by repeat (first | (with_reducible first | exact HB.out | apply below_alloc | apply pw_below_drewN | apply below_drew1 | refine below_set ?_ GE351.out) | exact HB.out)))); have n3_ := Aside0.mk (blk_below (g := gb351) (o := .cells #[.int .i64 a0_0, .slice A0_1 l0_1.length c0_1] 28 (0, 0)) (by (with_reducible repeat (first | refine blk_drewN ?_ _ | refine blk_drew ?_ | refine blk_alloc ?_ _)); exact BK351.out) hb); have n4_ := Aside0.mk (below_step (by repeat (first | (with_reducible first | exact HB.out | apply below_alloc | apply pw_below_drewN | apply below_drew1 | refine below_set ?_ GE351.out) | exact HB.out)) hb); clear HO_6; clear HO_9; clear BK351; clear HB; have HO_6 := n0_; have HO_9 := n1_; have HO360 := n2_; have BK351 := n3_; have HB := n4_; clear n0_ n1_ n2_ n3_ n4_; (try clear hb); (try clear hb2); (try clear hk); (try clear hi); (try clear ho0); obtain ⟨Ao16, co16, eo16⟩ := Kd.R_slice HO360.out; subst eo16) | ((with_reducible refine gate_builtin (b := .append) (xs := #[.tmp 26, .tmp 29]) rfl ?_); at_builtin; refine Kd.S_append (Kd.slice 3 (Kd.int .i64)) (w0 := w) w.heap.size rfl (.tmp 26) (.tmp 29) 45 23 (.slice none 0 0) 24 rfl Tryd.underlying45 info23 rfl (by decide) (by omega) u9 x9_1 t358 [.slice Ao16 t358.length co16] (fun _ => True) (fun k_ => some k_ = (.slice Ao16 t358.length co16 : Value).ownBlock) rfl rfl ?aP (fun k_ hk_ => ((Kd.R_mono (ok' := fun k_ => ((fun _ => True)) k_ ∧ some k_ ≠ (u9 : Value).ownBlock) (Kd.R_apart' (HO360.out) (Kd.S_typed HO_9.out) (by decide)) (fun k_ hk => ⟨trivial, hk.2⟩))).1 k_ hk_.symm) ?aF ?aO ?aB ?aS ?aL ?_; (case aP => exact Kd.M_row (Kd.R_mono (Kd.R_tight rfl (Kd.R_mono (ok' := fun k_ => ((fun _ => True)) k_ ∧ some k_ ≠ (u9 : Value).ownBlock) (Kd.R_apart' (HO360.out) (Kd.S_typed HO_9.out) (by decide)) (fun k_ hk => ⟨trivial, hk.2⟩))) (fun _ h_ => h_))); (case aB => exact (by repeat (first | (with_reducible first | exact HB.out | apply below_alloc | apply pw_below_drewN | apply below_drew1 | refine below_set ?_ GE351.out) | exact HB.out))); (case aF => exact (fun _ _ => trivial)); (case aO => exact (by (with_reducible repeat (first | apply Kd.S_alloc | apply Kd.S_drewN | apply Kd.S_drew)); exact Kd.S_mono HO_9.out (fun k_ hk => ⟨trivial, fun e_ => hk.2 e_⟩))); (case aS => exact (below_size (by repeat (first | (with_reducible first | exact HB.out | apply below_alloc | apply pw_below_drewN | apply below_drew1 | refine below_set ?_ GE351.out) | exact HB.out)))); (case aL => have := LMc11.out; omega); intro v362 w15 ho hb hg hat; rw [← Ny361.out] at ho; have n0_ := Aside0.mk (Kd.R_over' (by (with_reducible repeat (first | apply Kd.R_alloc | apply Kd.R_drewN | apply Kd.R_drew)); exact HO_6.out) (Kd.S_typed (by (with_reducible repeat (first | apply Kd.S_alloc | apply Kd.S_drewN | apply Kd.S_drew)); exact HO_9.out)) (by decide) hg); have n1_ := Aside0.mk (blk_grown (g := gb351) (o := .cells #[.int .i64 a0_0, .slice A0_1 l0_1.length c0_1] 28 (0, 0)) (by (with_reducible repeat (first | refine blk_drewN ?_ _ | refine blk_drew ?_ | refine blk_alloc ?_ _)); exact BK351.out) hg (Kd.S_ne HO_9.out BK351.out (by decide))); have n2_ := Aside0.mk (hb); have n3_ := Aside0.mk (ho); clear HO_6; clear BK351; clear HB; clear HO_9; clear HO360; have HO_6 := n0_; have BK351 := n1_; have HB := n2_; have HO363 := n3_; clear n0_ n1_ n2_ n3_; clear ho hb hg hat))
            go_roundg k1
            case measure => have := HK1.out; omega
            case rel => exact ⟨(Go.bits .andNot .u64 x7_1 t357), (y361), (by first | rfl | (simp; done) | (simp [*]; done)), H', ⟨by have := HK1.out; omega⟩, ⟨by (with_reducible repeat (first | apply Kd.R_alloc | apply Kd.R_drewN | apply Kd.R_drew)); exact HO_6.out⟩, ⟨by (with_reducible repeat (first | apply Kd.S_alloc | apply Kd.S_drewN | apply Kd.S_drew)); exact HO363.out⟩, ⟨by (with_reducible repeat (first | refine blk_drewN ?_ _ | refine blk_drew ?_ | refine blk_alloc ?_ _)); exact BK351.out⟩, ⟨by repeat (first | (with_reducible first | exact HB.out | apply below_alloc | apply pw_below_drewN | apply below_drew1 | refine below_set ?_ GE351.out) | exact HB.out)⟩⟩
          · rw [if_neg c11] at H
            exact absurd H (by simp)
  · rw [if_neg c4] at H
    have c4b0 : (t356 == 0) = false := beq_eq_false_iff_ne.mpr c4
    have c4b1 : (t356 != 0) = true := bne_iff_ne.mpr c4
    simp only [Option.some.injEq, Prod.mk.injEq] at H
    obtain ⟨rfl, rfl⟩ := H
    go_enter Tryd.func17, Tryd.ntmps17
    go_wp2_with (first | ((with_reducible refine gate_dst (N := 2) rfl ?_); refine box_event ?hg (N := 2) ?hd (cs := #[.int .i64 a0_0, .slice A0_1 l0_1.length c0_1]) (t := 28) ?hr ?_; (case hd => rfl); (case hg => rfl); (case hr => first | (go_simp; done) | (go_simp; rfl)); intro gb351 hg w17 hbox hb; have n0_ := Aside0.mk (below_step (by repeat (first | (with_reducible first | exact HB.out | apply below_alloc | apply pw_below_drewN | apply below_drew1) | exact HB.out)) hb); have n1_ := Aside0.mk (hbox); have n2_ := Aside0.mk ((by rw [hg]; exact (below_size (by repeat (first | (with_reducible first | exact HB.out | apply below_alloc | apply pw_below_drewN | apply below_drew1) | exact HB.out))) : w.heap.size ≤ gb351)); have n3_ := Aside0.mk ((by rw [hg]; exact (below_size (by repeat (first | (with_reducible first | exact HB.out | apply below_alloc | apply pw_below_drewN | apply below_drew1) | exact HB.out))) : w.heap.size ≤ gb351)); clear HB; have HB := n0_; have BK351 := n1_; have GW351 := n2_; have GE351 := n3_; clear n0_ n1_ n2_ n3_; clear hb hbox hg; have hcz18_0 : w17.cell? ⟨gb351, 0, none⟩ = some (.int .i64 a0_0) := (blk_cell BK351.out 0).trans rfl; have hcz18_1 : w17.cell? ⟨gb351, 1, none⟩ = some (.slice A0_1 l0_1.length c0_1) := (blk_cell BK351.out 1).trans rfl; have hfz18_0 := blk_frozen BK351.out 0; have hfz18_1 := blk_frozen BK351.out 1) | ((with_reducible refine gate_callee (f := 34) rfl ?_); refine goesL_ (some 14) rfl rfl Tryd.func34 (by kernel_rfl) rfl #[.agg #[.int .i64 a0_0, .slice A0_1 l0_1.length c0_1], .slice A1 l1.length c1] rfl (by (try simp only [List.map_toArray, List.map_cons, List.map_nil]); first | done | rfl | (simp only [List.length_drop, List.length_take]; rfl)) ?_; (with_reducible refine (liaison_opened.calls k a0_0 _ _ l0_1 _ _ l1 t352 t355 t356 _ ?side1 ?side2 ?side3 ?side4 A3.out).mono ?_); (case side1 => repeat (first | exact (Kd.C_below HR0_1.out HB.out) | (with_reducible refine Kd.C_alloc ?_ _) | (with_reducible refine Kd.C_drewN ?_ _) | (with_reducible refine Kd.C_drew ?_))); (case side2 => exact HC0_1.out); (case side3 => repeat (first | exact (Kd.C_below HR1.out HB.out) | (with_reducible refine Kd.C_alloc ?_ _) | (with_reducible refine Kd.C_drewN ?_ _) | (with_reducible refine Kd.C_drew ?_))); (case side4 => exact HC1.out); rintro e w19 ⟨v353, rfl, ho0, hb⟩; refine ⟨_, rfl, ?_⟩; have n0_ := Aside0.mk (Kd.R_lower ho0 (below_size (by repeat (first | (with_reducible first | exact HB.out | apply below_alloc | apply pw_below_drewN | apply below_drew1 | refine below_set ?_ GE351.out) | exact HB.out)))); have n1_ := Aside0.mk (blk_below (g := gb351) (o := .cells #[.int .i64 a0_0, .slice A0_1 l0_1.length c0_1] 28 (0, 0)) (by (with_reducible repeat (first | refine blk_drewN ?_ _ | refine blk_drew ?_ | refine blk_alloc ?_ _)); exact BK351.out) hb); have n2_ := Aside0.mk (below_step (by repeat (first | (with_reducible first | exact HB.out | apply below_alloc | apply pw_below_drewN | apply below_drew1 | refine below_set ?_ GE351.out) | exact HB.out)) hb); clear BK351; clear HB; have HO354 := n0_; have BK351 := n1_; have HB := n2_; clear n0_ n1_ n2_; (try clear hb); (try clear hb2); (try clear hk); (try clear hi); (try clear ho0)))
    go_ret2
    exact ⟨_, by first | rfl | (simp [errW_none, errW_some] <;> rfl) | (simp [*, errW_none, errW_some] <;> rfl), by first | exact Kd.S_nil _ _ _ _ _ | exact Kd.N_nil _ _ _ _ _ | exact Kd.V_nil _ _ _ _ _ | exact Kd.Q_nil _ _ _ _ _ | exact Kd.R_nil _ _ _ _ _, by repeat (first | (with_reducible first | exact HB.out | apply below_alloc | apply pw_below_drewN | apply below_drew1 | refine below_set ?_ GE351.out) | exact HB.out)⟩
end
end Go.Proofs.YtbghfbhlbfcloaaDoor.PL
namespace Go.Proofs
section
set_option linter.unusedVariables false
set_option linter.unusedSimpArgs false
open Go.Shelf
def Tryd.contG_ren : Go.Shelf.Ren := ⟨fun | 8 => 56 | 6 => 77 | n => n, fun | 22 => 52 | 23 => 57 | 25 => 94 | 4 => 4 | 3 => 3 | 0 => 0 | n => n, fun | n => n⟩
theorem Tryd.contG : Go.Proofs.SlLaysH0.n8 Tryd.prog Tryd.contG_ren := {
  mixed := by kernel_rfl
  f6 := ⟨Tryd.f77.name, by decide, Tryd.func77.trans (congrArg some (by kernel_rfl))⟩
  f8 := ⟨Tryd.f56.name, by decide, Tryd.func56.trans (congrArg some (by kernel_rfl))⟩
  t0 := Tryd.underlying0
  a0 := Tryd.isAgg0
  z0 := Tryd.sizeOf0
  v0 := Tryd.zeroValue0
  t3 := Tryd.underlying3
  a3 := Tryd.isAgg3
  z3 := Tryd.sizeOf3
  v3 := Tryd.zeroValue3
  t4 := Tryd.underlying4
  a4 := Tryd.isAgg4
  z4 := Tryd.sizeOf4
  v4 := Tryd.zeroValue4
  t22 := Tryd.underlying52
  a22 := Tryd.isAgg52
  z22 := Tryd.sizeOf52
  v22 := Tryd.zeroValue52
  t25 := Tryd.underlying94
  a25 := Tryd.isAgg94
  z25 := Tryd.sizeOf94
  v25 := Tryd.zeroValue94 }
def Tryd.contS_ren : Go.Shelf.Ren := ⟨fun | 17 => 75 | 15 => 96 | 20 => 112 | n => n, fun | 9 => 9 | 23 => 104 | 4 => 4 | 3 => 3 | 0 => 0 | 21 => 21 | n => n, fun | n => n⟩
theorem Tryd.contS : Go.Proofs.LaysGw.n17 Tryd.prog Tryd.contS_ren := {
  mixed := by kernel_rfl
  f15 := Tryd.func96.trans (congrArg some (by kernel_rfl))
  f17 := Tryd.func75.trans (congrArg some (by kernel_rfl))
  f20 := Tryd.func112.trans (congrArg some (by kernel_rfl))
  t0 := Tryd.underlying0
  a0 := Tryd.isAgg0
  z0 := Tryd.sizeOf0
  v0 := Tryd.zeroValue0
  i0 := by kernel_rfl
  t3 := Tryd.underlying3
  a3 := Tryd.isAgg3
  z3 := Tryd.sizeOf3
  v3 := Tryd.zeroValue3
  i3 := by kernel_rfl
  t4 := Tryd.underlying4
  a4 := Tryd.isAgg4
  z4 := Tryd.sizeOf4
  v4 := Tryd.zeroValue4
  i4 := by kernel_rfl
  t9 := Tryd.underlying9
  a9 := Tryd.isAgg9
  z9 := Tryd.sizeOf9
  v9 := Tryd.zeroValue9
  i9 := by kernel_rfl
  t21 := Tryd.underlying21
  a21 := Tryd.isAgg21
  z21 := Tryd.sizeOf21
  v21 := Tryd.zeroValue21
  i21 := by kernel_rfl
  t23 := Tryd.underlying104
  a23 := Tryd.isAgg104
  z23 := Tryd.sizeOf104
  v23 := Tryd.zeroValue104
  i23 := by kernel_rfl }
end
end Go.Proofs
namespace Go.Proofs.YtbghfbhlbfcloaaDoor.PL
section
open Go.RowKit Go.Proofs.YtbghfbhlbfcloaaDoorW.PrintWords Go.Proofs.YtbghfbhlbfcloaaDoorW.PrintLast Go.Proofs.YtbghfbhlbfcloaaDoorW.PrintMore
attribute [local go_sem] max2_int min2_int max_two min_two max_three min_three max_four min_four   -- for this text's walks alone
set_option linter.unusedVariables false
set_option linter.unusedSimpArgs false
/-! ### slices_Equal_int_int: function 60 -/
def slices_Equal_int_int.l0 : Nat → List Int → List Int → Int → Int → Option (Bool)
  | 0, _, _, _, _ => none
  | k + 1, x0, x1, x12, x13 => if x13 < x12 then (if 0 ≤ x13 then (if x13 < (x0.length : Int) then (if x13 < (x1.length : Int) then (if (rd x0 x13) = (rd x1 x13) then (slices_Equal_int_int.l0 k x0 x1 x12 (wrap64 (x13 + 1))) else (some false)) else (none)) else (none)) else (none)) else (some true)
def slices_Equal_int_int.f (k : Nat) (l0 : List Int) (l1 : List Int) : Option (Bool) := if (l0.length : Int) = (l1.length : Int) then (slices_Equal_int_int.l0 k l0 l1 (l0.length : Int) 0) else (some false)
theorem slices_Equal_int_int.mono_l : ∀ k, (∀ y0 y1 y2 y3, LeO (slices_Equal_int_int.l0 k y0 y1 y2 y3) (slices_Equal_int_int.l0 (k + 1) y0 y1 y2 y3))
  | 0 => fun _ _ _ _ r h => by simp [slices_Equal_int_int.l0] at h
  | k + 1 => by
    have ih0 := slices_Equal_int_int.mono_l k
    · intro y0 y1 y2 y3
      unfold slices_Equal_int_int.l0
      repeat' first
      | (with_reducible exact ih0 _ _ _ _)
      | (with_reducible exact LeO.refl _)
      | (with_reducible exact LeO.none _)
      | (with_reducible refine LeO.ite ?_ ?_)
      | (with_reducible refine LeO.bind ?_ (fun _ => ?_))
      | exact ih0 _ _ _ _
      | exact LeO.none _
      | refine LeO.ite ?_ ?_
      | refine LeO.bind ?_ (fun _ => ?_)
theorem slices_Equal_int_int.mono : ∀ a0 a1 k, LeO (slices_Equal_int_int.f k a0 a1) (slices_Equal_int_int.f (k + 1) a0 a1) := by
  intro a0 a1 k
  have ih0 := slices_Equal_int_int.mono_l k
  unfold slices_Equal_int_int.f
  repeat' first
      | (with_reducible exact ih0 _ _ _ _)
      | (with_reducible exact LeO.refl _)
      | (with_reducible exact LeO.none _)
      | (with_reducible refine LeO.ite ?_ ?_)
      | (with_reducible refine LeO.bind ?_ (fun _ => ?_))
      | exact ih0 _ _ _ _
      | exact LeO.none _
      | refine LeO.ite ?_ ?_
      | refine LeO.bind ?_ (fun _ => ?_)
set_option maxHeartbeats 8000000 in
set_option maxRecDepth 100000 in
theorem slices_Equal_int_int.calls (k : Nat) (A0 : Option Addr) (c0 : Nat) (l0 : List Int) (A1 : Option Addr) (c1 : Nat) (l1 : List Int) (r : Bool) (w : World) (hr0 : Kd.C (Kd.int .i64) w A0 l0.length l0) (hc0 : l0.length ≤ c0) (hr1 : Kd.C (Kd.int .i64) w A1 l1.length l1) (hc1 : l1.length ≤ c1) (h : slices_Equal_int_int.f k l0 l1 = some r) :
    Calls Tryd.prog 60 #[.slice A0 l0.length c0, .slice A1 l1.length c1] w fun e w' => e = .returned (.bool r) ∧ Drawn0 w w' := by
  have HR0 := Aside0.mk hr0
  have HC0 := Aside0.mk hc0
  clear hr0 hc0
  have HR1 := Aside0.mk hr1
  have HC1 := Aside0.mk hc1
  clear hr1 hc1
  have H : (if (l0.length : Int) = (l1.length : Int) then (slices_Equal_int_int.l0 k l0 l1 (l0.length : Int) 0) else (some false)) = some r := h
  clear h
  by_cases c3 : (l0.length : Int) = (l1.length : Int)
  · rw [if_pos c3] at H
    have c3b0 : ((l0.length : Int) == (l1.length : Int)) = true := beq_iff_eq.mpr c3
    have c3b1 : ((l0.length : Int) != (l1.length : Int)) = false := bne_eq_false_iff_eq.mpr c3
    have c3b2 : (l0.length == l1.length) = true := by first | simpa using c3 | (simp at c3 ⊢; omega)
    clear c3
    have H' := Aside0.mk H
    clear H
    go_enter Tryd.func60, Tryd.ntmps60
    go_wp2
    repeat (go_quiet (fail); try go_wp2)
    go_loopg [13] k (fun kq v13 w' => ∃ (x13_1 : Int), v13 = .int .i64 x13_1 ∧ Aside0 (slices_Equal_int_int.l0 kq l0 l1 (l0.length : Int) x13_1 = some r) ∧ Aside0 (kq ≤ k) ∧ Drawn0 w w')
    case atStart => exact ⟨(0), (by first | rfl | (simp; done) | (simp [*]; done)), H', ⟨Nat.le_refl _⟩, by repeat (first | exact Drawn0.refl _ | apply Drawn0.step)⟩
    case round =>
      clear H'
      try clear c1
      try clear p2
      try clear c3
      try clear c3b0
      try clear c3b1
      try clear c3b2
      obtain ⟨x13_1, rfl, HA, HK1, ⟨m1, rfl⟩⟩ := hrel
      cases gk with
      | zero => exact absurd HA.out (by simp [slices_Equal_int_int.l0])
      | succ k1 =>
        have H := HA.out
        clear HA
        simp only [slices_Equal_int_int.l0] at H
        by_cases c4 : x13_1 < (l0.length : Int)
        · rw [if_pos c4] at H
          have c4b0 : decide (x13_1 < (l0.length : Int)) = true := decide_eq_true c4
          clear c4
          by_cases c5 : 0 ≤ x13_1
          · rw [if_pos c5] at H
            have c5b0 : decide (0 ≤ x13_1) = true := decide_eq_true c5
            clear c5
            by_cases c6 : x13_1 < (l0.length : Int)
            · rw [if_pos c6] at H
              have c6b0 : decide (x13_1 < (l0.length : Int)) = true := decide_eq_true c6
              clear c6
              by_cases c7 : x13_1 < (l1.length : Int)
              · rw [if_pos c7] at H
                have c7b0 : decide (x13_1 < (l1.length : Int)) = true := decide_eq_true c7
                clear c7
                by_cases c8 : (rd l0 x13_1) = (rd l1 x13_1)
                · rw [if_pos c8] at H
                  have c8b0 : ((rd l0 x13_1) == (rd l1 x13_1)) = true := beq_iff_eq.mpr c8
                  have c8b1 : ((rd l0 x13_1) != (rd l1 x13_1)) = false := bne_eq_false_iff_eq.mpr c8
                  clear c8
                  have H' := Aside0.mk H
                  clear H
                  have p422 : 0 ≤ (x13_1 : Int) := of_decide_eq_true (by first | (with_reducible assumption) | assumption)
                  have q422 : x13_1 < (l0.length : Int) := of_decide_eq_true (by first | (with_reducible assumption) | assumption)
                  obtain ⟨ad422, e422, hx422_0⟩ := Kd.at_int HR0.out x13_1 p422 q422
                  cases e422
                  replace p422 := eq_true p422
                  replace q422 := eq_true q422
                  have p423 : 0 ≤ (x13_1 : Int) := of_decide_eq_true (by first | (with_reducible assumption) | assumption)
                  have q423 : x13_1 < (l1.length : Int) := of_decide_eq_true (by first | (with_reducible assumption) | assumption)
                  obtain ⟨ad423, e423, hx423_0⟩ := Kd.at_int HR1.out x13_1 p423 q423
                  cases e423
                  replace p423 := eq_true p423
                  replace q423 := eq_true q423
                  go_wp2
                  repeat (go_quiet (fail); try go_wp2)
                  go_roundg k1
                  case measure => have := HK1.out; omega
                  case rel => exact ⟨(wrap64 (x13_1 + 1)), (by first | rfl | (simp; done) | (simp [*]; done)), H', ⟨by have := HK1.out; omega⟩, by repeat (first | exact Drawn0.refl _ | apply Drawn0.step)⟩
                · rw [if_neg c8] at H
                  have c8b0 : ((rd l0 x13_1) == (rd l1 x13_1)) = false := beq_eq_false_iff_ne.mpr c8
                  have c8b1 : ((rd l0 x13_1) != (rd l1 x13_1)) = true := bne_iff_ne.mpr c8
                  obtain rfl := Option.some.inj H
                  have p422 : 0 ≤ (x13_1 : Int) := of_decide_eq_true (by first | (with_reducible assumption) | assumption)
                  have q422 : x13_1 < (l0.length : Int) := of_decide_eq_true (by first | (with_reducible assumption) | assumption)
                  obtain ⟨ad422, e422, hx422_0⟩ := Kd.at_int HR0.out x13_1 p422 q422
                  cases e422
                  replace p422 := eq_true p422
                  replace q422 := eq_true q422
                  have p423 : 0 ≤ (x13_1 : Int) := of_decide_eq_true (by first | (with_reducible assumption) | assumption)
                  have q423 : x13_1 < (l1.length : Int) := of_decide_eq_true (by first | (with_reducible assumption) | assumption)
                  obtain ⟨ad423, e423, hx423_0⟩ := Kd.at_int HR1.out x13_1 p423 q423
                  cases e423
                  replace p423 := eq_true p423
                  replace q423 := eq_true q423
                  go_wp2
                  repeat (go_quiet (fail); try go_wp2)
                  go_ret
                  exact ⟨by first | rfl | (simp; done) | (simp [*]; done), by repeat (first | exact Drawn0.refl _ | apply Drawn0.step)⟩
              · rw [if_neg c7] at H
                exact absurd H (by simp)
            · rw [if_neg c6] at H
              exact absurd H (by simp)
          · rw [if_neg c5] at H
            exact absurd H (by simp)
        · rw [if_neg c4] at H
          have c4b0 : decide (x13_1 < (l0.length : Int)) = false := decide_eq_false c4
          clear c4
          obtain rfl := Option.some.inj H
          go_wp2
          repeat (go_quiet (fail); try go_wp2)
          go_ret
          exact ⟨by first | rfl | (simp; done) | (simp [*]; done), by repeat (first | exact Drawn0.refl _ | apply Drawn0.step)⟩
  · rw [if_neg c3] at H
    have c3b0 : ((l0.length : Int) == (l1.length : Int)) = false := beq_eq_false_iff_ne.mpr c3
    have c3b1 : ((l0.length : Int) != (l1.length : Int)) = true := bne_iff_ne.mpr c3
    have c3b2 : (l0.length == l1.length) = false := by first | simpa using c3 | (simp at c3 ⊢; omega)
    obtain rfl := Option.some.inj H
    go_enter Tryd.func60, Tryd.ntmps60
    go_wp2
    repeat (go_quiet (fail); try go_wp2)
    go_ret
    exact ⟨by first | rfl | (simp; done) | (simp [*]; done), by repeat (first | exact Drawn0.refl _ | apply Drawn0.step)⟩
end
end Go.Proofs.YtbghfbhlbfcloaaDoor.PL
namespace Go.Proofs.YtbghfbhlbfcloaaDoor.PL
section
open Go.RowKit Go.Proofs.YtbghfbhlbfcloaaDoorW.PrintWords Go.Proofs.YtbghfbhlbfcloaaDoorW.PrintLast Go.Proofs.YtbghfbhlbfcloaaDoorW.PrintMore
set_option linter.unusedVariables false
set_option linter.unusedSimpArgs false

set_option maxHeartbeats 1000000 in
theorem clo57 (B : Nat) (s y0 : ByteArray) (v : Value) (W : World) (hc : W.cell? ⟨B, 0, none⟩ = some (.string s)) (A : Option Addr) (n c : Nat) (hv : v = .slice A n c) :
    Calls Tryd.prog 57 #[.agg #[.string y0, v], .pointer (some ⟨B, 0, none⟩)] W fun e w' => e = .returned (.bool (y0.toList == s.toList)) ∧ Below W.heap.size W w' := by
  subst hv
  have hu57 := Tryd.underlying57
  have hlt := World.block_lt_of_cell? W _ hc
  have hc2 := (below_alloc (Below.refl W.heap.size W) (.cells #[.string y0, .slice A n c] 57)).cell (p := ⟨B, 0, none⟩) hlt
  rw [hc] at hc2
  go_enter Tryd.func57, Tryd.ntmps57
  go_wp2
  go_ret
  exact ⟨rfl, below_alloc (Below.refl _ _) _⟩

set_option maxHeartbeats 1000000 in
theorem clo59 (k : Nat) (B : Nat) (y0 : ByteArray) (xs ys : List Int) (A A' : Option Addr) (c c' : Nat) (r : Bool) (W : World) (hc : W.cell? ⟨B, 1, none⟩ = some (.slice A xs.length c)) (hx : Kd.C (Kd.int .i64) W A xs.length xs) (hxc : xs.length ≤ c) (hy : Kd.C (Kd.int .i64) W A' ys.length ys) (hyc : ys.length ≤ c')
    (h : slices_Equal_int_int.f k xs ys = some r) :
    Calls Tryd.prog 59 #[.agg #[.string y0, .slice A' ys.length c'], .pointer (some ⟨B, 0, none⟩)] W fun e w' => e = .returned (.bool r) ∧ Below W.heap.size W w' := by
  have hu57 := Tryd.underlying57
  have hlt := World.block_lt_of_cell? W _ hc
  have hc2 := (below_alloc (Below.refl W.heap.size W) (.cells #[.string y0, .slice A' ys.length c'] 57)).cell (p := ⟨B, 1, none⟩) hlt
  rw [hc] at hc2
  have HE := Aside0.mk (slices_Equal_int_int.calls k A c xs A' c' ys r (W.alloc (.cells #[.string y0, .slice A' ys.length c'] 57)) (Kd.C_alloc hx _) hxc (Kd.C_alloc hy _) hyc h)
  clear hx hy hxc hyc h
  go_enter Tryd.func59, Tryd.ntmps59
  go_wp2_with (go_at_call 60; refine HE.out.mono ?_; rintro e w' ⟨rfl, ⟨nd, rfl⟩⟩)
  go_ret
  exact ⟨rfl, pw_below_drewN (below_alloc (Below.refl _ _) _) _⟩
end
end Go.Proofs.YtbghfbhlbfcloaaDoor.PL
namespace Go.Proofs.YtbghfbhlbfcloaaDoor.PL
section
open Go.RowKit Go.Proofs Go.Proofs.YtbghfbhlbfcloaaDoorW.PrintWords Go.Proofs.YtbghfbhlbfcloaaDoorW.PrintLast Go.Proofs.YtbghfbhlbfcloaaDoorW.PrintMore
set_option linter.unusedVariables false
set_option linter.unusedSimpArgs false

def badR (r : Nat) : Bool := decide (r < 33) || decide (126 < r)
def nameB (s : ByteArray) : Bool := decide (0 < s.size) && decide (s.size ≤ 40) && !(decide (0 ≤ Lib.idxFunc badR true s))

theorem pred76 (w : World) : PredAt Tryd.prog 76 #[] encR badR w := fun W r _ => by
  unfold FnGives
  by_cases h1 : (r : Int) < 33
  · have h2 : r < 33 := by omega
    go_enter Tryd.func76, Tryd.ntmps76
    go_wp2
    go_ret
    exact ⟨by simp [badR, h2], 0, rfl⟩
  · have h2 : ¬ r < 33 := by omega
    by_cases h3 : (126 : Int) < r
    · have h4 : 126 < r := by omega
      go_enter Tryd.func76, Tryd.ntmps76
      go_wp2
      go_ret
      exact ⟨by simp [badR, h4], 0, rfl⟩
    · have h4 : ¬ 126 < r := by omega
      go_enter Tryd.func76, Tryd.ntmps76
      go_wp2
      go_ret
      exact ⟨by simp [badR, h2, h4], 0, rfl⟩

theorem contS (s : ByteArray) (w : World) : Calls Tryd.prog 75 #[.string s, .func (.func 76) #[] #[]] w fun e w' => e = .returned (.bool (decide (0 ≤ Lib.idxFunc badR true s))) ∧ Below w.heap.size w w' :=
  Any.strings_ContainsFunc Tryd.contS 76 #[] (enters_of Tryd.func76 (by kernel_rfl) rfl) badR s w (pred76 w)

set_option maxHeartbeats 1000000 in
theorem nameC (s : ByteArray) (w : World) : Calls Tryd.prog 55 #[.string s] w fun e w' => e = .returned (.bool (nameB s)) ∧ Below w.heap.size w w' := by
  have HC := Aside0.mk (fun w => contS s w)
  by_cases h1 : (0 : Int) < s.size
  · by_cases h2 : (s.size : Int) ≤ 40
    · go_enter Tryd.func55, Tryd.ntmps55
      go_wp2_with (go_at_call 75; refine (HC.out _).mono ?_; rintro e w' ⟨rfl, hb⟩)
      go_ret
      have e : nameB s = !decide (0 ≤ Lib.idxFunc badR true s) := by unfold nameB; rw [decide_eq_true (show 0 < s.size by omega), decide_eq_true (show s.size ≤ 40 by omega)]; rfl
      exact ⟨by rw [e]; rfl, hb⟩
    · have e : nameB s = false := by unfold nameB; rw [decide_eq_false (show ¬ s.size ≤ 40 by omega), Bool.and_false]; rfl
      go_enter Tryd.func55, Tryd.ntmps55
      go_wp2
      go_ret
      exact ⟨rfl, Below.refl _ _⟩
  · have e : nameB s = false := by unfold nameB; rw [decide_eq_false (show ¬ 0 < s.size by omega)]; rfl
    go_enter Tryd.func55, Tryd.ntmps55
    go_wp2
    go_ret
    exact ⟨rfl, Below.refl _ _⟩

theorem any_take_succ {l : List S57} {p : S57 → Bool} {x : Nat} (h : x < l.length) : (l.take (x + 1)).any p = ((l.take x).any p || p (rd_T57 l (x : Int))) := by
  rw [List.take_succ_eq_append_getElem h, List.any_append]
  simp only [List.any_cons, List.any_nil, Bool.or_false]
  unfold rd_T57
  rw [Int.toNat_natCast, List.getD_eq_getElem?_getD, List.getElem?_eq_getElem h]
  rfl
theorem any_take_false {l : List S57} {p : S57 → Bool} {x i : Nat} (hx : x < i) (hi : i ≤ l.length) (h : p (rd_T57 l (x : Int)) = true) : (l.take i).any p = true := by
  rw [List.any_eq_true]
  refine ⟨rd_T57 l (x : Int), ?_, h⟩
  unfold rd_T57
  rw [Int.toNat_natCast, List.getD_eq_getElem?_getD, List.getElem?_eq_getElem (by omega)]
  rw [List.mem_iff_getElem?]
  exact ⟨x, by rw [List.getElem?_take_of_lt hx, List.getElem?_eq_getElem (by omega)]; rfl⟩
theorem rd_mem57 {l : List S57} {x : Nat} (h : x < l.length) : rd_T57 l (x : Int) ∈ l := by
  unfold rd_T57
  rw [Int.toNat_natCast, List.getD_eq_getElem?_getD, List.getElem?_eq_getElem h]
  exact List.getElem_mem h
/-- slices.IndexFunc at a part of the groups, with a closure that reads a group. -/
theorem idxG (A : Option Addr) (cc i : Nat) (l : List S57) (g : Nat) (lb : Array Value) (p : S57 → Bool) (w : World) (hr : Kd.C k57 w A l.length l) (hi : i ≤ l.length) (hl : l.length < 1000000) (eg : ∀ args w, (callFunc g args).run Tryd.prog w = .ok (.enter g args) w)
    (hp : ∀ (W : World) (y : S57) (cy : List Value), y ∈ l → Below w.heap.size w W → k57.K W y cy → Calls Tryd.prog g (#[.agg cy.toArray] ++ lb) W fun e w' => e = .returned (.bool (p y)) ∧ Below W.heap.size W w') :
    Calls Tryd.prog 77 #[.slice A i cc, .func (.func g) #[] lb] w fun e w' => ∃ r : Int, e = .returned (.int .i64 r) ∧ decide (0 ≤ r) = (l.take i).any p ∧ Below w.heap.size w w' := by
  have HP := Aside0.mk hp
  have HR := Aside0.mk hr
  have HL := Aside0.mk hl
  clear hp hr hl
  have hu57 := Tryd.underlying57
  go_enter Tryd.func77, Tryd.ntmps77
  go_wp2
  go_loopw [8] (fun v8 wr => ∃ x : Int, v8 = .int .i64 x ∧ 0 ≤ x ∧ x ≤ i ∧ Aside0 ((l.take x.toNat).any p = false) ∧ Aside0 (Below w.heap.size w wr)) (fun v8 _ => i - (intOf v8).toNat)
  case atStart => exact ⟨0, rfl, by omega, by omega, ⟨rfl⟩, ⟨Below.refl _ _⟩⟩
  case round =>
    obtain ⟨x, rfl, hx0, hxi, HN, HB⟩ := hrel
    have hle : (i : Int) < 1000000 := by have := HL.out; omega
    by_cases hlt : x < i
    · obtain ⟨y, hy⟩ : ∃ y : Nat, (y : Int) = x := ⟨x.toNat, by omega⟩
      obtain ⟨ad, A1, c1, rfl, ha0, ha1, hc1, hC1⟩ := at_T57 HR.out x (by omega) (by omega)
      have hb0 := (HB.out.cell (World.block_lt_of_cell? w _ ha0)).trans ha0
      have hb1 := (HB.out.cell (World.block_lt_of_cell? w _ ha1)).trans ha1
      have hmem : rd_T57 l x ∈ l := by rw [← hy]; exact rd_mem57 (by omega)
      have HK := Aside0.mk (HP.out wr (rd_T57 l x) [.string (rd_T57 l x).f0, .slice A1 (rd_T57 l x).f1.length c1] hmem HB.out (k57_mk wr (rd_T57 l x) hc1 (Kd.C_below hC1 HB.out)))
      clear ha0 ha1 hC1 hc1 hmem
      by_cases hpy : p (rd_T57 l x) = true
      · have HQ := Aside0.mk (any_take_false (x := y) (i := i) (by omega) hi (by rw [hy]; exact hpy))
        rw [hpy] at HK
        clear hpy hy
        generalize (rd_T57 l x).f0 = s0 at hb0 HK
        generalize (rd_T57 l x).f1.length = n1 at hb1 HK
        go_wp2_with (go_at_fn g; refine HK.out.mono ?_; rintro e w2 ⟨rfl, hb2⟩)
        go_ret
        exact ⟨x, rfl, by rw [HQ.out]; exact decide_eq_true hx0, HB.out.trans (hb2.mono HB.out.size)⟩
      · have HQ := Aside0.mk (any_take_succ (x := y) (l := l) (p := p) (by omega))
        rw [hy] at HQ
        have hpf : p (rd_T57 l x) = false := by simpa using hpy
        have e1 : (x + 1).toNat = y + 1 := by omega
        have e0 : x.toNat = y := by omega
        rw [hpf] at HK
        have HN2 : Aside0 ((l.take (x + 1).toNat).any p = false) := ⟨by rw [e1, HQ.out, ← e0, HN.out, hpf]; rfl⟩
        clear hpy hy HQ hpf e1 e0
        generalize (rd_T57 l x).f0 = s0 at hb0 HK
        generalize (rd_T57 l x).f1.length = n1 at hb1 HK
        go_wp2_with (go_at_fn g; refine HK.out.mono ?_; rintro e w2 ⟨rfl, hb2⟩)
        go_roundw
        case rel => exact ⟨x + 1, by go_num, by omega, by omega, HN2, ⟨HB.out.trans (hb2.mono HB.out.size)⟩⟩
        case measure => simp [intOf]; omega
    · go_wp2
      go_ret
      have e : x.toNat = i := by omega
      exact ⟨-1, rfl, by rw [← e, HN.out]; rfl, HB.out⟩

/-- slices.ContainsFunc at a part of the groups, with a closure that reads a group. -/
theorem contG (A : Option Addr) (cc i : Nat) (l : List S57) (g : Nat) (lb : Array Value) (p : S57 → Bool) (w : World) (hr : Kd.C k57 w A l.length l) (hi : i ≤ l.length) (hl : l.length < 1000000) (eg : ∀ args w, (callFunc g args).run Tryd.prog w = .ok (.enter g args) w)
    (hp : ∀ (W : World) (y : S57) (cy : List Value), y ∈ l → Below w.heap.size w W → k57.K W y cy → Calls Tryd.prog g (#[.agg cy.toArray] ++ lb) W fun e w' => e = .returned (.bool (p y)) ∧ Below W.heap.size W w') :
    Calls Tryd.prog 56 #[.slice A i cc, .func (.func g) #[] lb] w fun e w' => e = .returned (.bool ((l.take i).any p)) ∧ Below w.heap.size w w' := by
  have HI := Aside0.mk (idxG A cc i l g lb p w hr hi hl eg hp)
  clear hp hr
  go_enter Tryd.func56, Tryd.ntmps56
  go_wp2_with (go_at_call 77; refine HI.out.mono ?_; rintro e w2 ⟨r, rfl, hd, hb⟩)
  go_ret
  exact ⟨rfl, hb⟩
end
end Go.Proofs.YtbghfbhlbfcloaaDoor.PL
namespace Go.Proofs.YtbghfbhlbfcloaaDoor.PL
section
open Go.RowKit Go.Proofs Go.Proofs.YtbghfbhlbfcloaaDoorW.PrintWords Go.Proofs.YtbghfbhlbfcloaaDoorW.PrintLast Go.Proofs.YtbghfbhlbfcloaaDoorW.PrintMore
set_option linter.unusedVariables false
set_option linter.unusedSimpArgs false

def CG.k : Nat := 200
/-- slices.Equal, told plainly. -/
theorem equal_l (xs ys : List Int) (hxy : xs.length = ys.length) (hl : xs.length ≤ 150) : ∀ (k i : Nat), i ≤ xs.length → xs.length - i < k → slices_Equal_int_int.l0 k xs ys (xs.length : Int) (i : Int) = some (decide (xs.drop i = ys.drop i))
  | 0, i, _, h => absurd h (Nat.not_lt_zero _)
  | k + 1, i, hi, h => by
    unfold slices_Equal_int_int.l0
    by_cases hlt : i < xs.length
    · have ih := equal_l xs ys hxy hl k (i + 1) (by omega) (by omega)
      have h2 : i < ys.length := by omega
      rw [if_pos (by omega), if_pos (by omega), if_pos (by omega), if_pos (by omega)]
      have ex : xs.drop i = (Go.Proofs.YtbghfbhlbfcloaaDoorW.PrintWords.rd xs i) :: xs.drop (i + 1) := by
        rw [List.drop_eq_getElem_cons hlt]
        unfold Go.Proofs.YtbghfbhlbfcloaaDoorW.PrintWords.rd
        rw [Int.toNat_natCast, List.getD_eq_getElem?_getD, List.getElem?_eq_getElem hlt]
        rfl
      have ey : ys.drop i = (Go.Proofs.YtbghfbhlbfcloaaDoorW.PrintWords.rd ys i) :: ys.drop (i + 1) := by
        rw [List.drop_eq_getElem_cons h2]
        unfold Go.Proofs.YtbghfbhlbfcloaaDoorW.PrintWords.rd
        rw [Int.toNat_natCast, List.getD_eq_getElem?_getD, List.getElem?_eq_getElem h2]
        rfl
      rw [ex, ey]
      by_cases he : Go.Proofs.YtbghfbhlbfcloaaDoorW.PrintWords.rd xs (i : Int) = Go.Proofs.YtbghfbhlbfcloaaDoorW.PrintWords.rd ys (i : Int)
      · rw [if_pos he, he]
        have hw : wrap64 ((i : Int) + 1) = ((i + 1 : Nat) : Int) := by
          unfold wrap64
          omega
        rw [hw, ih]
        congr 1
        simp
      · rw [if_neg he]
        rw [decide_eq_false (fun e => he (by injection e))]
    · rw [if_neg (by omega)]
      have h1 : xs.drop i = [] := List.drop_eq_nil_of_le (by omega)
      have h2 : ys.drop i = [] := List.drop_eq_nil_of_le (by omega)
      rw [h1, h2]
      simp
theorem equal_f (xs ys : List Int) (hl : xs.length ≤ 150) : slices_Equal_int_int.f CG.k xs ys = some (decide (xs = ys)) := by
  unfold slices_Equal_int_int.f
  by_cases h : xs.length = ys.length
  · rw [if_pos (by omega)]
    have := equal_l xs ys h hl CG.k 0 (Nat.zero_le _) (by unfold CG.k; omega)
    simpa using this
  · rw [if_neg (by omega), decide_eq_false (fun e => h (by rw [e]))]

/-- Does a group's mask cross another's? -/
def CG.cross (m o : Int) : Bool := decide (Go.bits .and .u64 o m ≠ 0) && decide (Go.bits .and .u64 o m ≠ m) && decide (Go.bits .and .u64 o m ≠ o)
def CG.inn (m : Int) : List S57 → Option Bool
  | [] => some false
  | y :: r => (liaison_masked.f CG.k y.f1).bind fun o => if CG.cross m o = true then some true else CG.inn m r
/-- What a round says of group number i, x: 0: go on. -/
def CG.one (l : List S57) (n : Int) (i : Nat) (x : S57) : Option Int :=
  if nameB x.f0 = false then some 11 else
  if (l.take i).any (fun y => y.f0.toList == x.f0.toList) = true then some 9 else
  if (x.f1.length : Int) < 2 then some 7 else
  (liaison_ordered.f CG.k x.f1 n).bind fun e => if e ≠ 0 then some e else
  if (l.take i).any (fun y => decide (x.f1 = y.f1)) = true then some 9 else
  (liaison_masked.f CG.k x.f1).bind fun m => (CG.inn m (l.take i)).bind fun b => if b = true then some 17 else some 0
def CG.go (l : List S57) (n : Int) : Nat → List S57 → Option Int
  | _, [] => some 0
  | i, x :: r => (CG.one l n i x).bind fun e => if e = 0 then CG.go l n (i + 1) r else some e
def CG.f (l : List S57) (n : Int) : Option Int :=
  if n < 0 ∨ 12 < n then some 2 else if 32 < (l.length : Int) then some 6 else if (l.all fun x => decide (x.f1.length ≤ 150)) = true then CG.go l n 0 l else none

theorem drop57 (l : List S57) (x : Int) (h0 : 0 ≤ x) (h1 : x < l.length) : l.drop x.toNat = rd_T57 l x :: l.drop (x + 1).toNat := by
  rw [show (x + 1).toNat = x.toNat + 1 by omega, List.drop_eq_getElem_cons (show x.toNat < l.length by omega)]
  unfold rd_T57
  rw [List.getD_eq_getElem?_getD, List.getElem?_eq_getElem (show x.toNat < l.length by omega)]
  rfl
end
end Go.Proofs.YtbghfbhlbfcloaaDoor.PL
namespace Go.Proofs.YtbghfbhlbfcloaaDoor.PL
section
open Go.RowKit Go.Proofs Go.Proofs.YtbghfbhlbfcloaaDoorW.PrintWords Go.Proofs.YtbghfbhlbfcloaaDoorW.PrintLast Go.Proofs.YtbghfbhlbfcloaaDoorW.PrintMore
set_option linter.unusedVariables false
set_option linter.unusedSimpArgs false

theorem e57 : ∀ args w, (callFunc 57 args).run Tryd.prog w = .ok (.enter 57 args) w := enters_of Tryd.func57 (by kernel_rfl) rfl
theorem e59 : ∀ args w, (callFunc 59 args).run Tryd.prog w = .ok (.enter 59 args) w := enters_of Tryd.func59 (by kernel_rfl) rfl
set_option maxRecDepth 100000 in
set_option maxHeartbeats 4000000 in
theorem CG.calls (A0 : Option Addr) (c0 : Nat) (l0 : List S57) (a1 : Int) (r : Int) (w : World) (hr0 : Kd.C k57 w A0 l0.length l0) (hc0 : l0.length ≤ c0) (h : CG.f l0 a1 = some r) :
    Calls Tryd.prog 29 #[.slice A0 l0.length c0, .int .i64 a1] w fun e w' => e = .returned (.int .i64 r) ∧ Below w.heap.size w w' := by
  have hu57 := Tryd.underlying57
  unfold CG.f at h
  by_cases hn : a1 < 0 ∨ 12 < a1
  · rw [if_pos hn] at h
    injection h with h
    subst h
    by_cases hn0 : a1 < 0
    · go_enter Tryd.func29, Tryd.ntmps29
      go_wp2
      go_ret
      exact ⟨rfl, Below.refl _ _⟩
    · have hn1 : 12 < a1 := by omega
      go_enter Tryd.func29, Tryd.ntmps29
      go_wp2
      go_ret
      exact ⟨rfl, Below.refl _ _⟩
  · rw [if_neg hn] at h
    have hn0 : ¬ a1 < 0 := by omega
    have hn1 : ¬ 12 < a1 := by omega
    by_cases hl : 32 < (l0.length : Int)
    · rw [if_pos hl] at h
      injection h with h
      subst h
      go_enter Tryd.func29, Tryd.ntmps29
      go_wp2
      go_ret
      exact ⟨rfl, Below.refl _ _⟩
    · rw [if_neg hl] at h
      split at h
      case isFalse => cases h
      rename_i hall
      have HALL := Aside0.mk (List.all_eq_true.1 hall)
      have HR := Aside0.mk hr0
      have HC := Aside0.mk hc0
      have H' := Aside0.mk h
      have HL := Aside0.mk hl
      clear hall hr0 hc0 h hn
      go_enter Tryd.func29, Tryd.ntmps29
      go_wp2
      go_loopw [23] (fun v23 wr => ∃ x : Int, v23 = .int .i64 x ∧ 0 ≤ x ∧ x ≤ l0.length ∧ Aside0 (CG.go l0 a1 x.toNat (l0.drop x.toNat) = some r) ∧ Aside0 (Below w.heap.size w wr)) (fun v23 _ => l0.length - (intOf v23).toNat)
      case atStart => exact ⟨0, rfl, by omega, by omega, ⟨by rw [show (0 : Int).toNat = 0 from rfl, List.drop_zero]; exact H'.out⟩, ⟨Below.refl _ _⟩⟩
      case round =>
        clear H'
        obtain ⟨x, rfl, hx0, hx1, HG, HB⟩ := hrel
        have hle : (l0.length : Int) ≤ 32 := by have := HL.out; omega
        by_cases hlt : x < l0.length
        · have hg := HG.out
          rw [drop57 l0 x hx0 hlt] at hg
          unfold CG.go at hg
          obtain ⟨e, he, hg⟩ := Option.bind_eq_some_iff.1 hg
          have HE := Aside0.mk he
          have HG2 := Aside0.mk hg
          clear he hg HG
          obtain ⟨ad, A1, c1, rfl, ha0, ha1, hc1, hC1⟩ := at_T57 HR.out x (by omega) (by omega)
          have hb0 := (HB.out.cell (World.block_lt_of_cell? w _ ha0)).trans ha0
          have hb1 := (HB.out.cell (World.block_lt_of_cell? w _ ha1)).trans ha1
          have HC1 := Aside0.mk hC1
          have HCC1 := Aside0.mk hc1
          have HXL := Aside0.mk (show (rd_T57 l0 x).f1.length ≤ 150 by
            have hm : rd_T57 l0 x ∈ l0 := by
              have := rd_mem57 (l := l0) (x := x.toNat) (by omega)
              rwa [show ((x.toNat : Nat) : Int) = x by omega] at this
            have := HALL.out _ hm
            simpa using this)
          clear ha0 ha1 hC1 hc1
          generalize hX : rd_T57 l0 x = X at hb0 hb1 HE HC1 HCC1 HXL
          have HXX := Aside0.mk hX
          clear hX
          obtain ⟨s0, ms⟩ := X
          dsimp only at hb0 hb1 HC1 HCC1 HXL
          have K59 : ∀ (B : Nat) (W : World), W.heap[B]? = some (.cells #[.string s0, .slice A1 ms.length c1] 57 (0, 0)) → Below w.heap.size w W →
              ∀ (W2 : World) (y : S57) (cy : List Value), y ∈ l0 → Below W.heap.size W W2 → k57.K W2 y cy → Calls Tryd.prog 59 (#[.agg cy.toArray] ++ #[.pointer (some ⟨B, 0, none⟩)]) W2 fun e w' => e = .returned (.bool (decide (ms = y.f1))) ∧ Below W2.heap.size W2 w' := by
            intro B W hB hW W2 y cy hy hW2 hk
            obtain ⟨A, c, rfl, h1, h2⟩ := k57_open hk
            have hB2 := blk_below hB hW2
            exact clo59 CG.k B y.f0 ms y.f1 A1 A c1 c _ W2 ((blk_cell hB2 1).trans rfl) (Kd.C_below (Kd.C_below HC1.out hW) hW2) HCC1.out h2 h1 (equal_f ms y.f1 HXL.out)
          have K57 : ∀ (B : Nat) (W : World), W.heap[B]? = some (.cells #[.string s0, .slice A1 ms.length c1] 57 (0, 0)) →
              ∀ (W2 : World) (y : S57) (cy : List Value), y ∈ l0 → Below W.heap.size W W2 → k57.K W2 y cy → Calls Tryd.prog 57 (#[.agg cy.toArray] ++ #[.pointer (some ⟨B, 0, none⟩)]) W2 fun e w' => e = .returned (.bool (y.f0.toList == s0.toList)) ∧ Below W2.heap.size W2 w' := by
            intro B W hB W2 y cy hy hW2 hk
            obtain ⟨A, c, rfl, h1, h2⟩ := k57_open hk
            have hB2 := blk_below hB hW2
            exact clo57 B s0 y.f0 (.slice A y.f1.length c) W2 ((blk_cell hB2 0).trans rfl) A y.f1.length c rfl
          have HK57 := Aside0.mk K57
          have HK59 := Aside0.mk K59
          clear K57 K59
          have hxc : x ≤ (c0 : Int) := by have := HC.out; omega
          have hcz : (c0 = 0) = False := eq_false (by have := HC.out; omega)
          have he := HE.out
          unfold CG.one at he
          dsimp only at he
          cases q1 : nameB s0 with
          | false =>
            rw [q1, if_pos rfl] at he
            injection he with he
            subst he
            have hg := HG2.out
            rw [if_neg (by decide)] at hg
            injection hg with hg
            subst hg
            go_wp2_with (first | (go_at_call 55; refine (nameC s0 _).mono ?_; rintro e w2 ⟨rfl, hb2⟩; have hk2 := blk_below (blk_new wr (.cells #[.string s0, .slice A1 ms.length c1] 57)) hb2; have HK2 := Aside0.mk hk2; have hz2 : w2.cell? ⟨wr.heap.size, 1, none⟩ = some (.slice A1 ms.length c1) := (blk_cell hk2 1).trans rfl; have HB2 := Aside0.mk ((below_alloc HB.out _).trans (hb2.mono (by have := HB.out.size; simp; omega))); clear hb2 hk2))
            go_ret
            exact ⟨rfl, HB2.out⟩
          | true =>
            rw [q1, if_neg (by decide)] at he
            cases q2 : (l0.take x.toNat).any (fun y => y.f0.toList == s0.toList) with
            | true =>
              rw [q2, if_pos rfl] at he
              injection he with he
              subst he
              have hg := HG2.out
              rw [if_neg (by decide)] at hg
              injection hg with hg
              subst hg
              go_wp2_with (first | (go_at_call 55; refine (nameC s0 _).mono ?_; rintro e w2 ⟨rfl, hb2⟩; have hk2 := blk_below (blk_new wr (.cells #[.string s0, .slice A1 ms.length c1] 57)) hb2; have HK2 := Aside0.mk hk2; have hz2 : w2.cell? ⟨wr.heap.size, 1, none⟩ = some (.slice A1 ms.length c1) := (blk_cell hk2 1).trans rfl; have HB2 := Aside0.mk ((below_alloc HB.out _).trans (hb2.mono (by have := HB.out.size; simp; omega))); clear hb2 hk2) | (go_at_call 56; with_reducible refine (contG (some ad) c0 x.toNat l0 57 #[.pointer (some ⟨wr.heap.size, 0, none⟩)] (fun y => y.f0.toList == s0.toList) w2 (Kd.C_below HR.out HB2.out) (by omega) (by omega) e57 (HK57.out wr.heap.size w2 HK2.out)).mono ?_; rintro e w3 ⟨rfl, hb3⟩; have hk3 := blk_below HK2.out hb3; have HK3 := Aside0.mk hk3; have hz3 : w3.cell? ⟨wr.heap.size, 1, none⟩ = some (.slice A1 ms.length c1) := (blk_cell hk3 1).trans rfl; have HB3 := Aside0.mk (HB2.out.trans (hb3.mono HB2.out.size)); clear hb3 hk3))
              go_ret
              exact ⟨rfl, HB3.out⟩
            | false =>
              rw [q2, if_neg (by decide)] at he
              by_cases q3 : (ms.length : Int) < 2
              · rw [if_pos q3] at he
                injection he with he
                subst he
                have hg := HG2.out
                rw [if_neg (by decide)] at hg
                injection hg with hg
                subst hg
                go_wp2_with (first | (go_at_call 55; refine (nameC s0 _).mono ?_; rintro e w2 ⟨rfl, hb2⟩; have hk2 := blk_below (blk_new wr (.cells #[.string s0, .slice A1 ms.length c1] 57)) hb2; have HK2 := Aside0.mk hk2; have hz2 : w2.cell? ⟨wr.heap.size, 1, none⟩ = some (.slice A1 ms.length c1) := (blk_cell hk2 1).trans rfl; have HB2 := Aside0.mk ((below_alloc HB.out _).trans (hb2.mono (by have := HB.out.size; simp; omega))); clear hb2 hk2) | (go_at_call 56; with_reducible refine (contG (some ad) c0 x.toNat l0 57 #[.pointer (some ⟨wr.heap.size, 0, none⟩)] (fun y => y.f0.toList == s0.toList) w2 (Kd.C_below HR.out HB2.out) (by omega) (by omega) e57 (HK57.out wr.heap.size w2 HK2.out)).mono ?_; rintro e w3 ⟨rfl, hb3⟩; have hk3 := blk_below HK2.out hb3; have HK3 := Aside0.mk hk3; have hz3 : w3.cell? ⟨wr.heap.size, 1, none⟩ = some (.slice A1 ms.length c1) := (blk_cell hk3 1).trans rfl; have HB3 := Aside0.mk (HB2.out.trans (hb3.mono HB2.out.size)); clear hb3 hk3))
                go_ret
                exact ⟨rfl, HB3.out⟩
              · rw [if_neg q3] at he
                obtain ⟨e58, he58, he⟩ := Option.bind_eq_some_iff.1 he
                have HE58 := Aside0.mk he58
                clear he58
                by_cases h58 : e58 = 0
                case neg =>
                  have q58 : (e58 != 0) = true := by simpa using h58
                  rw [if_pos h58] at he
                  injection he with he
                  subst he
                  have hg := HG2.out
                  rw [if_neg (by exact h58)] at hg
                  injection hg with hg
                  subst hg
                  go_wp2_with (first | (go_at_call 55; refine (nameC s0 _).mono ?_; rintro e w2 ⟨rfl, hb2⟩; have hk2 := blk_below (blk_new wr (.cells #[.string s0, .slice A1 ms.length c1] 57)) hb2; have HK2 := Aside0.mk hk2; have hz2 : w2.cell? ⟨wr.heap.size, 1, none⟩ = some (.slice A1 ms.length c1) := (blk_cell hk2 1).trans rfl; have HB2 := Aside0.mk ((below_alloc HB.out _).trans (hb2.mono (by have := HB.out.size; simp; omega))); clear hb2 hk2) | (go_at_call 56; with_reducible refine (contG (some ad) c0 x.toNat l0 57 #[.pointer (some ⟨wr.heap.size, 0, none⟩)] (fun y => y.f0.toList == s0.toList) w2 (Kd.C_below HR.out HB2.out) (by omega) (by omega) e57 (HK57.out wr.heap.size w2 HK2.out)).mono ?_; rintro e w3 ⟨rfl, hb3⟩; have hk3 := blk_below HK2.out hb3; have HK3 := Aside0.mk hk3; have hz3 : w3.cell? ⟨wr.heap.size, 1, none⟩ = some (.slice A1 ms.length c1) := (blk_cell hk3 1).trans rfl; have HB3 := Aside0.mk (HB2.out.trans (hb3.mono HB2.out.size)); clear hb3 hk3) | (go_at_call 58; refine (liaison_ordered.calls CG.k A1 c1 ms a1 e58 w3 (Kd.C_below HC1.out HB3.out) HCC1.out HE58.out).mono ?_; rintro e w4 ⟨rfl, ⟨nd, rfl⟩⟩; have hk4 := blk_drewN HK3.out nd; have HK4 := Aside0.mk hk4; have hz4 : (w3.drewN nd).cell? ⟨wr.heap.size, 1, none⟩ = some (.slice A1 ms.length c1) := (blk_cell hk4 1).trans rfl; have HB4 := Aside0.mk (pw_below_drewN HB3.out nd); clear hk4))
                  go_ret
                  exact ⟨rfl, HB4.out⟩
                case pos =>
                  rw [if_neg (fun h => h h58)] at he
                  subst h58
                  cases q5 : (l0.take x.toNat).any (fun y => decide (ms = y.f1)) with
                  | true =>
                    rw [q5, if_pos rfl] at he
                    injection he with he
                    subst he
                    have hg := HG2.out
                    rw [if_neg (by decide)] at hg
                    injection hg with hg
                    subst hg
                    go_wp2_with (first | (go_at_call 55; refine (nameC s0 _).mono ?_; rintro e w2 ⟨rfl, hb2⟩; have hk2 := blk_below (blk_new wr (.cells #[.string s0, .slice A1 ms.length c1] 57)) hb2; have HK2 := Aside0.mk hk2; have hz2 : w2.cell? ⟨wr.heap.size, 1, none⟩ = some (.slice A1 ms.length c1) := (blk_cell hk2 1).trans rfl; have HB2 := Aside0.mk ((below_alloc HB.out _).trans (hb2.mono (by have := HB.out.size; simp; omega))); clear hb2 hk2) | (go_at_call 56; with_reducible refine (contG (some ad) c0 x.toNat l0 57 #[.pointer (some ⟨wr.heap.size, 0, none⟩)] (fun y => y.f0.toList == s0.toList) w2 (Kd.C_below HR.out HB2.out) (by omega) (by omega) e57 (HK57.out wr.heap.size w2 HK2.out)).mono ?_; rintro e w3 ⟨rfl, hb3⟩; have hk3 := blk_below HK2.out hb3; have HK3 := Aside0.mk hk3; have hz3 : w3.cell? ⟨wr.heap.size, 1, none⟩ = some (.slice A1 ms.length c1) := (blk_cell hk3 1).trans rfl; have HB3 := Aside0.mk (HB2.out.trans (hb3.mono HB2.out.size)); clear hb3 hk3) | (go_at_call 58; refine (liaison_ordered.calls CG.k A1 c1 ms a1 0 w3 (Kd.C_below HC1.out HB3.out) HCC1.out HE58.out).mono ?_; rintro e w4 ⟨rfl, ⟨nd, rfl⟩⟩; have hk4 := blk_drewN HK3.out nd; have HK4 := Aside0.mk hk4; have hz4 : (w3.drewN nd).cell? ⟨wr.heap.size, 1, none⟩ = some (.slice A1 ms.length c1) := (blk_cell hk4 1).trans rfl; have HB4 := Aside0.mk (pw_below_drewN HB3.out nd); clear hk4) | (go_at_call 56; with_reducible refine (contG (some ad) c0 x.toNat l0 59 #[.pointer (some ⟨wr.heap.size, 0, none⟩)] (fun y => decide (ms = y.f1)) _ (Kd.C_below HR.out HB4.out) (by omega) (by omega) e59 (HK59.out wr.heap.size _ HK4.out HB4.out)).mono ?_; rintro e w5 ⟨rfl, hb5⟩; have hk5 := blk_below HK4.out hb5; have HK5 := Aside0.mk hk5; have hz5 : w5.cell? ⟨wr.heap.size, 1, none⟩ = some (.slice A1 ms.length c1) := (blk_cell hk5 1).trans rfl; have HB5 := Aside0.mk (HB4.out.trans (hb5.mono HB4.out.size)); clear hb5 hk5))
                    go_ret
                    exact ⟨rfl, HB5.out⟩
                  | false =>
                    rw [q5, if_neg (by decide)] at he
                    obtain ⟨m, hm, he⟩ := Option.bind_eq_some_iff.1 he
                    obtain ⟨b, hb, he⟩ := Option.bind_eq_some_iff.1 he
                    have HM := Aside0.mk hm
                    have HI := Aside0.mk hb
                    have HEE := Aside0.mk he
                    clear hm hb he
                    go_wp2_with (first | (go_at_call 55; refine (nameC s0 _).mono ?_; rintro e w2 ⟨rfl, hb2⟩; have hk2 := blk_below (blk_new wr (.cells #[.string s0, .slice A1 ms.length c1] 57)) hb2; have HK2 := Aside0.mk hk2; have hz2 : w2.cell? ⟨wr.heap.size, 1, none⟩ = some (.slice A1 ms.length c1) := (blk_cell hk2 1).trans rfl; have HB2 := Aside0.mk ((below_alloc HB.out _).trans (hb2.mono (by have := HB.out.size; simp; omega))); clear hb2 hk2) | (go_at_call 56; with_reducible refine (contG (some ad) c0 x.toNat l0 57 #[.pointer (some ⟨wr.heap.size, 0, none⟩)] (fun y => y.f0.toList == s0.toList) w2 (Kd.C_below HR.out HB2.out) (by omega) (by omega) e57 (HK57.out wr.heap.size w2 HK2.out)).mono ?_; rintro e w3 ⟨rfl, hb3⟩; have hk3 := blk_below HK2.out hb3; have HK3 := Aside0.mk hk3; have hz3 : w3.cell? ⟨wr.heap.size, 1, none⟩ = some (.slice A1 ms.length c1) := (blk_cell hk3 1).trans rfl; have HB3 := Aside0.mk (HB2.out.trans (hb3.mono HB2.out.size)); clear hb3 hk3) | (go_at_call 58; refine (liaison_ordered.calls CG.k A1 c1 ms a1 0 w3 (Kd.C_below HC1.out HB3.out) HCC1.out HE58.out).mono ?_; rintro e w4 ⟨rfl, ⟨nd, rfl⟩⟩; have hk4 := blk_drewN HK3.out nd; have HK4 := Aside0.mk hk4; have hz4 : (w3.drewN nd).cell? ⟨wr.heap.size, 1, none⟩ = some (.slice A1 ms.length c1) := (blk_cell hk4 1).trans rfl; have HB4 := Aside0.mk (pw_below_drewN HB3.out nd); clear hk4) | (go_at_call 56; with_reducible refine (contG (some ad) c0 x.toNat l0 59 #[.pointer (some ⟨wr.heap.size, 0, none⟩)] (fun y => decide (ms = y.f1)) _ (Kd.C_below HR.out HB4.out) (by omega) (by omega) e59 (HK59.out wr.heap.size _ HK4.out HB4.out)).mono ?_; rintro e w5 ⟨rfl, hb5⟩; have hk5 := blk_below HK4.out hb5; have HK5 := Aside0.mk hk5; have hz5 : w5.cell? ⟨wr.heap.size, 1, none⟩ = some (.slice A1 ms.length c1) := (blk_cell hk5 1).trans rfl; have HB5 := Aside0.mk (HB4.out.trans (hb5.mono HB4.out.size)); clear hb5 hk5) | (go_at_call 47; refine (liaison_masked.calls CG.k A1 c1 ms m w5 (Kd.C_below HC1.out HB5.out) HCC1.out HM.out).mono ?_; rintro e w6 ⟨rfl, ⟨nd6, rfl⟩⟩; have HB6 := Aside0.mk (pw_below_drewN HB5.out nd6)))
                    go_loopw [60] (fun v60 wi => ∃ y : Int, v60 = .int .i64 y ∧ 0 ≤ y ∧ y ≤ x ∧ Aside0 (CG.inn m ((l0.take x.toNat).drop y.toNat) = some b) ∧ Aside0 (Below w.heap.size w wi)) (fun v60 _ => l0.length - (intOf v60).toNat)
                    case atStart => exact ⟨0, rfl, by omega, by omega, ⟨by rw [show (0 : Int).toNat = 0 from rfl, List.drop_zero]; exact HI.out⟩, HB6⟩
                    case round =>
                      clear HI
                      obtain ⟨y, rfl, hy0, hy1, HII, HBI⟩ := hrel
                      have hlex : x ≤ 32 := by omega
                      by_cases hlty : y < x
                      · have hi := HII.out
                        have hd : (l0.take x.toNat).drop y.toNat = rd_T57 l0 y :: (l0.take x.toNat).drop (y + 1).toNat := by
                          have h1 := drop57 (l0.take x.toNat) y hy0 (by rw [List.length_take]; omega)
                          rw [h1]
                          congr 1
                          unfold rd_T57
                          rw [List.getD_eq_getElem?_getD, List.getD_eq_getElem?_getD, List.getElem?_take_of_lt (by omega)]
                        rw [hd] at hi
                        unfold CG.inn at hi
                        obtain ⟨o, ho, hi⟩ := Option.bind_eq_some_iff.1 hi
                        have HO := Aside0.mk ho
                        clear ho hd HII
                        obtain ⟨ad2, A2, c2, hade, hd0, hd1, hc2, hC2⟩ := at_T57 HR.out y (by omega) (by omega)
                        injection hade with hade
                        subst hade
                        have hb20 := (HBI.out.cell (World.block_lt_of_cell? w _ hd0)).trans hd0
                        have hb21 := (HBI.out.cell (World.block_lt_of_cell? w _ hd1)).trans hd1
                        have HC2 := Aside0.mk hC2
                        have HCC2 := Aside0.mk hc2
                        clear hd0 hd1 hc2 hC2
                        generalize (rd_T57 l0 y).f0 = s2 at hb20
                        generalize (rd_T57 l0 y).f1 = ms2 at hb21 HO HC2 HCC2
                        have hyx : y < (x.toNat : Int) := by omega
                        by_cases z1 : Go.bits .and .u64 o m = 0
                        · have zb1 : (Go.bits .and .u64 o m != 0) = false := by rw [z1]; rfl
                          rw [if_neg (by unfold CG.cross; rw [decide_eq_false (fun h => h z1)]; simp)] at hi
                          clear z1
                          have HI2 := Aside0.mk hi
                          clear hi
                          go_wp2_with (go_at_call 47; refine (liaison_masked.calls CG.k A2 c2 ms2 o _ (Kd.C_alloc (Kd.C_below HC2.out HBI.out) _) HCC2.out HO.out).mono ?_; rintro e wj ⟨rfl, ⟨ndj, rfl⟩⟩)
                          go_roundw
                          case rel => exact ⟨y + 1, by go_num, by omega, by omega, HI2, ⟨pw_below_drewN (below_alloc HBI.out _) _⟩⟩
                          case measure => simp [intOf]; omega
                        · have zb1 : (Go.bits .and .u64 o m != 0) = true := by simpa using z1
                          by_cases z2 : Go.bits .and .u64 o m = m
                          · have zb2 : (Go.bits .and .u64 o m != m) = false := by rw [z2]; simp
                            rw [if_neg (by unfold CG.cross; rw [decide_eq_false (p := Go.bits .and .u64 o m ≠ m) (fun h => h z2)]; simp)] at hi
                            clear z1 z2
                            have HI2 := Aside0.mk hi
                            clear hi
                            go_wp2_with (go_at_call 47; refine (liaison_masked.calls CG.k A2 c2 ms2 o _ (Kd.C_alloc (Kd.C_below HC2.out HBI.out) _) HCC2.out HO.out).mono ?_; rintro e wj ⟨rfl, ⟨ndj, rfl⟩⟩)
                            go_roundw
                            case rel => exact ⟨y + 1, by go_num, by omega, by omega, HI2, ⟨pw_below_drewN (below_alloc HBI.out _) _⟩⟩
                            case measure => simp [intOf]; omega
                          · have zb2 : (Go.bits .and .u64 o m != m) = true := by simpa using z2
                            by_cases z3 : Go.bits .and .u64 o m = o
                            · have zb3 : (Go.bits .and .u64 o m != o) = false := by rw [z3]; simp
                              rw [if_neg (by unfold CG.cross; rw [decide_eq_false (p := Go.bits .and .u64 o m ≠ o) (fun h => h z3)]; simp)] at hi
                              clear z1 z2 z3
                              have HI2 := Aside0.mk hi
                              clear hi
                              go_wp2_with (go_at_call 47; refine (liaison_masked.calls CG.k A2 c2 ms2 o _ (Kd.C_alloc (Kd.C_below HC2.out HBI.out) _) HCC2.out HO.out).mono ?_; rintro e wj ⟨rfl, ⟨ndj, rfl⟩⟩)
                              go_roundw
                              case rel => exact ⟨y + 1, by go_num, by omega, by omega, HI2, ⟨pw_below_drewN (below_alloc HBI.out _) _⟩⟩
                              case measure => simp [intOf]; omega
                            · have zb3 : (Go.bits .and .u64 o m != o) = true := by simpa using z3
                              rw [if_pos (by unfold CG.cross; rw [decide_eq_true z1, decide_eq_true z2, decide_eq_true z3]; rfl)] at hi
                              injection hi with hi
                              have he := HEE.out
                              rw [← hi, if_pos rfl] at he
                              injection he with he
                              have hg := HG2.out
                              rw [← he, if_neg (by decide)] at hg
                              injection hg with hg
                              subst hg
                              clear z1 z2 z3 hi he
                              go_wp2_with (go_at_call 47; refine (liaison_masked.calls CG.k A2 c2 ms2 o _ (Kd.C_alloc (Kd.C_below HC2.out HBI.out) _) HCC2.out HO.out).mono ?_; rintro e wj ⟨rfl, ⟨ndj, rfl⟩⟩)
                              go_ret
                              exact ⟨rfl, pw_below_drewN (below_alloc HBI.out _) _⟩
                      · have hxy : y = x := by omega
                        subst hxy
                        have hi := HII.out
                        rw [List.drop_eq_nil_of_le (by rw [List.length_take]; omega)] at hi
                        unfold CG.inn at hi
                        injection hi with hi
                        have he := HEE.out
                        rw [← hi, if_neg (by decide)] at he
                        injection he with he
                        have hg := HG2.out
                        rw [← he, if_pos rfl] at hg
                        have HG3 : Aside0 (CG.go l0 a1 (y + 1).toNat (l0.drop (y + 1).toNat) = some r) := ⟨by rw [show (y + 1).toNat = y.toNat + 1 by omega] at hg ⊢; exact hg⟩
                        clear hi he hg
                        go_wp2
                        go_roundw
                        case rel => exact ⟨y + 1, by go_num, by omega, by omega, HG3, HBI⟩
                        case measure => simp [intOf]; omega
        · go_wp2
          go_ret
          have hg := HG.out
          have e : x = l0.length := by omega
          rw [e, show ((l0.length : Int)).toNat = l0.length by omega, List.drop_length] at hg
          unfold CG.go at hg
          injection hg with hg
          subst hg
          exact ⟨rfl, HB.out⟩
end
end Go.Proofs.YtbghfbhlbfcloaaDoor.PL
namespace Go.Proofs.YtbghfbhlbfcloaaDoor.PL
section
open Go.RowKit Go.Proofs.YtbghfbhlbfcloaaDoorW.PrintWords Go.Proofs.YtbghfbhlbfcloaaDoorW.PrintLast Go.Proofs.YtbghfbhlbfcloaaDoorW.PrintMore
attribute [local go_sem] max2_int min2_int max_two min_two max_three min_three max_four min_four   -- for this text's walks alone
set_option linter.unusedVariables false
set_option linter.unusedSimpArgs false
/-! ### liaison_CheckGroups: function 29 -/
def liaison_CheckGroups.f (l0 : List (S57)) (a1 : Int) : Option (Int) := CG.f l0 a1
theorem liaison_CheckGroups.calls (A0 : Option Addr) (c0 : Nat) (l0 : List (S57)) (a1 : Int) (r : Int) (w : World) (hr0 : Kd.C k57 w A0 l0.length l0) (hc0 : l0.length ≤ c0) (h : liaison_CheckGroups.f l0 a1 = some r) :
    Calls Tryd.prog 29 #[.slice A0 l0.length c0, .int .i64 a1] w fun e w' => e = .returned (.int .i64 r) ∧ Below w.heap.size w w' :=
    CG.calls A0 c0 l0 a1 r w hr0 hc0 h
end
end Go.Proofs.YtbghfbhlbfcloaaDoor.PL
namespace Go.Proofs.YtbghfbhlbfcloaaDoor.PL
section
open Go.RowKit Go.Proofs.YtbghfbhlbfcloaaDoorW.PrintWords Go.Proofs.YtbghfbhlbfcloaaDoorW.PrintLast Go.Proofs.YtbghfbhlbfcloaaDoorW.PrintMore
attribute [local go_sem] max2_int min2_int max_two min_two max_three min_three max_four min_four   -- for this text's walks alone
set_option linter.unusedVariables false
set_option linter.unusedSimpArgs false
/-! ### liaison_inside: function 52 -/
def liaison_inside.f (k : Nat) (a0_0 : ByteArray) (l0_1 : List Int) (a1_0 : ByteArray) (l1_1 : List Int) : Option (Bool) := (liaison_masked.f k l0_1).bind fun t481 => ((liaison_masked.f k l1_1).bind fun t482 => (if t481 = t482 then (some false) else (some ((Go.bits .and .u64 t481 t482) == t481))))
theorem liaison_inside.mono : ∀ a0 a1 a2 a3 k, LeO (liaison_inside.f k a0 a1 a2 a3) (liaison_inside.f (k + 1) a0 a1 a2 a3) := by
  intro a0 a1 a2 a3 k
  unfold liaison_inside.f
  repeat' first
      | (with_reducible exact liaison_masked.mono _ _)
      | (with_reducible exact LeO.refl _)
      | (with_reducible exact LeO.none _)
      | (with_reducible refine LeO.ite ?_ ?_)
      | (with_reducible refine LeO.bind ?_ (fun _ => ?_))
      | exact liaison_masked.mono _ _
      | exact LeO.none _
      | refine LeO.ite ?_ ?_
      | refine LeO.bind ?_ (fun _ => ?_)
set_option maxHeartbeats 8000000 in
set_option maxRecDepth 100000 in
theorem liaison_inside.calls (k : Nat) (a0_0 : ByteArray) (A0_1 : Option Addr) (c0_1 : Nat) (l0_1 : List Int) (a1_0 : ByteArray) (A1_1 : Option Addr) (c1_1 : Nat) (l1_1 : List Int) (r : Bool) (w : World) (hr0_1 : Kd.C (Kd.int .i64) w A0_1 l0_1.length l0_1) (hc0_1 : l0_1.length ≤ c0_1) (hr1_1 : Kd.C (Kd.int .i64) w A1_1 l1_1.length l1_1) (hc1_1 : l1_1.length ≤ c1_1) (h : liaison_inside.f k a0_0 l0_1 a1_0 l1_1 = some r) :
    Calls Tryd.prog 52 #[.agg #[.string a0_0, .slice A0_1 l0_1.length c0_1], .agg #[.string a1_0, .slice A1_1 l1_1.length c1_1]] w fun e w' => e = .returned (.bool r) ∧ Below w.heap.size w w' := by
  have hu57 := Tryd.underlying57
  have HR0_1 := Aside0.mk hr0_1
  have HC0_1 := Aside0.mk hc0_1
  clear hr0_1 hc0_1
  have HR1_1 := Aside0.mk hr1_1
  have HC1_1 := Aside0.mk hc1_1
  clear hr1_1 hc1_1
  have HB := Aside0.mk (Below.refl w.heap.size w)
  have H : ((liaison_masked.f k l0_1).bind fun t481 => ((liaison_masked.f k l1_1).bind fun t482 => (if t481 = t482 then (some false) else (some ((Go.bits .and .u64 t481 t482) == t481))))) = some r := h
  clear h
  replace H := Option.bind_eq_some_iff.mp H
  obtain ⟨t481, A30, H⟩ := H
  replace H : ((liaison_masked.f k l1_1).bind fun t482 => (if t481 = t482 then (some false) else (some ((Go.bits .and .u64 t481 t482) == t481)))) = some r := H
  have A3 := Aside0.mk A30
  clear A30
  replace H := Option.bind_eq_some_iff.mp H
  obtain ⟨t482, A40, H⟩ := H
  replace H : (if t481 = t482 then (some false) else (some ((Go.bits .and .u64 t481 t482) == t481))) = some r := H
  have A4 := Aside0.mk A40
  clear A40
  by_cases c5 : t481 = t482
  · rw [if_pos c5] at H
    have c5b0 : (t481 == t482) = true := beq_iff_eq.mpr c5
    have c5b1 : (t481 != t482) = false := bne_eq_false_iff_eq.mpr c5
    clear c5
    obtain rfl := Option.some.inj H
    go_enter Tryd.func52, Tryd.ntmps52
    go_wp2_with (first | ((with_reducible refine gate_dst (N := 2) rfl ?_); refine box_event ?hg (N := 2) ?hd (cs := #[.string a0_0, .slice A0_1 l0_1.length c0_1]) (t := 57) ?hr ?_; (case hd => rfl); (case hg => rfl); (case hr => first | (go_simp; done) | (go_simp; rfl)); intro gb479 hg w6 hbox hb; have n0_ := Aside0.mk (below_step (by repeat (first | (with_reducible first | exact HB.out | apply below_alloc | apply pw_below_drewN | apply below_drew1) | exact HB.out)) hb); have n1_ := Aside0.mk (hbox); have n2_ := Aside0.mk ((by rw [hg]; exact (below_size (by repeat (first | (with_reducible first | exact HB.out | apply below_alloc | apply pw_below_drewN | apply below_drew1) | exact HB.out))) : w.heap.size ≤ gb479)); have n3_ := Aside0.mk ((by rw [hg]; exact (below_size (by repeat (first | (with_reducible first | exact HB.out | apply below_alloc | apply pw_below_drewN | apply below_drew1) | exact HB.out))) : w.heap.size ≤ gb479)); clear HB; have HB := n0_; have BK479 := n1_; have GW479 := n2_; have GE479 := n3_; clear n0_ n1_ n2_ n3_; clear hb hbox hg) | ((with_reducible refine gate_dst (N := 3) rfl ?_); refine box_event ?hg (N := 3) ?hd (cs := #[.string a1_0, .slice A1_1 l1_1.length c1_1]) (t := 57) ?hr ?_; (case hd => rfl); (case hg => rfl); (case hr => first | (go_simp; done) | (go_simp; rfl)); intro gb480 hg w7 hbox hb; have n0_ := Aside0.mk (blk_below (g := gb479) (o := .cells #[.string a0_0, .slice A0_1 l0_1.length c0_1] 57 (0, 0)) (by (with_reducible repeat (first | refine blk_drewN ?_ _ | refine blk_drew ?_ | refine blk_alloc ?_ _)); exact BK479.out) hb); have n1_ := Aside0.mk (below_step (by repeat (first | (with_reducible first | exact HB.out | apply below_alloc | apply pw_below_drewN | apply below_drew1 | refine below_set ?_ GE479.out) | exact HB.out)) hb); have n2_ := Aside0.mk (hbox); have n3_ := Aside0.mk ((by rw [hg]; exact (below_size (by repeat (first | (with_reducible first | exact HB.out | apply below_alloc | apply pw_below_drewN | apply below_drew1 | refine below_set ?_ GE479.out) | exact HB.out))) : w.heap.size ≤ gb480)); have n4_ := Aside0.mk ((by rw [hg]; exact (below_size (by repeat (first | (with_reducible first | exact HB.out | apply below_alloc | apply pw_below_drewN | apply below_drew1 | refine below_set ?_ GE479.out) | exact HB.out))) : w.heap.size ≤ gb480)); have n5_ := Aside0.mk ((by rw [hg]; exact Nat.ne_of_lt (blk_lt (g := gb479) (o := .cells #[.string a0_0, .slice A0_1 l0_1.length c0_1] 57 (0, 0)) (by (with_reducible repeat (first | refine blk_drewN ?_ _ | refine blk_drew ?_ | refine blk_alloc ?_ _)); exact BK479.out)) : gb479 ≠ gb480)); have n6_ := Aside0.mk ((by rw [hg]; exact Nat.ne_of_gt (blk_lt (g := gb479) (o := .cells #[.string a0_0, .slice A0_1 l0_1.length c0_1] 57 (0, 0)) (by (with_reducible repeat (first | refine blk_drewN ?_ _ | refine blk_drew ?_ | refine blk_alloc ?_ _)); exact BK479.out)) : gb480 ≠ gb479)); clear BK479; clear HB; have BK479 := n0_; have HB := n1_; have BK480 := n2_; have GW480 := n3_; have GE480 := n4_; have NB479_480 := n5_; have NB480_479 := n6_; clear n0_ n1_ n2_ n3_ n4_ n5_ n6_; clear hb hbox hg; have hnb8 := NB479_480.out; have hnc8 := NB480_479.out; have hcz9_0 : w7.cell? ⟨gb479, 0, none⟩ = some (.string a0_0) := (blk_cell BK479.out 0).trans rfl; have hcz9_1 : w7.cell? ⟨gb479, 1, none⟩ = some (.slice A0_1 l0_1.length c0_1) := (blk_cell BK479.out 1).trans rfl; have hfz9_0 := blk_frozen BK479.out 0; have hfz9_1 := blk_frozen BK479.out 1) | (go_at_call 47; (with_reducible refine (liaison_masked.calls k _ _ l0_1 t481 _ ?side1 ?side2 A3.out).mono ?_); (case side1 => repeat (first | exact (Kd.C_below HR0_1.out HB.out) | (with_reducible refine Kd.C_alloc ?_ _) | (with_reducible refine Kd.C_drewN ?_ _) | (with_reducible refine Kd.C_drew ?_))); (case side2 => exact HC0_1.out); rintro e w' ⟨rfl, ⟨nd, rfl⟩⟩; (try first | exact ⟨rfl, _, World.drewN_drewN _ _ _⟩ | exact ⟨rfl, _, Eq.trans (World.drewN_drewN _ _ _) (congrArg (World.drewN _) (Nat.add_assoc _ _ _))⟩); have hcz10_0 : w7.cell? ⟨gb480, 0, none⟩ = some (.string a1_0) := (blk_cell BK480.out 0).trans rfl; have hcz10_1 : w7.cell? ⟨gb480, 1, none⟩ = some (.slice A1_1 l1_1.length c1_1) := (blk_cell BK480.out 1).trans rfl; have hfz10_0 := blk_frozen BK480.out 0; have hfz10_1 := blk_frozen BK480.out 1) | (go_at_call 47; (with_reducible refine (liaison_masked.calls k _ _ l1_1 t482 _ ?side1 ?side2 A4.out).mono ?_); (case side1 => repeat (first | exact (Kd.C_below HR1_1.out (by repeat (first | (with_reducible first | exact HB.out | apply below_alloc | apply pw_below_drewN | apply below_drew1 | refine below_set ?_ GE479.out | refine below_set ?_ GE480.out) | exact HB.out))) | (with_reducible refine Kd.C_alloc ?_ _) | (with_reducible refine Kd.C_drewN ?_ _) | (with_reducible refine Kd.C_drew ?_))); (case side2 => exact HC1_1.out); rintro e w' ⟨rfl, ⟨nd, rfl⟩⟩; (try first | exact ⟨rfl, _, World.drewN_drewN _ _ _⟩ | exact ⟨rfl, _, Eq.trans (World.drewN_drewN _ _ _) (congrArg (World.drewN _) (Nat.add_assoc _ _ _))⟩)))
    repeat (go_quiet (first | ((with_reducible refine gate_dst (N := 2) rfl ?_); refine box_event ?hg (N := 2) ?hd (cs := #[.string a0_0, .slice A0_1 l0_1.length c0_1]) (t := 57) ?hr ?_; (case hd => rfl); (case hg => rfl); (case hr => first | (go_simp; done) | (go_simp; rfl)); intro gb479 hg w6 hbox hb; have n0_ := Aside0.mk (below_step (by repeat (first | (with_reducible first | exact HB.out | apply below_alloc | apply pw_below_drewN | apply below_drew1) | exact HB.out)) hb); have n1_ := Aside0.mk (hbox); have n2_ := Aside0.mk ((by rw [hg]; exact (below_size (by repeat (first | (with_reducible first | exact HB.out | apply below_alloc | apply pw_below_drewN | apply below_drew1) | exact HB.out))) : w.heap.size ≤ gb479)); have n3_ := Aside0.mk ((by rw [hg]; exact (below_size (by repeat (first | (with_reducible first | exact HB.out | apply below_alloc | apply pw_below_drewN | apply below_drew1) | exact HB.out))) : w.heap.size ≤ gb479)); clear HB; have HB := n0_; have BK479 := n1_; have GW479 := n2_; have GE479 := n3_; clear n0_ n1_ n2_ n3_; clear hb hbox hg) | ((with_reducible refine gate_dst (N := 3) rfl ?_); refine box_event ?hg (N := 3) ?hd (cs := #[.string a1_0, .slice A1_1 l1_1.length c1_1]) (t := 57) ?hr ?_; (case hd => rfl); (case hg => rfl); (case hr => first | (go_simp; done) | (go_simp; rfl)); intro gb480 hg w7 hbox hb; have n0_ := Aside0.mk (blk_below (g := gb479) (o := .cells #[.string a0_0, .slice A0_1 l0_1.length c0_1] 57 (0, 0)) (by (with_reducible repeat (first | refine blk_drewN ?_ _ | refine blk_drew ?_ | refine blk_alloc ?_ _)); exact BK479.out) hb); have n1_ := Aside0.mk (below_step (by repeat (first | (with_reducible first | exact HB.out | apply below_alloc | apply pw_below_drewN | apply below_drew1 | refine below_set ?_ GE479.out) | exact HB.out)) hb); have n2_ := Aside0.mk (hbox); have n3_ := Aside0.mk ((by rw [hg]; exact (below_size (by repeat (first | (with_reducible first | exact HB.out | apply below_alloc | apply pw_below_drewN | apply below_drew1 | refine below_set ?_ GE479.out) | exact HB.out))) : w.heap.size ≤ gb480)); have n4_ := Aside0.mk ((by rw [hg]; exact (below_size (by repeat (first | (with_reducible first | exact HB.out | apply below_alloc | apply pw_below_drewN | apply below_drew1 | refine below_set ?_ GE479.out) | exact HB.out))) : w.heap.size ≤ gb480)); have n5_ := Aside0.mk ((by rw [hg]; exact Nat.ne_of_lt (blk_lt (g := gb479) (o := .cells #[.string a0_0, .slice A0_1 l0_1.length c0_1] 57 (0, 0)) (by (with_reducible repeat (first | refine blk_drewN ?_ _ | refine blk_drew ?_ | refine blk_alloc ?_ _)); exact BK479.out)) : gb479 ≠ gb480)); have n6_ := Aside0.mk ((by rw [hg]; exact Nat.ne_of_gt (blk_lt (g := gb479) (o := .cells #[.string a0_0, .slice A0_1 l0_1.length c0_1] 57 (0, 0)) (by (with_reducible repeat (first | refine blk_drewN ?_ _ | refine blk_drew ?_ | refine blk_alloc ?_ _)); exact BK479.out)) : gb480 ≠ gb479)); clear BK479; clear HB; have BK479 := n0_; have HB := n1_; have BK480 := n2_; have GW480 := n3_; have GE480 := n4_; have NB479_480 := n5_; have NB480_479 := n6_; clear n0_ n1_ n2_ n3_ n4_ n5_ n6_; clear hb hbox hg; have hnb8 := NB479_480.out; have hnc8 := NB480_479.out; have hcz9_0 : w7.cell? ⟨gb479, 0, none⟩ = some (.string a0_0) := (blk_cell BK479.out 0).trans rfl; have hcz9_1 : w7.cell? ⟨gb479, 1, none⟩ = some (.slice A0_1 l0_1.length c0_1) := (blk_cell BK479.out 1).trans rfl; have hfz9_0 := blk_frozen BK479.out 0; have hfz9_1 := blk_frozen BK479.out 1) | (go_at_call 47; (with_reducible refine (liaison_masked.calls k _ _ l0_1 t481 _ ?side1 ?side2 A3.out).mono ?_); (case side1 => repeat (first | exact (Kd.C_below HR0_1.out HB.out) | (with_reducible refine Kd.C_alloc ?_ _) | (with_reducible refine Kd.C_drewN ?_ _) | (with_reducible refine Kd.C_drew ?_))); (case side2 => exact HC0_1.out); rintro e w' ⟨rfl, ⟨nd, rfl⟩⟩; (try first | exact ⟨rfl, _, World.drewN_drewN _ _ _⟩ | exact ⟨rfl, _, Eq.trans (World.drewN_drewN _ _ _) (congrArg (World.drewN _) (Nat.add_assoc _ _ _))⟩); have hcz10_0 : w7.cell? ⟨gb480, 0, none⟩ = some (.string a1_0) := (blk_cell BK480.out 0).trans rfl; have hcz10_1 : w7.cell? ⟨gb480, 1, none⟩ = some (.slice A1_1 l1_1.length c1_1) := (blk_cell BK480.out 1).trans rfl; have hfz10_0 := blk_frozen BK480.out 0; have hfz10_1 := blk_frozen BK480.out 1) | (go_at_call 47; (with_reducible refine (liaison_masked.calls k _ _ l1_1 t482 _ ?side1 ?side2 A4.out).mono ?_); (case side1 => repeat (first | exact (Kd.C_below HR1_1.out (by repeat (first | (with_reducible first | exact HB.out | apply below_alloc | apply pw_below_drewN | apply below_drew1 | refine below_set ?_ GE479.out | refine below_set ?_ GE480.out) | exact HB.out))) | (with_reducible refine Kd.C_alloc ?_ _) | (with_reducible refine Kd.C_drewN ?_ _) | (with_reducible refine Kd.C_drew ?_))); (case side2 => exact HC1_1.out); rintro e w' ⟨rfl, ⟨nd, rfl⟩⟩; (try first | exact ⟨rfl, _, World.drewN_drewN _ _ _⟩ | exact ⟨rfl, _, Eq.trans (World.drewN_drewN _ _ _) (congrArg (World.drewN _) (Nat.add_assoc _ _ _))⟩))); try go_wp2_with (first | ((with_reducible refine gate_dst (N := 2) rfl ?_); refine box_event ?hg (N := 2) ?hd (cs := #[.string a0_0, .slice A0_1 l0_1.length c0_1]) (t := 57) ?hr ?_; (case hd => rfl); (case hg => rfl); (case hr => first | (go_simp; done) | (go_simp; rfl)); intro gb479 hg w6 hbox hb; have n0_ := Aside0.mk (below_step (by repeat (first | (with_reducible first | exact HB.out | apply below_alloc | apply pw_below_drewN | apply below_drew1) | exact HB.out)) hb); have n1_ := Aside0.mk (hbox); have n2_ := Aside0.mk ((by rw [hg]; exact (below_size (by repeat (first | (with_reducible first | exact HB.out | apply below_alloc | apply pw_below_drewN | apply below_drew1) | exact HB.out))) : w.heap.size ≤ gb479)); have n3_ := Aside0.mk ((by rw [hg]; exact (below_size (by repeat (first | (with_reducible first | exact HB.out | apply below_alloc | apply pw_below_drewN | apply below_drew1) | exact HB.out))) : w.heap.size ≤ gb479)); clear HB; have HB := n0_; have BK479 := n1_; have GW479 := n2_; have GE479 := n3_; clear n0_ n1_ n2_ n3_; clear hb hbox hg) | ((with_reducible refine gate_dst (N := 3) rfl ?_); refine box_event ?hg (N := 3) ?hd (cs := #[.string a1_0, .slice A1_1 l1_1.length c1_1]) (t := 57) ?hr ?_; (case hd => rfl); (case hg => rfl); (case hr => first | (go_simp; done) | (go_simp; rfl)); intro gb480 hg w7 hbox hb; have n0_ := Aside0.mk (blk_below (g := gb479) (o := .cells #[.string a0_0, .slice A0_1 l0_1.length c0_1] 57 (0, 0)) (by (with_reducible repeat (first | refine blk_drewN ?_ _ | refine blk_drew ?_ | refine blk_alloc ?_ _)); exact BK479.out) hb); have n1_ := Aside0.mk (below_step (by repeat (first | (with_reducible first | exact HB.out | apply below_alloc | apply pw_below_drewN | apply below_drew1 | refine below_set ?_ GE479.out) | exact HB.out)) hb); have n2_ := Aside0.mk (hbox); have n3_ := Aside0.mk ((by rw [hg]; exact (below_size (by repeat (first | (with_reducible first | exact HB.out | apply below_alloc | apply pw_below_drewN | apply below_drew1 | refine below_set ?_ GE479.out) | exact HB.out))) : w.heap.size ≤ gb480)); have n4_ := Aside0.mk ((by rw [hg]; exact (below_size (by repeat (first | (with_reducible first | exact HB.out | apply below_alloc | apply pw_below_drewN | apply below_drew1 | refine below_set ?_ GE479.out) | exact HB.out))) : w.heap.size ≤ gb480)); have n5_ := Aside0.mk ((by rw [hg]; exact Nat.ne_of_lt (blk_lt (g := gb479) (o := .cells #[.string a0_0, .slice A0_1 l0_1.length c0_1] 57 (0, 0)) (by (with_reducible repeat (first | refine blk_drewN ?_ _ | refine blk_drew ?_ | refine blk_alloc ?_ _)); exact BK479.out)) : gb479 ≠ gb480)); have n6_ := Aside0.mk ((by rw [hg]; exact Nat.ne_of_gt (blk_lt (g := gb479) (o := .cells #[.string a0_0, .slice A0_1 l0_1.length c0_1] 57 (0, 0)) (by (with_reducible repeat (first | refine blk_drewN ?_ _ | refine blk_drew ?_ | refine blk_alloc ?_ _)); exact BK479.out)) : gb480 ≠ gb479)); clear BK479; clear HB; have BK479 := n0_; have HB := n1_; have BK480 := n2_; have GW480 := n3_; have GE480 := n4_; have NB479_480 := n5_; have NB480_479 := n6_; clear n0_ n1_ n2_ n3_ n4_ n5_ n6_; clear hb hbox hg; have hnb8 := NB479_480.out; have hnc8 := NB480_479.out; have hcz9_0 : w7.cell? ⟨gb479, 0, none⟩ = some (.string a0_0) := (blk_cell BK479.out 0).trans rfl; have hcz9_1 : w7.cell? ⟨gb479, 1, none⟩ = some (.slice A0_1 l0_1.length c0_1) := (blk_cell BK479.out 1).trans rfl; have hfz9_0 := blk_frozen BK479.out 0; have hfz9_1 := blk_frozen BK479.out 1) | (go_at_call 47; (with_reducible refine (liaison_masked.calls k _ _ l0_1 t481 _ ?side1 ?side2 A3.out).mono ?_); (case side1 => repeat (first | exact (Kd.C_below HR0_1.out HB.out) | (with_reducible refine Kd.C_alloc ?_ _) | (with_reducible refine Kd.C_drewN ?_ _) | (with_reducible refine Kd.C_drew ?_))); (case side2 => exact HC0_1.out); rintro e w' ⟨rfl, ⟨nd, rfl⟩⟩; (try first | exact ⟨rfl, _, World.drewN_drewN _ _ _⟩ | exact ⟨rfl, _, Eq.trans (World.drewN_drewN _ _ _) (congrArg (World.drewN _) (Nat.add_assoc _ _ _))⟩); have hcz10_0 : w7.cell? ⟨gb480, 0, none⟩ = some (.string a1_0) := (blk_cell BK480.out 0).trans rfl; have hcz10_1 : w7.cell? ⟨gb480, 1, none⟩ = some (.slice A1_1 l1_1.length c1_1) := (blk_cell BK480.out 1).trans rfl; have hfz10_0 := blk_frozen BK480.out 0; have hfz10_1 := blk_frozen BK480.out 1) | (go_at_call 47; (with_reducible refine (liaison_masked.calls k _ _ l1_1 t482 _ ?side1 ?side2 A4.out).mono ?_); (case side1 => repeat (first | exact (Kd.C_below HR1_1.out (by repeat (first | (with_reducible first | exact HB.out | apply below_alloc | apply pw_below_drewN | apply below_drew1 | refine below_set ?_ GE479.out | refine below_set ?_ GE480.out) | exact HB.out))) | (with_reducible refine Kd.C_alloc ?_ _) | (with_reducible refine Kd.C_drewN ?_ _) | (with_reducible refine Kd.C_drew ?_))); (case side2 => exact HC1_1.out); rintro e w' ⟨rfl, ⟨nd, rfl⟩⟩; (try first | exact ⟨rfl, _, World.drewN_drewN _ _ _⟩ | exact ⟨rfl, _, Eq.trans (World.drewN_drewN _ _ _) (congrArg (World.drewN _) (Nat.add_assoc _ _ _))⟩))))
    go_ret
    exact ⟨by first | rfl | (simp [errW_none, errW_some] <;> rfl) | (simp [*, errW_none, errW_some] <;> rfl), by repeat (first | (with_reducible first | exact HB.out | apply below_alloc | apply pw_below_drewN | apply below_drew1 | refine below_set ?_ GE479.out | refine below_set ?_ GE480.out) | exact HB.out)⟩
  · rw [if_neg c5] at H
    have c5b0 : (t481 == t482) = false := beq_eq_false_iff_ne.mpr c5
    have c5b1 : (t481 != t482) = true := bne_iff_ne.mpr c5
    obtain rfl := Option.some.inj H
    go_enter Tryd.func52, Tryd.ntmps52
    go_wp2_with (first | ((with_reducible refine gate_dst (N := 2) rfl ?_); refine box_event ?hg (N := 2) ?hd (cs := #[.string a0_0, .slice A0_1 l0_1.length c0_1]) (t := 57) ?hr ?_; (case hd => rfl); (case hg => rfl); (case hr => first | (go_simp; done) | (go_simp; rfl)); intro gb479 hg w11 hbox hb; have n0_ := Aside0.mk (below_step (by repeat (first | (with_reducible first | exact HB.out | apply below_alloc | apply pw_below_drewN | apply below_drew1) | exact HB.out)) hb); have n1_ := Aside0.mk (hbox); have n2_ := Aside0.mk ((by rw [hg]; exact (below_size (by repeat (first | (with_reducible first | exact HB.out | apply below_alloc | apply pw_below_drewN | apply below_drew1) | exact HB.out))) : w.heap.size ≤ gb479)); have n3_ := Aside0.mk ((by rw [hg]; exact (below_size (by repeat (first | (with_reducible first | exact HB.out | apply below_alloc | apply pw_below_drewN | apply below_drew1) | exact HB.out))) : w.heap.size ≤ gb479)); clear HB; have HB := n0_; have BK479 := n1_; have GW479 := n2_; have GE479 := n3_; clear n0_ n1_ n2_ n3_; clear hb hbox hg) | ((with_reducible refine gate_dst (N := 3) rfl ?_); refine box_event ?hg (N := 3) ?hd (cs := #[.string a1_0, .slice A1_1 l1_1.length c1_1]) (t := 57) ?hr ?_; (case hd => rfl); (case hg => rfl); (case hr => first | (go_simp; done) | (go_simp; rfl)); intro gb480 hg w12 hbox hb; have n0_ := Aside0.mk (blk_below (g := gb479) (o := .cells #[.string a0_0, .slice A0_1 l0_1.length c0_1] 57 (0, 0)) (by (with_reducible repeat (first | refine blk_drewN ?_ _ | refine blk_drew ?_ | refine blk_alloc ?_ _)); exact BK479.out) hb); have n1_ := Aside0.mk (below_step (by repeat (first | (with_reducible first | exact HB.out | apply below_alloc | apply pw_below_drewN | apply below_drew1 | refine below_set ?_ GE479.out) | exact HB.out)) hb); have n2_ := Aside0.mk (hbox); have n3_ := Aside0.mk ((by rw [hg]; exact (below_size (by repeat (first | (with_reducible first | exact HB.out | apply below_alloc | apply pw_below_drewN | apply below_drew1 | refine below_set ?_ GE479.out) | exact HB.out))) : w.heap.size ≤ gb480)); have n4_ := Aside0.mk ((by rw [hg]; exact (below_size (by repeat (first | (with_reducible first | exact HB.out | apply below_alloc | apply pw_below_drewN | apply below_drew1 | refine below_set ?_ GE479.out) | exact HB.out))) : w.heap.size ≤ gb480)); have n5_ := Aside0.mk ((by rw [hg]; exact Nat.ne_of_lt (blk_lt (g := gb479) (o := .cells #[.string a0_0, .slice A0_1 l0_1.length c0_1] 57 (0, 0)) (by (with_reducible repeat (first | refine blk_drewN ?_ _ | refine blk_drew ?_ | refine blk_alloc ?_ _)); exact BK479.out)) : gb479 ≠ gb480)); have n6_ := Aside0.mk ((by rw [hg]; exact Nat.ne_of_gt (blk_lt (g := gb479) (o := .cells #[.string a0_0, .slice A0_1 l0_1.length c0_1] 57 (0, 0)) (by (with_reducible repeat (first | refine blk_drewN ?_ _ | refine blk_drew ?_ | refine blk_alloc ?_ _)); exact BK479.out)) : gb480 ≠ gb479)); clear BK479; clear HB; have BK479 := n0_; have HB := n1_; have BK480 := n2_; have GW480 := n3_; have GE480 := n4_; have NB479_480 := n5_; have NB480_479 := n6_; clear n0_ n1_ n2_ n3_ n4_ n5_ n6_; clear hb hbox hg; have hnb13 := NB479_480.out; have hnc13 := NB480_479.out; have hcz14_0 : w12.cell? ⟨gb479, 0, none⟩ = some (.string a0_0) := (blk_cell BK479.out 0).trans rfl; have hcz14_1 : w12.cell? ⟨gb479, 1, none⟩ = some (.slice A0_1 l0_1.length c0_1) := (blk_cell BK479.out 1).trans rfl; have hfz14_0 := blk_frozen BK479.out 0; have hfz14_1 := blk_frozen BK479.out 1) | (go_at_call 47; (with_reducible refine (liaison_masked.calls k _ _ l0_1 t481 _ ?side1 ?side2 A3.out).mono ?_); (case side1 => repeat (first | exact (Kd.C_below HR0_1.out HB.out) | (with_reducible refine Kd.C_alloc ?_ _) | (with_reducible refine Kd.C_drewN ?_ _) | (with_reducible refine Kd.C_drew ?_))); (case side2 => exact HC0_1.out); rintro e w' ⟨rfl, ⟨nd, rfl⟩⟩; (try first | exact ⟨rfl, _, World.drewN_drewN _ _ _⟩ | exact ⟨rfl, _, Eq.trans (World.drewN_drewN _ _ _) (congrArg (World.drewN _) (Nat.add_assoc _ _ _))⟩); have hcz15_0 : w12.cell? ⟨gb480, 0, none⟩ = some (.string a1_0) := (blk_cell BK480.out 0).trans rfl; have hcz15_1 : w12.cell? ⟨gb480, 1, none⟩ = some (.slice A1_1 l1_1.length c1_1) := (blk_cell BK480.out 1).trans rfl; have hfz15_0 := blk_frozen BK480.out 0; have hfz15_1 := blk_frozen BK480.out 1) | (go_at_call 47; (with_reducible refine (liaison_masked.calls k _ _ l1_1 t482 _ ?side1 ?side2 A4.out).mono ?_); (case side1 => repeat (first | exact (Kd.C_below HR1_1.out (by repeat (first | (with_reducible first | exact HB.out | apply below_alloc | apply pw_below_drewN | apply below_drew1 | refine below_set ?_ GE479.out | refine below_set ?_ GE480.out) | exact HB.out))) | (with_reducible refine Kd.C_alloc ?_ _) | (with_reducible refine Kd.C_drewN ?_ _) | (with_reducible refine Kd.C_drew ?_))); (case side2 => exact HC1_1.out); rintro e w' ⟨rfl, ⟨nd, rfl⟩⟩; (try first | exact ⟨rfl, _, World.drewN_drewN _ _ _⟩ | exact ⟨rfl, _, Eq.trans (World.drewN_drewN _ _ _) (congrArg (World.drewN _) (Nat.add_assoc _ _ _))⟩)))
    repeat (go_quiet (first | ((with_reducible refine gate_dst (N := 2) rfl ?_); refine box_event ?hg (N := 2) ?hd (cs := #[.string a0_0, .slice A0_1 l0_1.length c0_1]) (t := 57) ?hr ?_; (case hd => rfl); (case hg => rfl); (case hr => first | (go_simp; done) | (go_simp; rfl)); intro gb479 hg w11 hbox hb; have n0_ := Aside0.mk (below_step (by repeat (first | (with_reducible first | exact HB.out | apply below_alloc | apply pw_below_drewN | apply below_drew1) | exact HB.out)) hb); have n1_ := Aside0.mk (hbox); have n2_ := Aside0.mk ((by rw [hg]; exact (below_size (by repeat (first | (with_reducible first | exact HB.out | apply below_alloc | apply pw_below_drewN | apply below_drew1) | exact HB.out))) : w.heap.size ≤ gb479)); have n3_ := Aside0.mk ((by rw [hg]; exact (below_size (by repeat (first | (with_reducible first | exact HB.out | apply below_alloc | apply pw_below_drewN | apply below_drew1) | exact HB.out))) : w.heap.size ≤ gb479)); clear HB; have HB := n0_; have BK479 := n1_; have GW479 := n2_; have GE479 := n3_; clear n0_ n1_ n2_ n3_; clear hb hbox hg) | ((with_reducible refine gate_dst (N := 3) rfl ?_); refine box_event ?hg (N := 3) ?hd (cs := #[.string a1_0, .slice A1_1 l1_1.length c1_1]) (t := 57) ?hr ?_; (case hd => rfl); (case hg => rfl); (case hr => first | (go_simp; done) | (go_simp; rfl)); intro gb480 hg w12 hbox hb; have n0_ := Aside0.mk (blk_below (g := gb479) (o := .cells #[.string a0_0, .slice A0_1 l0_1.length c0_1] 57 (0, 0)) (by (with_reducible repeat (first | refine blk_drewN ?_ _ | refine blk_drew ?_ | refine blk_alloc ?_ _)); exact BK479.out) hb); have n1_ := Aside0.mk (below_step (by repeat (first | (with_reducible first | exact HB.out | apply below_alloc | apply pw_below_drewN | apply below_drew1 | refine below_set ?_ GE479.out) | exact HB.out)) hb); have n2_ := Aside0.mk (hbox); have n3_ := Aside0.mk ((by rw [hg]; exact (below_size (by repeat (first | (with_reducible first | exact HB.out | apply below_alloc | apply pw_below_drewN | apply below_drew1 | refine below_set ?_ GE479.out) | exact HB.out))) : w.heap.size ≤ gb480)); have n4_ := Aside0.mk ((by rw [hg]; exact (below_size (by repeat (first | (with_reducible first | exact HB.out | apply below_alloc | apply pw_below_drewN | apply below_drew1 | refine below_set ?_ GE479.out) | exact HB.out))) : w.heap.size ≤ gb480)); have n5_ := Aside0.mk ((by rw [hg]; exact Nat.ne_of_lt (blk_lt (g := gb479) (o := .cells #[.string a0_0, .slice A0_1 l0_1.length c0_1] 57 (0, 0)) (by (with_reducible repeat (first | refine blk_drewN ?_ _ | refine blk_drew ?_ | refine blk_alloc ?_ _)); exact BK479.out)) : gb479 ≠ gb480)); have n6_ := Aside0.mk ((by rw [hg]; exact Nat.ne_of_gt (blk_lt (g := gb479) (o := .cells #[.string a0_0, .slice A0_1 l0_1.length c0_1] 57 (0, 0)) (by (with_reducible repeat (first | refine blk_drewN ?_ _ | refine blk_drew ?_ | refine blk_alloc ?_ _)); exact BK479.out)) : gb480 ≠ gb479)); clear BK479; clear HB; have BK479 := n0_; have HB := n1_; have BK480 := n2_; have GW480 := n3_; have GE480 := n4_; have NB479_480 := n5_; have NB480_479 := n6_; clear n0_ n1_ n2_ n3_ n4_ n5_ n6_; clear hb hbox hg; have hnb13 := NB479_480.out; have hnc13 := NB480_479.out; have hcz14_0 : w12.cell? ⟨gb479, 0, none⟩ = some (.string a0_0) := (blk_cell BK479.out 0).trans rfl; have hcz14_1 : w12.cell? ⟨gb479, 1, none⟩ = some (.slice A0_1 l0_1.length c0_1) := (blk_cell BK479.out 1).trans rfl; have hfz14_0 := blk_frozen BK479.out 0; have hfz14_1 := blk_frozen BK479.out 1) | (go_at_call 47; (with_reducible refine (liaison_masked.calls k _ _ l0_1 t481 _ ?side1 ?side2 A3.out).mono ?_); (case side1 => repeat (first | exact (Kd.C_below HR0_1.out HB.out) | (with_reducible refine Kd.C_alloc ?_ _) | (with_reducible refine Kd.C_drewN ?_ _) | (with_reducible refine Kd.C_drew ?_))); (case side2 => exact HC0_1.out); rintro e w' ⟨rfl, ⟨nd, rfl⟩⟩; (try first | exact ⟨rfl, _, World.drewN_drewN _ _ _⟩ | exact ⟨rfl, _, Eq.trans (World.drewN_drewN _ _ _) (congrArg (World.drewN _) (Nat.add_assoc _ _ _))⟩); have hcz15_0 : w12.cell? ⟨gb480, 0, none⟩ = some (.string a1_0) := (blk_cell BK480.out 0).trans rfl; have hcz15_1 : w12.cell? ⟨gb480, 1, none⟩ = some (.slice A1_1 l1_1.length c1_1) := (blk_cell BK480.out 1).trans rfl; have hfz15_0 := blk_frozen BK480.out 0; have hfz15_1 := blk_frozen BK480.out 1) | (go_at_call 47; (with_reducible refine (liaison_masked.calls k _ _ l1_1 t482 _ ?side1 ?side2 A4.out).mono ?_); (case side1 => repeat (first | exact (Kd.C_below HR1_1.out (by repeat (first | (with_reducible first | exact HB.out | apply below_alloc | apply pw_below_drewN | apply below_drew1 | refine below_set ?_ GE479.out | refine below_set ?_ GE480.out) | exact HB.out))) | (with_reducible refine Kd.C_alloc ?_ _) | (with_reducible refine Kd.C_drewN ?_ _) | (with_reducible refine Kd.C_drew ?_))); (case side2 => exact HC1_1.out); rintro e w' ⟨rfl, ⟨nd, rfl⟩⟩; (try first | exact ⟨rfl, _, World.drewN_drewN _ _ _⟩ | exact ⟨rfl, _, Eq.trans (World.drewN_drewN _ _ _) (congrArg (World.drewN _) (Nat.add_assoc _ _ _))⟩))); try go_wp2_with (first | ((with_reducible refine gate_dst (N := 2) rfl ?_); refine box_event ?hg (N := 2) ?hd (cs := #[.string a0_0, .slice A0_1 l0_1.length c0_1]) (t := 57) ?hr ?_; (case hd => rfl); (case hg => rfl); (case hr => first | (go_simp; done) | (go_simp; rfl)); intro gb479 hg w11 hbox hb; have n0_ := Aside0.mk (below_step (by repeat (first | (with_reducible first | exact HB.out | apply below_alloc | apply pw_below_drewN | apply below_drew1) | exact HB.out)) hb); have n1_ := Aside0.mk (hbox); have n2_ := Aside0.mk ((by rw [hg]; exact (below_size (by repeat (first | (with_reducible first | exact HB.out | apply below_alloc | apply pw_below_drewN | apply below_drew1) | exact HB.out))) : w.heap.size ≤ gb479)); have n3_ := Aside0.mk ((by rw [hg]; exact (below_size (by repeat (first | (with_reducible first | exact HB.out | apply below_alloc | apply pw_below_drewN | apply below_drew1) | exact HB.out))) : w.heap.size ≤ gb479)); clear HB; have HB := n0_; have BK479 := n1_; have GW479 := n2_; have GE479 := n3_; clear n0_ n1_ n2_ n3_; clear hb hbox hg) | ((with_reducible refine gate_dst (N := 3) rfl ?_); refine box_event ?hg (N := 3) ?hd (cs := #[.string a1_0, .slice A1_1 l1_1.length c1_1]) (t := 57) ?hr ?_; (case hd => rfl); (case hg => rfl); (case hr => first | (go_simp; done) | (go_simp; rfl)); intro gb480 hg w12 hbox hb; have n0_ := Aside0.mk (blk_below (g := gb479) (o := .cells #[.string a0_0, .slice A0_1 l0_1.length c0_1] 57 (0, 0)) (by (with_reducible repeat (first | refine blk_drewN ?_ _ | refine blk_drew ?_ | refine blk_alloc ?_ _)); exact BK479.out) hb); have n1_ := Aside0.mk (below_step (by repeat (first | (with_reducible first | exact HB.out | apply below_alloc | apply pw_below_drewN | apply below_drew1 | refine below_set ?_ GE479.out) | exact HB.out)) hb); have n2_ := Aside0.mk (hbox); have n3_ := Aside0.mk ((by rw [hg]; exact (below_size (by repeat (first | (with_reducible first | exact HB.out | apply below_alloc | apply pw_below_drewN | apply below_drew1 | refine below_set ?_ GE479.out) | exact HB.out))) : w.heap.size ≤ gb480)); have n4_ := Aside0.mk ((by rw [hg]; exact (below_size (by repeat (first | (with_reducible first | exact HB.out | apply below_alloc | apply pw_below_drewN | apply below_drew1 | refine below_set ?_ GE479.out) | exact HB.out))) : w.heap.size ≤ gb480)); have n5_ := Aside0.mk ((by rw [hg]; exact Nat.ne_of_lt (blk_lt (g := gb479) (o := .cells #[.string a0_0, .slice A0_1 l0_1.length c0_1] 57 (0, 0)) (by (with_reducible repeat (first | refine blk_drewN ?_ _ | refine blk_drew ?_ | refine blk_alloc ?_ _)); exact BK479.out)) : gb479 ≠ gb480)); have n6_ := Aside0.mk ((by rw [hg]; exact Nat.ne_of_gt (blk_lt (g := gb479) (o := .cells #[.string a0_0, .slice A0_1 l0_1.length c0_1] 57 (0, 0)) (by (with_reducible repeat (first | refine blk_drewN ?_ _ | refine blk_drew ?_ | refine blk_alloc ?_ _)); exact BK479.out)) : gb480 ≠ gb479)); clear BK479; clear HB; have BK479 := n0_; have HB := n1_; have BK480 := n2_; have GW480 := n3_; have GE480 := n4_; have NB479_480 := n5_; have NB480_479 := n6_; clear n0_ n1_ n2_ n3_ n4_ n5_ n6_; clear hb hbox hg; have hnb13 := NB479_480.out; have hnc13 := NB480_479.out; have hcz14_0 : w12.cell? ⟨gb479, 0, none⟩ = some (.string a0_0) := (blk_cell BK479.out 0).trans rfl; have hcz14_1 : w12.cell? ⟨gb479, 1, none⟩ = some (.slice A0_1 l0_1.length c0_1) := (blk_cell BK479.out 1).trans rfl; have hfz14_0 := blk_frozen BK479.out 0; have hfz14_1 := blk_frozen BK479.out 1) | (go_at_call 47; (with_reducible refine (liaison_masked.calls k _ _ l0_1 t481 _ ?side1 ?side2 A3.out).mono ?_); (case side1 => repeat (first | exact (Kd.C_below HR0_1.out HB.out) | (with_reducible refine Kd.C_alloc ?_ _) | (with_reducible refine Kd.C_drewN ?_ _) | (with_reducible refine Kd.C_drew ?_))); (case side2 => exact HC0_1.out); rintro e w' ⟨rfl, ⟨nd, rfl⟩⟩; (try first | exact ⟨rfl, _, World.drewN_drewN _ _ _⟩ | exact ⟨rfl, _, Eq.trans (World.drewN_drewN _ _ _) (congrArg (World.drewN _) (Nat.add_assoc _ _ _))⟩); have hcz15_0 : w12.cell? ⟨gb480, 0, none⟩ = some (.string a1_0) := (blk_cell BK480.out 0).trans rfl; have hcz15_1 : w12.cell? ⟨gb480, 1, none⟩ = some (.slice A1_1 l1_1.length c1_1) := (blk_cell BK480.out 1).trans rfl; have hfz15_0 := blk_frozen BK480.out 0; have hfz15_1 := blk_frozen BK480.out 1) | (go_at_call 47; (with_reducible refine (liaison_masked.calls k _ _ l1_1 t482 _ ?side1 ?side2 A4.out).mono ?_); (case side1 => repeat (first | exact (Kd.C_below HR1_1.out (by repeat (first | (with_reducible first | exact HB.out | apply below_alloc | apply pw_below_drewN | apply below_drew1 | refine below_set ?_ GE479.out | refine below_set ?_ GE480.out) | exact HB.out))) | (with_reducible refine Kd.C_alloc ?_ _) | (with_reducible refine Kd.C_drewN ?_ _) | (with_reducible refine Kd.C_drew ?_))); (case side2 => exact HC1_1.out); rintro e w' ⟨rfl, ⟨nd, rfl⟩⟩; (try first | exact ⟨rfl, _, World.drewN_drewN _ _ _⟩ | exact ⟨rfl, _, Eq.trans (World.drewN_drewN _ _ _) (congrArg (World.drewN _) (Nat.add_assoc _ _ _))⟩))))
    go_ret
    exact ⟨by first | rfl | (simp [errW_none, errW_some] <;> rfl) | (simp [*, errW_none, errW_some] <;> rfl), by repeat (first | (with_reducible first | exact HB.out | apply below_alloc | apply pw_below_drewN | apply below_drew1 | refine below_set ?_ GE479.out | refine below_set ?_ GE480.out) | exact HB.out)⟩
end
end Go.Proofs.YtbghfbhlbfcloaaDoor.PL
