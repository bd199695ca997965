/- Put together by this session's program pack.py. -/
import Derived.Below
import Derived.Deep.Draws
import Derived.Deep.AppendLies
import Derived.Maps.AppendAt
import Derived.OwnWalk
import Derived.Laws.BytesArg
import Derived.Laws.MakeOwn
import Derived.Laws.OwnMore
import Derived.Deep.OwnRows
import Derived.Tactics
import Derived.Lib.ConvBytes
import Derived.Laws.Slices
import Derived.WalkKit
import Derived.KernelRfl
import Derived.RowKit3
import Derived.Deep.LoopGhost
import Derived.Deep.QuietTactic
import Derived.BigQuiet
import Derived.WideLaws
import Derived.Deep.DeepCutAuto
import Derived.Deep.CutBlock
import Derived.Deep.RegionHeld3
import Derived.Laws.Rows
import Derived.Lib.AppendStr
import Derived.ArgAppend
import Derived.Laws.IdiomCopy
import Derived.OrdersHeld
import Derived.Laws.BitsLemmas
import Derived.RowKit
import Derived.Sort.Grow
import Derived.Shelf.SlSortCmp.InsertionK
import Derived.WalkSpells
import Derived.Shelf.SlSortCmp.NoneTotal
import Derived.Shelf.SlGeneric
import Derived.Ground.SlsfProg
import Derived.RangeFuncNested
import Derived.RangeFuncBound
import Derived.RangeFuncCalls
import Derived.RangeFuncLeaves
import Derived.Shelf.Abstract
import Derived.Shelf.RegionOpen
import Derived.OwnWalkIn
import Derived.TacticsInMore
import Derived.LoopNIn
import Derived.LoopIn
import Derived.OrdersIn
import Derived.RangeFuncKeeps
import Derived.RangeFuncWrites
import Derived.Shelf.SlicesQ.IndexFunc
import Derived.Shelf.GgClosure.StringsIndexFuncTop
import Derived.Ground.SlgfProg
import Derived.Ground.GgwProg
import Derived.Laws.RangeAny
import Derived.Laws.RangeString
import Derived.Test.YtbghfbhlbfcloaaDoorLw0
import Derived.Test.YtbghfbhlbfcloaaDoorLp0
import Derived.Test.YtbghfbhlbfcloaaDoorLp1
import Derived.Test.YtbghfbhlbfcloaaDoorLp2
namespace Go.Proofs.YtbghfbhlbfcloaaDoor.PL
section
open Go.RowKit Go.Proofs.YtbghfbhlbfcloaaDoorW.PrintWords Go.Proofs.YtbghfbhlbfcloaaDoorW.PrintLast Go.Proofs.YtbghfbhlbfcloaaDoorW.PrintMore
attribute [local go_sem] max2_int min2_int max_two min_two max_three min_three max_four min_four   -- for this text's walks alone
set_option linter.unusedVariables false
set_option linter.unusedSimpArgs false
/-! ### liaison_Pieces: function 17 -/
def liaison_Pieces.l0 : Nat → List Int → Int → List (List Int) → Option ((List (List Int)) × Int)
 | 0, _, _, _ => none
 | k + 1, x6, x7, x9 => if x7 = 0 then (some (x9, 0)) else ((liaison_links_piece.f k x6 x7).bind fun t357 => ((liaison_listed.f k t357).bind fun t358 => (if x9.length < 5864062014805 then (liaison_Pieces.l0 k x6 (Go.bits .andNot .u64 x7 t357) (x9 ++ [t358])) else (none))))
def liaison_Pieces.f (k : Nat) (a0_0 : Int) (l0_1 : List (S68)) (l1 : List Int) : Option ((List (List Int)) × Int) := (liaison_opened.f k a0_0 l0_1 l1).bind fun bt352 => (if bt352.2.2 = 0 then (liaison_Pieces.l0 k bt352.1 bt352.2.1 ([] : List (List Int))) else (some (([] : List (List Int)), bt352.2.2)))
theorem liaison_Pieces.mono_l : ∀ k, (∀ y0 y1 y2, LeO (liaison_Pieces.l0 k y0 y1 y2) (liaison_Pieces.l0 (k + 1) y0 y1 y2))
 | 0 => fun _ _ _ r h => by simp [liaison_Pieces.l0] at h
 | k + 1 => by
  have ih0 := liaison_Pieces.mono_l k
  ·intro y0 y1 y2
   unfold liaison_Pieces.l0
   repeat' first
   | (with_reducible exact ih0 _ _ _)
   | (with_reducible exact liaison_links_piece.mono _ _ _)
   | (with_reducible exact liaison_listed.mono _ _)
   | (with_reducible exact liaison_opened.mono _ _ _ _)
   | (with_reducible exact LeO.refl _)
   | (with_reducible exact LeO.none _)
   | (with_reducible refine LeO.ite ?_ ?_)
   | (with_reducible refine LeO.bind ?_ (fun _ => ?_))
   | exact ih0 _ _ _
   | exact liaison_links_piece.mono _ _ _
   | exact liaison_listed.mono _ _
   | exact liaison_opened.mono _ _ _ _
   | exact LeO.none _
   | refine LeO.ite ?_ ?_
   | refine LeO.bind ?_ (fun _ => ?_)
theorem liaison_Pieces.mono : ∀ a0 a1 a2 k, LeO (liaison_Pieces.f k a0 a1 a2) (liaison_Pieces.f (k + 1) a0 a1 a2) := by
 intro a0 a1 a2 k
 have ih0 := liaison_Pieces.mono_l k
 unfold liaison_Pieces.f
 repeat' first
   | (with_reducible exact ih0 _ _ _)
   | (with_reducible exact liaison_links_piece.mono _ _ _)
   | (with_reducible exact liaison_listed.mono _ _)
   | (with_reducible exact liaison_opened.mono _ _ _ _)
   | (with_reducible exact LeO.refl _)
   | (with_reducible exact LeO.none _)
   | (with_reducible refine LeO.ite ?_ ?_)
   | (with_reducible refine LeO.bind ?_ (fun _ => ?_))
   | exact ih0 _ _ _
   | exact liaison_links_piece.mono _ _ _
   | exact liaison_listed.mono _ _
   | exact liaison_opened.mono _ _ _ _
   | exact LeO.none _
   | refine LeO.ite ?_ ?_
   | refine LeO.bind ?_ (fun _ => ?_)
set_option maxHeartbeats 8000000 in
set_option maxRecDepth 100000 in
theorem liaison_Pieces.calls (k : Nat) (a0_0 : Int) (A0_1 : Option Addr) (c0_1 : Nat) (l0_1 : List (S68)) (A1 : Option Addr) (c1 : Nat) (l1 : List Int) (r1 : List (List Int)) (r2 : Int) (w : World) (hr0_1 : Kd.C k68 w A0_1 l0_1.length l0_1) (hc0_1 : l0_1.length ≤ c0_1) (hr1 : Kd.C (Kd.int .i64) w A1 l1.length l1) (hc1 : l1.length ≤ c1) (hG : Kd.C (Kd.int .u8) w (some tabA) tabL.length tabL) (h : liaison_Pieces.f k a0_0 l0_1 l1 = some (r1, r2)) :
  Calls Tryd.prog 17 #[.agg #[.int .i64 a0_0, .slice A0_1 l0_1.length c0_1], .slice A1 l1.length c1] w fun e w' => ∃ v0_ : Value, e = .returned (.tuple #[v0_, .int .i64 r2]) ∧ Kd.S (Kd.slice 3 (Kd.int .i64)) 23 w' w.heap.size (fun _ => True) v0_ r1 ∧ Below w.heap.size w w' := by
 have hu28 := Tryd.underlying28
 have HR0_1 := Aside0.mk hr0_1
 have HC0_1 := Aside0.mk hc0_1
 clear hr0_1 hc0_1
 have HR1 := Aside0.mk hr1
 have HC1 := Aside0.mk hc1
 clear hr1 hc1
 have HB := Aside0.mk (Below.refl w.heap.size w)
 have HG := Aside0.mk hG
 clear hG
 have H : ((liaison_opened.f k a0_0 l0_1 l1).bind fun bt352 => (if bt352.2.2 = 0 then (liaison_Pieces.l0 k bt352.1 bt352.2.1 ([] : List (List Int))) else (some (([] : List (List Int)), bt352.2.2)))) = some (r1, r2) := h
 clear h
 replace H := Option.bind_eq_some_iff.mp H
 obtain ⟨⟨t352, t355, t356⟩, A30, H⟩ := H
 replace H : (if t356 = 0 then (liaison_Pieces.l0 k t352 t355 ([] : List (List Int))) else (some (([] : List (List Int)), t356))) = some (r1, r2) := H
 have A3 := Aside0.mk A30
 clear A30
 by_cases c4 : t356 = 0
 ·rw [if_pos c4] at H
  have c4b0 : (t356 == 0) = true := beq_iff_eq.mpr c4
  have c4b1 : (t356 != 0) = false := bne_eq_false_iff_eq.mpr c4
  clear c4
  have H' := Aside0.mk H
  clear H
  go_enter Tryd.func17, Tryd.ntmps17
  go_wp2_with (first | ((with_reducible refine gate_dst (N := 2) rfl ?_); refine box_event ?hg (N := 2) ?hd (cs := #[.int .i64 a0_0, .slice A0_1 l0_1.length c0_1]) (t := 28) ?hr ?_; (case hd => rfl); (case hg => rfl); (case hr => first | (go_simp; done) | (go_simp; rfl)); intro gb351 hg w5 hbox hb; have n0_ := Aside0.mk (below_step (by repeat (first | (with_reducible first | exact HB.out | apply below_alloc | apply pw_below_drewN | apply below_drew1) | exact HB.out)) hb); have n1_ := Aside0.mk (hbox); have n2_ := Aside0.mk ((by rw [hg]; exact (below_size (by repeat (first | (with_reducible first | exact HB.out | apply below_alloc | apply pw_below_drewN | apply below_drew1) | exact HB.out))) : w.heap.size ≤ gb351)); have n3_ := Aside0.mk ((by rw [hg]; exact (below_size (by repeat (first | (with_reducible first | exact HB.out | apply below_alloc | apply pw_below_drewN | apply below_drew1) | exact HB.out))) : w.heap.size ≤ gb351)); clear HB; have HB := n0_; have BK351 := n1_; have GW351 := n2_; have GE351 := n3_; clear n0_ n1_ n2_ n3_; clear hb hbox hg; have hcz6_0 : w5.cell? ⟨gb351, 0, none⟩ = some (.int .i64 a0_0) := (blk_cell BK351.out 0).trans rfl; have hcz6_1 : w5.cell? ⟨gb351, 1, none⟩ = some (.slice A0_1 l0_1.length c0_1) := (blk_cell BK351.out 1).trans rfl; have hfz6_0 := blk_frozen BK351.out 0; have hfz6_1 := blk_frozen BK351.out 1) | ((with_reducible refine gate_callee (f := 34) rfl ?_); refine goesL_ (some 14) rfl rfl Tryd.func34 (by kernel_rfl) rfl #[.agg #[.int .i64 a0_0, .slice A0_1 l0_1.length c0_1], .slice A1 l1.length c1] rfl (by (try simp only [List.map_toArray, List.map_cons, List.map_nil]); first | done | rfl | (simp only [List.length_drop, List.length_take]; rfl)) ?_; (with_reducible refine (liaison_opened.calls k a0_0 _ _ l0_1 _ _ l1 t352 t355 t356 _ ?side1 ?side2 ?side3 ?side4 A3.out).mono ?_); (case side1 => repeat (first | exact (Kd.C_below HR0_1.out HB.out) | (with_reducible refine Kd.C_alloc ?_ _) | (with_reducible refine Kd.C_drewN ?_ _) | (with_reducible refine Kd.C_drew ?_))); (case side2 => exact HC0_1.out); (case side3 => repeat (first | exact (Kd.C_below HR1.out HB.out) | (with_reducible refine Kd.C_alloc ?_ _) | (with_reducible refine Kd.C_drewN ?_ _) | (with_reducible refine Kd.C_drew ?_))); (case side4 => exact HC1.out); rintro e w7 ⟨v353, rfl, ho0, hb⟩; refine ⟨_, rfl, ?_⟩; have n0_ := Aside0.mk (Kd.R_lower ho0 (below_size (by repeat (first | (with_reducible first | exact HB.out | apply below_alloc | apply pw_below_drewN | apply below_drew1 | refine below_set ?_ GE351.out) | exact HB.out)))); have n1_ := Aside0.mk (blk_below (g := gb351) (o := .cells #[.int .i64 a0_0, .slice A0_1 l0_1.length c0_1] 28 (0, 0)) (by (with_reducible repeat (first | refine blk_drewN ?_ _ | refine blk_drew ?_ | refine blk_alloc ?_ _)); exact BK351.out) hb); have n2_ := Aside0.mk (below_step (by repeat (first | (with_reducible first | exact HB.out | apply below_alloc | apply pw_below_drewN | apply below_drew1 | refine below_set ?_ GE351.out) | exact HB.out)) hb); clear BK351; clear HB; have HO354 := n0_; have BK351 := n1_; have HB := n2_; clear n0_ n1_ n2_; (try clear hb); (try clear hb2); (try clear hk); (try clear hi); (try clear ho0)))
  go_loopg [7, 9] k (fun kq v7 v9 w' => ∃ (x7_1 : Int) (x9_1 : List (List Int)), v7 = .int .u64 x7_1 ∧ Aside0 (liaison_Pieces.l0 kq t352 x7_1 x9_1 = some (r1, r2)) ∧ Aside0 (kq ≤ k) ∧ Aside0 (Kd.R (Kd.int .u64) 71 w' w.heap.size (fun _ => True) v353 t352) ∧ Aside0 (Kd.S (Kd.slice 3 (Kd.int .i64)) 23 w' w.heap.size (fun _ => True) v9 x9_1) ∧ Aside0 (w'.heap[gb351]? = some (.cells #[.int .i64 a0_0, (.slice A0_1 l0_1.length c0_1)] 28 (0, 0))) ∧ Aside0 (Below w.heap.size w w'))
  case atStart => exact ⟨(t355), (([] : List (List Int))), (by first | rfl | (simp; done) | (simp [*]; done)), H', ⟨Nat.le_refl _⟩, ⟨by (with_reducible repeat (first | apply Kd.R_alloc | apply Kd.R_drewN | apply Kd.R_drew)); exact HO354.out⟩, ⟨by first | exact Kd.S_nil _ _ _ _ _ | exact Kd.N_nil _ _ _ _ _ | exact Kd.V_nil _ _ _ _ _ | exact Kd.Q_nil _ _ _ _ _ | exact Kd.R_nil _ _ _ _ _⟩, ⟨by (with_reducible repeat (first | refine blk_drewN ?_ _ | refine blk_drew ?_ | refine blk_alloc ?_ _)); exact BK351.out⟩, ⟨by repeat (first | (with_reducible first | exact HB.out | apply below_alloc | apply pw_below_drewN | apply below_drew1 | refine below_set ?_ GE351.out) | exact HB.out)⟩⟩
  case round =>
   clear H'
   try clear c1
   try clear p2
   try clear c3
   try clear c4
   try clear c4b0
   try clear c4b1
   try clear hcz6_0
   try clear hcz6_1
   try clear hfz6_0
   try clear hfz6_1
   obtain ⟨x7_1, x9_1, rfl, HA, HK1, HO_6, HO_9, BK351, HB⟩ := hrel
   cases gk with
   | zero => exact absurd HA.out (by simp [liaison_Pieces.l0])
   | succ k1 =>
    have H := HA.out
    clear HA
    simp only [liaison_Pieces.l0] at H
    by_cases c8 : x7_1 = 0
    ·rw [if_pos c8] at H
     have c8b0 : (x7_1 == 0) = true := beq_iff_eq.mpr c8
     have c8b1 : (x7_1 != 0) = false := bne_eq_false_iff_eq.mpr c8
     clear c8
     simp only [Option.some.injEq, Prod.mk.injEq] at H
     obtain ⟨rfl, rfl⟩ := H
     go_wp2
     go_ret2
     exact ⟨_, by first | rfl | (simp [errW_none, errW_some] <;> rfl) | (simp [*, errW_none, errW_some] <;> rfl), by (with_reducible repeat (first | apply Kd.S_alloc | apply Kd.S_drewN | apply Kd.S_drew)); exact HO_9.out, by repeat (first | (with_reducible first | exact HB.out | apply below_alloc | apply pw_below_drewN | apply below_drew1 | refine below_set ?_ GE351.out) | exact HB.out)⟩
    ·rw [if_neg c8] at H
     have c8b0 : (x7_1 == 0) = false := beq_eq_false_iff_ne.mpr c8
     have c8b1 : (x7_1 != 0) = true := bne_iff_ne.mpr c8
     replace H := Option.bind_eq_some_iff.mp H
     obtain ⟨t357, A90, H⟩ := H
     replace H : ((liaison_listed.f k1 t357).bind fun t358 => (if x9_1.length < 5864062014805 then (liaison_Pieces.l0 k1 t352 (Go.bits .andNot .u64 x7_1 t357) (x9_1 ++ [t358])) else (none))) = some (r1, r2) := H
     have A9 := Aside0.mk A90
     clear A90
     replace H := Option.bind_eq_some_iff.mp H
     obtain ⟨t358, A100, H⟩ := H
     replace H : (if x9_1.length < 5864062014805 then (liaison_Pieces.l0 k1 t352 (Go.bits .andNot .u64 x7_1 t357) (x9_1 ++ [t358])) else (none)) = some (r1, r2) := H
     have A10 := Aside0.mk A100
     clear A100
     by_cases c11 : x9_1.length < 5864062014805
     ·rw [if_pos c11] at H
      have LMc11 := Aside0.mk c11
      clear c11
      obtain ⟨y361, hy361⟩ : ∃ y_ : List (List Int), y_ = (x9_1 ++ [t358]) := ⟨_, rfl⟩
      replace H : (liaison_Pieces.l0 k1 t352 (Go.bits .andNot .u64 x7_1 t357) y361) = some (r1, r2) := by first | (rw [hy361]; with_reducible exact H) | (have H2_ := (Option.bind_some _ _).symm.trans H; rw [hy361]; with_reducible exact H2_) | (have H2_ := (Option.bind_some _ _).symm.trans H; with_reducible exact H2_) | with_reducible exact H | (rw [hy361]; exact H) | exact H
      have Ny361 := Aside0.mk hy361
      clear hy361
      have H' := Aside0.mk H
      clear H
      obtain ⟨Ao12, co12, eo12⟩ := Kd.R_slice HO_6.out
      subst eo12
      go_wp2_with (first | ((with_reducible refine gate_callee (f := 44) rfl ?_); refine goesL_ (some 25) rfl rfl Tryd.func44 (by kernel_rfl) rfl #[.slice Ao12 t352.length co12, .int .u64 x7_1] rfl (by (try simp only [List.map_toArray, List.map_cons, List.map_nil]); first | done | rfl | (simp only [List.length_drop, List.length_take]; rfl)) ?_; (with_reducible refine (liaison_links_piece.calls k1 _ _ t352 x7_1 t357 _ ?side1 ?side2 ?side3 A9.out).mono ?_); (case side1 => repeat (first | exact (Kd.R_reads' HO_6.out).2.2 | (with_reducible refine Kd.C_alloc ?_ _) | (with_reducible refine Kd.C_drewN ?_ _) | (with_reducible refine Kd.C_drew ?_))); (case side2 => exact (Kd.R_reads' HO_6.out).2.1); (case side3 => repeat (first | exact (Kd.C_below HG.out HB.out) | (with_reducible refine Kd.C_alloc ?_ _) | (with_reducible refine Kd.C_drewN ?_ _) | (with_reducible refine Kd.C_drew ?_))); rintro e w13 ⟨rfl, hb⟩; refine ⟨_, rfl, ?_⟩; have n0_ := Aside0.mk (Kd.R_below (by (with_reducible repeat (first | apply Kd.R_alloc | apply Kd.R_drewN | apply Kd.R_drew)); exact HO_6.out) hb); have n1_ := Aside0.mk (Kd.S_below (by (with_reducible repeat (first | apply Kd.S_alloc | apply Kd.S_drewN | apply Kd.S_drew)); exact HO_9.out) hb); have n2_ := Aside0.mk (blk_below (g := gb351) (o := .cells #[.int .i64 a0_0, .slice A0_1 l0_1.length c0_1] 28 (0, 0)) (by (with_reducible repeat (first | refine blk_drewN ?_ _ | refine blk_drew ?_ | refine blk_alloc ?_ _)); exact BK351.out) hb); have n3_ := Aside0.mk (below_step (by repeat (first | (with_reducible first | exact HB.out | apply below_alloc | apply pw_below_drewN | apply below_drew1 | refine below_set ?_ GE351.out) | exact HB.out)) hb); clear HO_6; clear HO_9; clear BK351; clear HB; have HO_6 := n0_; have HO_9 := n1_; have BK351 := n2_; have HB := n3_; clear n0_ n1_ n2_ n3_; (try clear hb); (try clear hb2); (try clear hk); (try clear hi)) | ((with_reducible refine gate_callee (f := 37) rfl ?_); refine goesL_ (some 28) rfl rfl Tryd.func37 (by kernel_rfl) rfl #[.int .u64 t357] rfl (by (try simp only [List.map_toArray, List.map_cons, List.map_nil]); first | done | rfl | (simp only [List.length_drop, List.length_take]; rfl)) ?_; (with_reducible refine (liaison_listed.calls k1 t357 t358 _ ?side1 A10.out).mono ?_); (case side1 => repeat (first | exact (Kd.C_below HG.out HB.out) | (with_reducible refine Kd.C_alloc ?_ _) | (with_reducible refine Kd.C_drewN ?_ _) | (with_reducible refine Kd.C_drew ?_))); rintro e w14 ⟨v359, rfl, ho0, hb⟩; refine ⟨_, rfl, ?_⟩; have n0_ := Aside0.mk (Kd.R_below (by (with_reducible repeat (first | apply Kd.R_alloc | apply Kd.R_drewN | apply Kd.R_drew)); exact HO_6.out) hb); have n1_ := Aside0.mk (Kd.S_elder' (by (with_reducible repeat (first | apply Kd.S_alloc | apply Kd.S_drewN | apply Kd.S_drew)); exact HO_9.out) (Kd.R_base ho0) hb); have n2_ := Aside0.mk (Kd.R_lower ho0 (below_size (by repeat (first | (with_reducible first | exact HB.out | apply below_alloc | apply pw_below_drewN | apply below_drew1 | refine below_set ?_ GE351.out) | exact HB.out)))); have n3_ := Aside0.mk (blk_below (g := gb351) (o := .cells #[.int .i64 a0_0, .slice A0_1 l0_1.length c0_1] 28 (0, 0)) (by (with_reducible repeat (first | refine blk_drewN ?_ _ | refine blk_drew ?_ | refine blk_alloc ?_ _)); exact BK351.out) hb); have n4_ := Aside0.mk (below_step (by repeat (first | (with_reducible first | exact HB.out | apply below_alloc | apply pw_below_drewN | apply below_drew1 | refine below_set ?_ GE351.out) | exact HB.out)) hb); clear HO_6; clear HO_9; clear BK351; clear HB; have HO_6 := n0_; have HO_9 := n1_; have HO360 := n2_; have BK351 := n3_; have HB := n4_; clear n0_ n1_ n2_ n3_ n4_; (try clear hb); (try clear hb2); (try clear hk); (try clear hi); (try clear ho0); obtain ⟨Ao16, co16, eo16⟩ := Kd.R_slice HO360.out; subst eo16) | ((with_reducible refine gate_builtin (b := .append) (xs := #[.tmp 26, .tmp 29]) rfl ?_); at_builtin; refine Kd.S_append (Kd.slice 3 (Kd.int .i64)) (w0 := w) w.heap.size rfl (.tmp 26) (.tmp 29) 45 23 (.slice none 0 0) 24 rfl Tryd.underlying45 info23 rfl (by decide) (by omega) u9 x9_1 t358 [.slice Ao16 t358.length co16] (fun _ => True) (fun k_ => some k_ = (.slice Ao16 t358.length co16 : Value).ownBlock) rfl rfl ?aP (fun k_ hk_ => ((Kd.R_mono (ok' := fun k_ => ((fun _ => True)) k_ ∧ some k_ ≠ (u9 : Value).ownBlock) (Kd.R_apart' (HO360.out) (Kd.S_typed HO_9.out) (by decide)) (fun k_ hk => ⟨trivial, hk.2⟩))).1 k_ hk_.symm) ?aF ?aO ?aB ?aS ?aL ?_; (case aP => exact Kd.M_row (Kd.R_mono (Kd.R_tight rfl (Kd.R_mono (ok' := fun k_ => ((fun _ => True)) k_ ∧ some k_ ≠ (u9 : Value).ownBlock) (Kd.R_apart' (HO360.out) (Kd.S_typed HO_9.out) (by decide)) (fun k_ hk => ⟨trivial, hk.2⟩))) (fun _ h_ => h_))); (case aB => exact (by repeat (first | (with_reducible first | exact HB.out | apply below_alloc | apply pw_below_drewN | apply below_drew1 | refine below_set ?_ GE351.out) | exact HB.out))); (case aF => exact (fun _ _ => trivial)); (case aO => exact (by (with_reducible repeat (first | apply Kd.S_alloc | apply Kd.S_drewN | apply Kd.S_drew)); exact Kd.S_mono HO_9.out (fun k_ hk => ⟨trivial, fun e_ => hk.2 e_⟩))); (case aS => exact (below_size (by repeat (first | (with_reducible first | exact HB.out | apply below_alloc | apply pw_below_drewN | apply below_drew1 | refine below_set ?_ GE351.out) | exact HB.out)))); (case aL => have := LMc11.out; omega); intro v362 w15 ho hb hg hat; rw [← Ny361.out] at ho; have n0_ := Aside0.mk (Kd.R_over' (by (with_reducible repeat (first | apply Kd.R_alloc | apply Kd.R_drewN | apply Kd.R_drew)); exact HO_6.out) (Kd.S_typed (by (with_reducible repeat (first | apply Kd.S_alloc | apply Kd.S_drewN | apply Kd.S_drew)); exact HO_9.out)) (by decide) hg); have n1_ := Aside0.mk (blk_grown (g := gb351) (o := .cells #[.int .i64 a0_0, .slice A0_1 l0_1.length c0_1] 28 (0, 0)) (by (with_reducible repeat (first | refine blk_drewN ?_ _ | refine blk_drew ?_ | refine blk_alloc ?_ _)); exact BK351.out) hg (Kd.S_ne HO_9.out BK351.out (by decide))); have n2_ := Aside0.mk (hb); have n3_ := Aside0.mk (ho); clear HO_6; clear BK351; clear HB; clear HO_9; clear HO360; have HO_6 := n0_; have BK351 := n1_; have HB := n2_; have HO363 := n3_; clear n0_ n1_ n2_ n3_; clear ho hb hg hat))
      go_roundg k1
      case measure => have := HK1.out; omega
      case rel => exact ⟨(Go.bits .andNot .u64 x7_1 t357), (y361), (by first | rfl | (simp; done) | (simp [*]; done)), H', ⟨by have := HK1.out; omega⟩, ⟨by (with_reducible repeat (first | apply Kd.R_alloc | apply Kd.R_drewN | apply Kd.R_drew)); exact HO_6.out⟩, ⟨by (with_reducible repeat (first | apply Kd.S_alloc | apply Kd.S_drewN | apply Kd.S_drew)); exact HO363.out⟩, ⟨by (with_reducible repeat (first | refine blk_drewN ?_ _ | refine blk_drew ?_ | refine blk_alloc ?_ _)); exact BK351.out⟩, ⟨by repeat (first | (with_reducible first | exact HB.out | apply below_alloc | apply pw_below_drewN | apply below_drew1 | refine below_set ?_ GE351.out) | exact HB.out)⟩⟩
     ·rw [if_neg c11] at H
      exact absurd H (by simp)
 ·rw [if_neg c4] at H
  have c4b0 : (t356 == 0) = false := beq_eq_false_iff_ne.mpr c4
  have c4b1 : (t356 != 0) = true := bne_iff_ne.mpr c4
  simp only [Option.some.injEq, Prod.mk.injEq] at H
  obtain ⟨rfl, rfl⟩ := H
  go_enter Tryd.func17, Tryd.ntmps17
  go_wp2_with (first | ((with_reducible refine gate_dst (N := 2) rfl ?_); refine box_event ?hg (N := 2) ?hd (cs := #[.int .i64 a0_0, .slice A0_1 l0_1.length c0_1]) (t := 28) ?hr ?_; (case hd => rfl); (case hg => rfl); (case hr => first | (go_simp; done) | (go_simp; rfl)); intro gb351 hg w17 hbox hb; have n0_ := Aside0.mk (below_step (by repeat (first | (with_reducible first | exact HB.out | apply below_alloc | apply pw_below_drewN | apply below_drew1) | exact HB.out)) hb); have n1_ := Aside0.mk (hbox); have n2_ := Aside0.mk ((by rw [hg]; exact (below_size (by repeat (first | (with_reducible first | exact HB.out | apply below_alloc | apply pw_below_drewN | apply below_drew1) | exact HB.out))) : w.heap.size ≤ gb351)); have n3_ := Aside0.mk ((by rw [hg]; exact (below_size (by repeat (first | (with_reducible first | exact HB.out | apply below_alloc | apply pw_below_drewN | apply below_drew1) | exact HB.out))) : w.heap.size ≤ gb351)); clear HB; have HB := n0_; have BK351 := n1_; have GW351 := n2_; have GE351 := n3_; clear n0_ n1_ n2_ n3_; clear hb hbox hg; have hcz18_0 : w17.cell? ⟨gb351, 0, none⟩ = some (.int .i64 a0_0) := (blk_cell BK351.out 0).trans rfl; have hcz18_1 : w17.cell? ⟨gb351, 1, none⟩ = some (.slice A0_1 l0_1.length c0_1) := (blk_cell BK351.out 1).trans rfl; have hfz18_0 := blk_frozen BK351.out 0; have hfz18_1 := blk_frozen BK351.out 1) | ((with_reducible refine gate_callee (f := 34) rfl ?_); refine goesL_ (some 14) rfl rfl Tryd.func34 (by kernel_rfl) rfl #[.agg #[.int .i64 a0_0, .slice A0_1 l0_1.length c0_1], .slice A1 l1.length c1] rfl (by (try simp only [List.map_toArray, List.map_cons, List.map_nil]); first | done | rfl | (simp only [List.length_drop, List.length_take]; rfl)) ?_; (with_reducible refine (liaison_opened.calls k a0_0 _ _ l0_1 _ _ l1 t352 t355 t356 _ ?side1 ?side2 ?side3 ?side4 A3.out).mono ?_); (case side1 => repeat (first | exact (Kd.C_below HR0_1.out HB.out) | (with_reducible refine Kd.C_alloc ?_ _) | (with_reducible refine Kd.C_drewN ?_ _) | (with_reducible refine Kd.C_drew ?_))); (case side2 => exact HC0_1.out); (case side3 => repeat (first | exact (Kd.C_below HR1.out HB.out) | (with_reducible refine Kd.C_alloc ?_ _) | (with_reducible refine Kd.C_drewN ?_ _) | (with_reducible refine Kd.C_drew ?_))); (case side4 => exact HC1.out); rintro e w19 ⟨v353, rfl, ho0, hb⟩; refine ⟨_, rfl, ?_⟩; have n0_ := Aside0.mk (Kd.R_lower ho0 (below_size (by repeat (first | (with_reducible first | exact HB.out | apply below_alloc | apply pw_below_drewN | apply below_drew1 | refine below_set ?_ GE351.out) | exact HB.out)))); have n1_ := Aside0.mk (blk_below (g := gb351) (o := .cells #[.int .i64 a0_0, .slice A0_1 l0_1.length c0_1] 28 (0, 0)) (by (with_reducible repeat (first | refine blk_drewN ?_ _ | refine blk_drew ?_ | refine blk_alloc ?_ _)); exact BK351.out) hb); have n2_ := Aside0.mk (below_step (by repeat (first | (with_reducible first | exact HB.out | apply below_alloc | apply pw_below_drewN | apply below_drew1 | refine below_set ?_ GE351.out) | exact HB.out)) hb); clear BK351; clear HB; have HO354 := n0_; have BK351 := n1_; have HB := n2_; clear n0_ n1_ n2_; (try clear hb); (try clear hb2); (try clear hk); (try clear hi); (try clear ho0)))
  go_ret2
  exact ⟨_, by first | rfl | (simp [errW_none, errW_some] <;> rfl) | (simp [*, errW_none, errW_some] <;> rfl), by first | exact Kd.S_nil _ _ _ _ _ | exact Kd.N_nil _ _ _ _ _ | exact Kd.V_nil _ _ _ _ _ | exact Kd.Q_nil _ _ _ _ _ | exact Kd.R_nil _ _ _ _ _, by repeat (first | (with_reducible first | exact HB.out | apply below_alloc | apply pw_below_drewN | apply below_drew1 | refine below_set ?_ GE351.out) | exact HB.out)⟩
end
end Go.Proofs.YtbghfbhlbfcloaaDoor.PL
namespace Go.Proofs.YtbghfbhlbfcloaaDoor.PL
section
open Go.RowKit Go.Proofs.YtbghfbhlbfcloaaDoorW.PrintWords Go.Proofs.YtbghfbhlbfcloaaDoorW.PrintLast Go.Proofs.YtbghfbhlbfcloaaDoorW.PrintMore
attribute [local go_sem] Oper.semAt_some
set_option linter.unusedVariables false
set_option linter.unusedSimpArgs false

theorem nodup_at {l : List S41} (h : (l.map fun x => x.f0).Nodup) {i j : Nat} (hi : i < l.length) (hj : j < l.length) (he : (l.getD i z41).f0 = (l.getD j z41).f0) : i = j := by
 rw [List.getD_eq_getElem?_getD, List.getD_eq_getElem?_getD, List.getElem?_eq_getElem hi, List.getElem?_eq_getElem hj] at he
 exact (List.getElem_inj (h₀ := by simpa using hi) (h₁ := by simpa using hj) h).1 (by simpa using he)
theorem sortC_eq (l : List S41) (hn : (l.map fun x => x.f0).Nodup) : (l.mergeSort fun x y => !(decide (befC y x < 0))) = sortC l := merge_cf befC (befL_swo (fun x : S41 => x.f0)) l (fun a b ha hb h1 h2 => by
 have e : a.f0 = b.f0 := befL_eq _ _ (by
  have := befL_neg a.f0 b.f0
  unfold befC at h1 h2
  omega)
 obtain ⟨i, hi, rfl⟩ := List.getElem_of_mem ha
 obtain ⟨j, hj, rfl⟩ := List.getElem_of_mem hb
 have h := (List.getElem_inj (h₀ := by simpa using hi) (h₁ := by simpa using hj) hn).1 (by simpa using e)
 subst h
 rfl)
/-- SortFunc at a row of cuts of the call's own. -/
theorem sortCallC (W : World) (base : Nat) (v : Value) (l : List S41) (hok : okC l = true) (HO : Kd.S k41 41 W base (fun _ => True) v l) :
  Calls Tryd.prog 38 #[v, .func (.func 39) #[] #[]] W fun e w' => e = .returned (.tuple #[]) ∧ Kd.S k41 41 w' base (fun _ => True) v (sortC l) ∧ W.grownBy w' v.ownBlock := by
 simp only [okC, Bool.and_eq_true, decide_eq_true_eq] at hok
 obtain ⟨⟨hl, hc⟩, hn⟩ := hok
 rcases Nat.eq_zero_or_pos l.length with h0 | h0
 ·obtain rfl := List.eq_nil_of_length_eq_zero h0
  obtain ⟨A, c, rfl⟩ := Kd.S_slice HO
  refine (sortNoneCut A c _ W).mono fun e w' h => ?_
  obtain ⟨he, rfl⟩ := h
  exact ⟨he, by simpa [sortC, isort] using HO, ⟨rfl, rfl, rfl, Nat.le_refl _, fun _ _ _ => rfl⟩⟩
 ·have HO' := Kd.S_R HO
  obtain ⟨_, inner, ⟨_, ho⟩, _⟩ := HO'
  rcases ho with ⟨_, hx⟩ | ⟨g, cap, cur, rfl, hg, _⟩
  ·omega
  ·refine (sortS sortsCut HO (by omega) h0 z41 befC (befL_swo (fun x : S41 => x.f0)) ?_ (enters_of Tryd.func39 (by kernel_rfl) rfl) ?_).mono fun e w' h => ⟨h.1, sortC_eq l hn ▸ h.2.1, h.2.2⟩
   ·intro i j hi hj h1 h2
    refine nodup_at hn hi hj (befL_eq _ _ ?_)
    have := befL_neg (l.getD i z41).f0 (l.getD j z41).f0
    unfold befC at h1 h2
    omega
   ·intro x y cx cy W' hx hy kx ky
    obtain ⟨A0, c0, A1, c1, rfl, g0, g1, g2, g3⟩ := k41_open kx
    obtain ⟨A2, c2, A3, c3, rfl, g4, g5, g6, g7⟩ := k41_open ky
    have h1 := List.all_eq_true.1 (List.all_eq_true.1 hc x hx) y hy
    exact (liaison_Cuts_1.exact CU.k A0 c0 x.f0 A1 c1 x.f1 A2 c2 y.f0 A3 c3 y.f1 (befC x y) W' g1 g0 g3 g2 g5 g4 g7 g6 (by simpa using h1)).mono fun e w' h => ⟨h.1, h.2.2⟩
/-- The operations of a region, by its number, in a loop over a function too. -/
def opsB : Code → Nat → Option (Array Oper)
 | .region id ops _, k => if id == k then some ops else none
 | .seq a b, k => match opsB a k with
  | some o => some o
  | none => opsB b k
 | .cond _ a b, k => match opsB a k with
  | some o => some o
  | none => opsB b k
 | .block _ c, k => opsB c k
 | .rangeFunc _ _ _ c, k => opsB c k
 | _, _ => none
def opsG (f : Func) (k : Nat) : Array Oper := ((f.body.bind fun c => opsB c k)).getD #[]
def notDefer : Op → Bool
 | .defer _ => false
 | _ => true
theorem nd_of {ops : Array Oper} (h : (ops.all fun o => notDefer o.op) = true) : ∀ (i : Nat) (o : Oper), ops[i]? = some o → ∀ c, o.op ≠ .defer c := by
 intro i o ho c e
 have h1 := Array.all_eq_true'.1 h o (Array.mem_of_getElem? ho)
 rw [e] at h1
 cases h1
def CU.T11 : Bool × List (List Nat × List Nat) := (true, [([], []), ([], []), ([1], [1]), ([], []), ([3, 2], [3]), ([2, 4], [2, 4]), ([5], [5]), ([0, 6, 4], [0, 6]), ([7, 7, 0, 1, 2, 3, 4, 5, 6, 7], [7])])
def CU.B11 : List Nat := [0, 0, 2, 0, 14, 30, 62, 127, 255]
theorem CU.tab11 : rtab .any (opsG Tryd.f10 11) = CU.T11 := by kernel_rfl
theorem CU.bits11 : waitsOk CU.T11.2 CU.B11 = true := by kernel_rfl
theorem cell_alloc_l {W : World} {a : Addr} {v : Value} (o : Obj) (h : W.cell? a = some v) : (W.alloc o).cell? a = some v := cell_kept h (World.grownBy_alloc W o none) (fun r e => by cases e)
set_option maxHeartbeats 1000000 in
theorem subsets_make (AL : Option Addr) (n cL : Nat) (m : Int) (w : World) :
  Calls Tryd.prog 36 #[.slice AL n cL, .int .u64 m] w fun e w' => e = .returned (.func (.func 66) #[] #[.pointer (some ⟨w.heap.size + 1, 0, none⟩), .pointer (some ⟨w.heap.size, 0, none⟩)]) ∧ w' = (w.alloc (.cells #[.slice AL n cL] 70)).alloc (.cells #[.int .u64 m] 71) := by
 go_enter Tryd.func36, Tryd.ntmps36
 go_wp2
 go_ret
 exact ⟨rfl, rfl⟩

set_option maxRecDepth 100000 in
set_option maxHeartbeats 4000000 in
theorem CU.calls (a0_0 : Int) (A0_1 : Option Addr) (c0_1 : Nat) (l0_1 : List (S68)) (A1 : Option Addr) (c1 : Nat) (l1 : List Int) (r1 : List (S41)) (r2 : Int) (w : World) (hr0_1 : Kd.C k68 w A0_1 l0_1.length l0_1) (hc0_1 : l0_1.length ≤ c0_1) (hr1 : Kd.C (Kd.int .i64) w A1 l1.length l1) (hc1 : l1.length ≤ c1) (hG : Kd.C (Kd.int .u8) w (some tabA) tabL.length tabL) (h : CU.f a0_0 l0_1 l1 = some (r1, r2)) :
  Calls Tryd.prog 10 #[.agg #[.int .i64 a0_0, .slice A0_1 l0_1.length c0_1], .slice A1 l1.length c1] w fun e w' => ∃ v0_ : Value, e = .returned (.tuple #[v0_, .int .i64 r2]) ∧ Kd.S k41 41 w' w.heap.size (fun _ => True) v0_ r1 ∧ Below w.heap.size w w' := by
 have hu28 := Tryd.underlying28
 have hu41 := Tryd.underlying41
 unfold CU.f at h
 obtain ⟨⟨L, m, er⟩, hop, h1⟩ := Option.bind_eq_some_iff.1 h
 dsimp only at h1
 have HR0 := Aside0.mk hr0_1
 have HC0 := Aside0.mk hc0_1
 have HR1 := Aside0.mk hr1
 have HC1 := Aside0.mk hc1
 have HG := Aside0.mk hG
 have HOP := Aside0.mk hop
 have H := Aside0.mk h1
 have HOPC : ∀ w', Below w.heap.size w w' → _ := fun w' hb => (callsIn_wide (n := 5)).2 (liaison_opened.calls CU.k a0_0 A0_1 c0_1 l0_1 A1 c1 l1 L m er w' (Kd.C_below hr0_1 hb) hc0_1 (Kd.C_below hr1 hb) hc1 hop)
 have HO := Aside0.mk HOPC
 clear HOPC hr0_1 hc0_1 hr1 hc1 hG hop h h1
 refine (callsIn_wide (n := 6)).1 ?_
 refine callsIn_of_wp_marks Tryd.func10 rfl trivial ?_ rfl
 simp only [Tryd.ntmps10, List.size_toArray, List.length_cons, List.length_nil, Nat.reduceAdd, Nat.reduceSub, Array.replicate_succ, Array.replicate_zero, List.push_toArray, List.append_toArray, List.nil_append, List.cons_append]
 by_cases he : er = 0
 case neg =>
  have heb : (er != 0) = true := by simpa using he
  gi_wp2_with (refine ⟨trivial, ?_⟩; gi_at_call 34; refine (HO.out _ (below_alloc (Below.refl _ _) _)).mono ?_; rintro e w2 ⟨vL, rfl, hL, hb⟩; obtain ⟨AL, cL, rfl⟩ := Kd.R_slice hL; have hb2 := (below_alloc (Below.refl w.heap.size w) (.cells #[.int .i64 a0_0, .slice A0_1 l0_1.length c0_1] 28)).trans (hb.mono (by simp)); clear hb; have HB := Aside0.mk hb2; clear hb2)
  have hh := H.out
  rw [if_neg he] at hh
  injection hh with hh
  injection hh with e1 e2
  subst e1 e2
  exact ⟨.tuple #[.slice none 0 0, .int .i64 er], by simp [results, Tryd.f10, go_sem], .slice none 0 0, rfl, Kd.S_nil _ _ _ _ _, below_alloc (below_alloc HB.out _) _⟩
 case pos =>
  subst he
  have hh := H.out
  rw [if_pos rfl] at hh
  obtain ⟨c, hc, hh⟩ := Option.bind_eq_some_iff.1 hh
  have H2 := Aside0.mk hh
  have HC := Aside0.mk hc
  clear H hc hh
  cases c with
  | false =>
   gi_wp2_with (first
    | (refine ⟨trivial, ?_⟩; gi_at_call 34; refine (HO.out _ (below_alloc (Below.refl _ _) _)).mono ?_; rintro e w2 ⟨vL, rfl, hL, hb⟩; obtain ⟨AL, cL, rfl⟩ := Kd.R_slice hL; have hb2 := (below_alloc (Below.refl w.heap.size w) (.cells #[.int .i64 a0_0, .slice A0_1 l0_1.length c0_1] 28)).trans (hb.mono (by simp)); clear hb; have HB := Aside0.mk hb2; clear hb2; have HLC := Aside0.mk (Kd.R_reads' hL); clear hL)
    | (refine ⟨trivial, ?_⟩; gi_at_call 35; refine (callsIn_wide.2 (liaison_links_connected.calls CU.k _ _ L m false _ (Kd.C_alloc (Kd.C_alloc HLC.out.2.2 _) _) HLC.out.2.1 (Kd.C_alloc (Kd.C_alloc (Kd.C_below HG.out HB.out) _) _) HC.out)).mono ?_; rintro e w3 ⟨rfl, hb3⟩; have HB3 := Aside0.mk ((below_alloc (below_alloc HB.out _) _).trans (hb3.mono (by have := HB.out.size; simp; omega))); clear hb3))
   have hh := H2.out
   rw [if_neg (by simp)] at hh
   injection hh with hh
   injection hh with e1 e2
   subst e1 e2
   exact ⟨.tuple #[.slice none 0 0, .int .i64 17], by simp [results, Tryd.f10, go_sem], .slice none 0 0, rfl, Kd.S_nil _ _ _ _ _, HB3.out⟩
  | true =>
   gi_wp2_with (first
    | (refine ⟨trivial, ?_⟩; gi_at_call 34; refine (HO.out _ (below_alloc (Below.refl _ _) _)).mono ?_; rintro e w2 ⟨vL, rfl, hL, hb⟩; obtain ⟨AL, cL, rfl⟩ := Kd.R_slice hL; have hb2 := (below_alloc (Below.refl w.heap.size w) (.cells #[.int .i64 a0_0, .slice A0_1 l0_1.length c0_1] 28)).trans (hb.mono (by simp)); clear hb; have HB := Aside0.mk hb2; clear hb2; have HLC := Aside0.mk (Kd.R_reads' hL); clear hL)
    | (refine ⟨trivial, ?_⟩; gi_at_call 35; refine (callsIn_wide.2 (liaison_links_connected.calls CU.k _ _ L m true _ (Kd.C_alloc (Kd.C_alloc HLC.out.2.2 _) _) HLC.out.2.1 (Kd.C_alloc (Kd.C_alloc (Kd.C_below HG.out HB.out) _) _) HC.out)).mono ?_; rintro e w3 ⟨rfl, hb3⟩; have HB3 := Aside0.mk ((below_alloc (below_alloc HB.out _) _).trans (hb3.mono (by have := HB.out.size; simp; omega))); have HB4 := Aside0.mk hb3; have HLB := Aside0.mk (blk_below (blk_alloc (blk_new w2 (.cells #[.slice AL L.length cL] 70)) (.cells #[.int .u64 m] 71)) hb3); have HMB := Aside0.mk (blk_below (show ((w2.alloc (.cells #[.slice AL L.length cL] 70)).alloc (.cells #[.int .u64 m] 71)).heap[w2.heap.size + 1]? = _ from by have h_ := blk_new (w2.alloc (.cells #[.slice AL L.length cL] 70)) (.cells #[.int .u64 m] 71); rwa [World.size_alloc] at h_) hb3); have hl3 : w3.cell? ⟨w2.heap.size, 0, none⟩ = some (.slice AL L.length cL) := (blk_cell HLB.out 0).trans rfl; have hm3 : w3.cell? ⟨w2.heap.size + 1, 0, none⟩ = some (.int .u64 m) := (blk_cell HMB.out 0).trans rfl; have hl4 := cell_alloc_l (.cells #[.slice none 0 0] 30) hl3; have hm4 := cell_alloc_l (.cells #[.slice none 0 0] 30) hm3; clear hl3 hm3; clear hb3)
    | (refine ⟨trivial, ?_⟩; gi_at_call 36; refine (callsIn_wide.2 (subsets_make AL L.length cL m _)).mono ?_; rintro e w4 ⟨rfl, rfl⟩))
   have hh := H2.out
   simp only [if_true] at hh
   obtain ⟨ms, hms, hh⟩ := Option.bind_eq_some_iff.1 hh
   split at hh
   case isFalse => cases hh
   rename_i hsome
   obtain ⟨out, hout, hh⟩ := Option.bind_eq_some_iff.1 hh
   split at hh
   case isFalse => cases hh
   rename_i hok
   injection hh with hh
   injection hh with e1 e2
   subst e1 e2
   have hch := subs_chain m 1000 m ms hms
   have hlen := subs_len m 1000 m ms hms
   have hcn : ∀ s ∈ ms, liaison_links_connected.f CU.k L s = some (cnB L s) := by
    intro s hs
    have h1 := List.all_eq_true.1 hsome s hs
    unfold cnB
    cases e : liaison_links_connected.f CU.k L s with
    | none => rw [e] at h1; cases h1
    | some b => rfl
   have hat := fun x hx => allO_at hout x hx
   -- the world where the loop begins
   obtain ⟨W0, hW0⟩ : ∃ W0, ((w3.alloc (.cells #[.slice none 0 0] 30)).alloc (.cells #[.slice AL L.length cL] 70)).alloc (.cells #[.int .u64 m] 71) = W0 := ⟨_, rfl⟩
   have hs0 : W0.heap.size = w3.heap.size + 3 := by rw [← hW0]; simp
   have hO0 : W0.heap[w3.heap.size]? = some (.cells #[.slice none 0 0] 30 (0, 0)) := by rw [← hW0]; exact blk_alloc (blk_alloc (blk_new w3 _) _) _
   have hL0 : W0.heap[w3.heap.size + 1]? = some (.cells #[.slice AL L.length cL] 70 (0, 0)) := by
    rw [← hW0]; have h_ := blk_new (w3.alloc (.cells #[.slice none 0 0] 30)) (.cells #[.slice AL L.length cL] 70); rw [World.size_alloc] at h_; exact blk_alloc h_ _
   have hM0 : W0.heap[w3.heap.size + 1 + 1]? = some (.cells #[.int .u64 m] 71 (0, 0)) := by
    rw [← hW0]; have h_ := blk_new ((w3.alloc (.cells #[.slice none 0 0] 30)).alloc (.cells #[.slice AL L.length cL] 70)) (.cells #[.int .u64 m] 71); rwa [World.size_alloc, World.size_alloc] at h_
   have h30 : Below w3.heap.size w3 W0 := by rw [← hW0]; exact below_alloc (below_alloc (below_alloc (Below.refl _ _) _) _) _
   have hBW : Below w.heap.size w W0 := HB3.out.trans (h30.mono HB3.out.size)
   have h23 : w2.heap.size + 2 ≤ w3.heap.size := by have := HB4.out.size; simpa using this
   have hLC0 : ∀ W', Kq w3.heap.size (w3.heap.size + 1 + 1) (w3.heap.size + 1) W0 W' → Kd.C (Kd.int .u64) W' AL L.length L := fun W' h => Kd.C_below (Kd.C_below (Kd.C_alloc (Kd.C_alloc HLC.out.2.2 _) _) HB4.out) (h30.trans h.b)
   have hG0 : ∀ W', Kq w3.heap.size (w3.heap.size + 1 + 1) (w3.heap.size + 1) W0 W' → Kd.C (Kd.int .u8) W' (some tabA) tabL.length tabL := fun W' h => Kd.C_below (Kd.C_below HG.out HB3.out) (h30.trans h.b)
   rw [hW0]
   have HAT := Aside0.mk hat
   have HLC0 := Aside0.mk hLC0
   have HG0 := Aside0.mk hG0
   have HS0 := Aside0.mk hs0
   have HLEN := Aside0.mk hlen
   have HOUT := Aside0.mk hout
   have HOK := Aside0.mk hok
   have HBW := Aside0.mk hBW
   have hlb := h30.block w2.heap.size (by omega)
   rw [HLB.out] at hlb
   have hmb := h30.block (w2.heap.size + 1) (by omega)
   rw [HMB.out] at hmb
   have HLB0 := Aside0.mk hlb
   have HMB0 := Aside0.mk hmb
   have H23 := Aside0.mk h23
   have HO0 := Aside0.mk hO0
   clear hat hLC0 hG0 hs0 hlen hout hok hBW hlb hmb h23
   refine wpIn_rangeFunc_ownG (N := (ms.filter (cnB L)).length) rfl (by omega) (gf := 66) (lb := #[.pointer (some ⟨w3.heap.size + 1 + 1, 0, none⟩), .pointer (some ⟨w3.heap.size + 1, 0, none⟩)]) rfl trivial (enters_of Tryd.func66 (by kernel_rfl) rfl)
    (subsets_stops CU.k AL cL L m ms (cnB L) (w3.heap.size + 1 + 1) (w3.heap.size + 1) w3.heap.size 5 W0 (by have := HS0.out; omega) ((blk_cell hM0 0).trans rfl) ((blk_cell hL0 0).trans rfl) HLC0.out HLC.out.2.1 HG0.out hch hcn)
    (fun h k => h.trans k) ?hKb (Below.refl _ _) (fun _ => rfl)
    (fun pre W => ∃ v ys, allO L m (pre.map fun x => x.1) = some ys ∧ W.heap[w3.heap.size]? = some (.cells #[v] 30 (0, 0)) ∧ Kd.S k41 41 W (w3.heap.size + 3) (fun _ => True) v ys ∧ Kq w3.heap.size (w3.heap.size + 1 + 1) (w3.heap.size + 1) W0 W)
    (fun _ _ _ => False) ?hI (fun _ _ _ _ _ h => h.elim) ⟨_, [], rfl, HO0.out, Kd.S_nil _ _ _ _ _, Kq.refl _ _ _ _⟩
    (fun x => { tmps := #[.agg #[.int .i64 a0_0, .slice A0_1 l0_1.length c0_1], .slice A1 l1.length c1, .pointer (some ⟨w.heap.size, 0, none⟩), undef, .slice none 0 0, .int .i64 0, .pointer (some ⟨w2.heap.size, 0, none⟩), .pointer (some ⟨w2.heap.size + 1, 0, none⟩), .int .i64 0, .pointer (some ⟨w3.heap.size, 0, none⟩), .int .u64 x.1, undef, .tuple #[.slice AL L.length cL, .int .u64 m, .int .i64 0], .agg #[.int .i64 a0_0, .slice A0_1 l0_1.length c0_1], .slice A1 l1.length c1, .tuple #[.slice AL L.length cL, .int .u64 m, .int .i64 0], .slice AL L.length cL, .int .u64 m, .int .i64 0, .int .i64 0, .bool false, undef, .slice AL L.length cL, .int .u64 m, .bool true, .bool false, .slice AL L.length cL, .int .u64 m, .func (.func 66) #[] #[.pointer (some ⟨w3.heap.size + 1 + 1, 0, none⟩), .pointer (some ⟨w3.heap.size + 1, 0, none⟩)], .int .u64 x.1, undef, undef, undef, undef, undef, undef, undef, undef, undef, undef, undef, undef, undef, undef, undef, undef, undef, undef, undef, undef, undef, undef, undef, undef, undef, undef, undef, undef, undef, undef], defers := [] }) ?assign ?body ?done ?stop
   case hKb =>
    intro W l o o' hl ho hc hw
    exact ⟨belowK_b (w := W0) (by have := HS0.out; omega) W l o o' hl ho hc hw, World.putObj_heap_other (by have := HS0.out; omega), World.putObj_heap_other (by have := HS0.out; omega)⟩
   case hI =>
    rintro s A B row ⟨v, ys, hall, hO, hS, hK⟩ hg hr
    have hOl := (Array.getElem?_eq_some_iff.1 hO).1
    have hle := hK.b.size
    have hs := HS0.out
    refine ⟨v, ys, hall, (hg.block _ hOl (fun e => by have := (hr _ e.symm).1; omega)).trans hO, Kd.S_mono (Kd.S_step (Kd.S_bound hS) (fun k hk hlt => hg.block k hlt (fun e => ?_))) (fun _ _ => trivial), hK.trans ⟨(Below.refl _ A).grown hg (by omega) (fun k e => by have := (hr _ e).1; omega), hg.block _ (by omega) (fun e => by have := (hr _ e.symm).1; omega), hg.block _ (by omega) (fun e => by have := (hr _ e.symm).1; omega)⟩⟩
    obtain ⟨_, o, ho, hc⟩ := hr k e.symm
    obtain ⟨_, _, _, q, _, cells, hcell⟩ := hk
    rw [hcell] at ho
    cases ho
    cases hc
   case stop => intro D c pre W _ _ h; exact h.elim
   case assign =>
    intro l x W K hK
    gi_wp2
    exact hK
   case body =>
    rintro l pre x W ⟨v, ys, hall, hO, hS, hK⟩ hlt
    obtain ⟨a, ha⟩ := HAT.out x.1 x.2
    have hsn : allO L m ((pre ++ [x]).map fun x => x.1) = some (ys ++ a) := by rw [List.map_append]; exact allO_snoc hall ha
    have hys : ys.length ≤ 1000 := by
     have h1 := allO_len hall
     have h2 := List.length_filter_le (cnB L) ms
     have h3 := HLEN.out
     rw [List.length_map] at h1
     omega
    have hmC : W.cell? ⟨w2.heap.size + 1, 0, none⟩ = some (.int .u64 m) := (blk_cell ((hK.b.block _ (by have := H23.out; omega)).trans HMB0.out) 0).trans rfl
    have hlC : W.cell? ⟨w2.heap.size, 0, none⟩ = some (.slice AL L.length cL) := (blk_cell ((hK.b.block _ (by have := H23.out; omega)).trans HLB0.out) 0).trans rfl
    have hOc : W.cell? ⟨w3.heap.size, 0, none⟩ = some v := (blk_cell hO 0).trans rfl
    have hOf := blk_frozen hO 0
    have HLW := Aside0.mk (HLC0.out W hK)
    have HGW := Aside0.mk (HG0.out W hK)
    have HSN := Aside0.mk hsn
    have HYS := Aside0.mk hys
    have HOO := Aside0.mk hO
    have HSS := Aside0.mk hS
    have HKK := Aside0.mk hK
    clear hall hsn hys hO hS hK
    unfold ctO at ha
    by_cases z1 : Go.bits .and .u64 x.1 (Go.bits .and .u64 m (IntKind.u64.wrap (-m))) = 0
    ·rw [if_pos z1] at ha
     injection ha with ha
     subst ha
     have zb : (Go.bits .and .u64 x.1 (Go.bits .and .u64 m (IntKind.u64.wrap (-m))) != 0) = false := by rw [z1]; rfl
     clear z1
     gi_wp2
     refine ⟨trivial, ?_⟩
     gi_wp2
     exact ⟨KeepsFrom.refl _ _, Kq.refl _ _ _ _, v, ys, by have := HSN.out; rwa [List.append_nil] at this, HOO.out, HSS.out, HKK.out⟩
    ·rw [if_neg z1] at ha
     have zb : (Go.bits .and .u64 x.1 (Go.bits .and .u64 m (IntKind.u64.wrap (-m))) != 0) = true := by simpa using z1
     clear z1
     by_cases z2 : Go.bits .andNot .u64 m x.1 = 0
     ·rw [if_pos z2] at ha
      injection ha with ha
      subst ha
      have zc : (Go.bits .andNot .u64 m x.1 != 0) = false := by rw [z2]; rfl
      clear z2
      gi_wp2
      refine ⟨trivial, ?_⟩
      gi_wp2
      exact ⟨KeepsFrom.refl _ _, Kq.refl _ _ _ _, v, ys, by have := HSN.out; rwa [List.append_nil] at this, HOO.out, HSS.out, HKK.out⟩
     ·rw [if_neg z2] at ha
      have zc : (Go.bits .andNot .u64 m x.1 != 0) = true := by simpa using z2
      clear z2
      obtain ⟨c, hc2, ha⟩ := Option.bind_eq_some_iff.1 ha
      have HC2 := Aside0.mk hc2
      clear hc2
      cases c with
      | false =>
       simp only [Bool.false_eq_true, if_false] at ha
       injection ha with ha
       subst ha
       gi_wp2_with (refine ⟨trivial, ?_⟩; gi_at_call 35; refine (CallsIn.inRound l (callsIn_wide.2 (liaison_links_connected.calls CU.k AL cL L _ false W HLW.out HLC.out.2.1 HGW.out HC2.out))).mono ?_; rintro e w5 ⟨rfl, hb5⟩)
       have hsz := HKK.out.b.size
       have hs := HS0.out
       exact ⟨KeepsFrom.of_grownBy (grown_of_below hb5) (fun _ e => by cases e), Kq.of hb5 (by omega) (by omega) (by omega), v, ys, by have := HSN.out; rwa [List.append_nil] at this, (hb5.block _ (by omega)).trans HOO.out, Kd.S_below HSS.out hb5, HKK.out.trans (Kq.of hb5 (by omega) (by omega) (by omega))⟩
      | true =>
       simp only [if_true] at ha
       obtain ⟨la, hla, ha⟩ := Option.bind_eq_some_iff.1 ha
       obtain ⟨lb, hlb, ha⟩ := Option.bind_eq_some_iff.1 ha
       injection ha with ha
       subst ha
       have HLA := Aside0.mk hla
       have HLBB := Aside0.mk hlb
       clear hla hlb
       gi_wp2_with (refine ⟨trivial, ?_⟩; gi_at_call 35; refine (CallsIn.inRound l (callsIn_wide.2 (liaison_links_connected.calls CU.k AL cL L _ true W HLW.out HLC.out.2.1 HGW.out HC2.out))).mono ?_; rintro e w5 ⟨rfl, hb5⟩; have HB5 := Aside0.mk hb5; clear hb5)
       have hsz := HKK.out.b.size
       have hs := HS0.out
       have hOl := blk_lt HOO.out
       have hb6 : Below W.heap.size W w5.drew := below_drew HB5.out
       have HS6 := Aside0.mk (Kd.S_below HSS.out hb6)
       have hO6 := (hb6.block _ hOl).trans HOO.out
       have HG6 := Aside0.mk (Kd.C_below HGW.out hb6)
       have HB6 := Aside0.mk hb6
       clear hb6
       refine start_in (n := 9) (S := fun w' => w'.cell? ⟨w3.heap.size, 0, none⟩ = some v) (ds := [8]) #[false, false, false, false, false, false, false, false, false] (by kernel_rfl) rfl rfl (by rintro ⟨_, _, h_⟩; exact h_) (nd_of (by kernel_rfl)) ((blk_cell hO6 0).trans rfl) (fun hHeld => ?_)
       refine with_tabW CU.tab11 CU.bits11 (fun HT_ HW_ => ?_)
       have HO6 := Aside0.mk hO6
       clear hO6 hmC hlC hOc hOf zb zc
       generalize w5.drew = w6 at HS6 HO6 HG6 HB6 hHeld ⊢
       refine pure_ (i := 1) (N := some 50) (v := ?_) (a' := ?_) #[false, true, false, false, false, false, false, false, false] rfl rfl (any_of HT_.out (by kernel_rfl)) (fun _ _ _ h => h) (Or.inl ⟨by rfl, ?_⟩) ?_ ?_
       rotate_left
       ·intro w'
        go_simp
        with_reducible rfl
       rotate_left
       ·simp only [Act.put, List.setIfInBounds_toArray, List.set_cons_zero, List.set_cons_succ, i64_w, i32_w]
        rfl
       refine pure_ (i := 3) (N := some 52) (v := ?_) (a' := ?_) #[false, true, false, true, false, false, false, false, false] rfl rfl (any_of HT_.out (by kernel_rfl)) (fun _ _ _ h => h) (Or.inl ⟨by rfl, ?_⟩) ?_ ?_
       rotate_left
       ·intro w'
        go_simp
        with_reducible rfl
       rotate_left
       ·simp only [Act.put, List.setIfInBounds_toArray, List.set_cons_zero, List.set_cons_succ, i64_w, i32_w]
        rfl
       refine take_ (i := 0) (N := some 49) (v := ?_) (a' := ?_) #[true, true, false, true, false, false, false, false, false] rfl rfl (take_ofW HT_.out HW_.out (by kernel_rfl)) (fun _ _ _ h => h) (Or.inl ⟨by rfl, ?_⟩) hHeld ?_ ?_
       rotate_left
       ·intro w' s0
        go_simp
        with_reducible rfl
       rotate_left
       ·simp only [Act.put, List.setIfInBounds_toArray, List.set_cons_zero, List.set_cons_succ, i64_w, i32_w]
        rfl
       refine one_ (i := 2) (N := some 51) #[true, true, true, true, false, false, false, false, false] rfl rfl (one_of HT_.out (by kernel_rfl)) (by decide) (fun K hK => ?_)
       refine goes_ Tryd.func37 (by kernel_rfl) rfl #[.int .u64 x.1] (by rfl) rfl rfl (by (try simp only [List.map_toArray, List.map_cons, List.map_nil]); first | done | rfl) ?_
       refine (liaison_listed.calls CU.k _ la _ HG6.out HLA.out).mono ?_
       rintro e w7 ⟨va, rfl, hva, hb7⟩
       obtain ⟨Ava, ca, rfl⟩ := Kd.R_slice hva
       refine ⟨_, rfl, ?_⟩
       refine hK.out _ _ ((hb7.cell (World.block_lt_of_cell? _ _ hHeld)).trans hHeld) (fun hHeld => ?_)
       clear hK K
       refine one_ (i := 4) (N := some 53) #[true, true, true, true, true, false, false, false, false] rfl rfl (one_of HT_.out (by kernel_rfl)) (by decide) (fun K hK => ?_)
       refine goes_ Tryd.func37 (by kernel_rfl) rfl #[.int .u64 (Go.bits .andNot .u64 m x.1)] (by rfl) rfl rfl (by (try simp only [List.map_toArray, List.map_cons, List.map_nil]); first | done | rfl) ?_
       refine (liaison_listed.calls CU.k _ lb _ (Kd.C_below HG6.out hb7) HLBB.out).mono ?_
       rintro e w8 ⟨vb, rfl, hvb, hb8⟩
       obtain ⟨Avb, cb, rfl⟩ := Kd.R_slice hvb
       refine ⟨_, rfl, ?_⟩
       refine hK.out _ _ ((hb8.cell (World.block_lt_of_cell? _ _ hHeld)).trans hHeld) (fun hHeld => ?_)
       clear hK K
       refine pure_ (i := 5) (N := some 54) (v := ?_) (a' := ?_) #[true, true, true, true, true, true, false, false, false] rfl rfl (any_of HT_.out (by kernel_rfl)) (fun _ _ _ h => h) (Or.inl ⟨by rfl, ?_⟩) ?_ ?_
       rotate_left
       ·intro w'
        go_simp
        with_reducible rfl
       rotate_left
       ·simp only [Act.put, List.setIfInBounds_toArray, List.set_cons_zero, List.set_cons_succ, i64_w, i32_w]
        rfl
       have hlt6 := HB6.out.size
       have hVA := Aside0.mk (Kd.R_mono (ok' := fun k => w6.heap.size ≤ k) (Kd.R_lower (Kd.R_bound (Kd.R_below hva hb8)) (base' := w3.heap.size + 3) (by omega)) (fun k hk => hk.2.1))
       have hVB := Aside0.mk (Kd.R_mono (ok' := fun k => w6.heap.size ≤ k) (Kd.R_lower (Kd.R_bound hvb) (base' := w3.heap.size + 3) (by have := hb7.size; omega)) (fun k hk => Nat.le_trans hb7.size hk.2.1))
       have hb68 := hb7.trans (hb8.mono hb7.size)
       have HB68 := Aside0.mk hb68
       have HS8 := Aside0.mk (Kd.S_mono (ok' := fun k => True ∧ ¬ w6.heap.size ≤ k) (Kd.S_below (Kd.S_bound HS6.out) hb68) (fun k hk => ⟨trivial, by have := hk.2.2.1; omega⟩))
       have hVne : ∀ k, w6.heap.size ≤ k → some k ≠ v.ownBlock := fun k hk e => by have := Kd.S_lt HS6.out k e.symm; omega
       have HO8 := Aside0.mk ((hb68.block _ (blk_lt HO6.out)).trans HO6.out)
       have HSZ6 := Aside0.mk hlt6
       have hle8 : w3.heap.size + 3 ≤ w8.heap.size := by have := hb68.size; omega
       clear hva hvb hb7 hb8 hb68 hsz hs hlt6
       refine one_ (i := 6) (N := some 55) #[true, true, true, true, true, true, true, false, false] rfl rfl (one_of HT_.out (by kernel_rfl)) (by decide) (fun K hK => ?_)
       refine event_step (v := ?_) (w1 := w8.alloc (.cells [.slice Ava la.length ca, .slice Avb lb.length cb].toArray 41)) (by rfl) ?_ ?_
       rotate_left
       ·go_simp
        rfl
       refine hK.out _ _ (cell_alloc_l _ hHeld) (fun hHeld => ?_)
       clear hK K
       refine one_ (i := 7) (N := some 56) #[true, true, true, true, true, true, true, true, false] rfl rfl (one_of HT_.out (by kernel_rfl)) (by decide) (fun K hK => ?_)
       refine Kd.S_append_step (w0 := w8) (W := w8) k41 (w3.heap.size + 3) (by rfl) (.tmp 49) (.tmp 55) 30 41 (.agg #[(.slice none 0 0), (.slice none 0 0)]) 48 rfl Tryd.underlying30 info41 rfl (by decide) (by omega) v ys ⟨la, lb⟩ [.slice Ava la.length ca, .slice Avb lb.length cb] (fun _ => True) (fun k => w6.heap.size ≤ k) rfl rfl (k41_mkM _ _ _ ⟨la, lb⟩ hVA.out hVB.out) (fun k hk => ⟨trivial, hVne k hk⟩) (fun _ _ => trivial) HS8.out (Below.refl _ _) hle8 (by have := HYS.out; omega) ?_
       intro v9 w9 hS9 hb9 hg9 _
       refine hK.out _ _ ?_ (fun hHeld => ?_)
       ·exact (blk_cell ((hb9.block _ (by omega)).trans HO8.out) 0).trans rfl
       clear hK K
       refine last_ (i := 8) (N := none) #[true, true, true, true, true, true, true, true, true] rfl rfl (one_of HT_.out (by kernel_rfl)) (by decide) (fun K hK => ?_)
       obtain ⟨A9, c9, e9⟩ := Kd.S_slice hS9
       rw [show (ys ++ [(⟨la, lb⟩ : S41)]).length = ys.length + 1 by simp] at e9
       subst e9
       have hO9 := (hb9.block _ (show w3.heap.size < w3.heap.size + 3 by omega)).trans HO8.out
       have hf9 := blk_frozen hO9 0
       refine skip_ (w1 := ?_) (by rfl) rfl ?_ ?_
       rotate_left
       ·go_simp
        rfl
       refine hK.out _ _ ?_
       clear hK K
       refine done_ (done_of HT_.out (by kernel_rfl)) ?_
       have hW8 : Below W.heap.size W w8 := HB6.out.trans (HB68.out.mono HSZ6.out)
       have hK8 : Kq w3.heap.size (w3.heap.size + 1 + 1) (w3.heap.size + 1) W w8 := Kq.of hW8 (by have := HKK.out.b.size; have := HS0.out; omega) (by have := HKK.out.b.size; have := HS0.out; omega) (by have := HKK.out.b.size; have := HS0.out; omega)
       have hKW : Kq w3.heap.size (w3.heap.size + 1 + 1) (w3.heap.size + 1) W (w9.setCell ⟨w3.heap.size, 0, none⟩ (.slice A9 (ys.length + 1) c9)) :=
        (hK8.trans (Kq.of hb9 (by omega) (by omega) (by omega))).trans ⟨(Below.refl _ _).setCell (p := ⟨w3.heap.size, 0, none⟩) (by simp) _, Below.heap_setCell _ _ _ _ (by simp; omega), Below.heap_setCell _ _ _ _ (by simp)⟩
       refine ⟨?_, hKW, _, _, HSN.out, blk_set hO9 0 _, ?_, HKK.out.trans hKW⟩
       ·refine ((KeepsFrom.of_grownBy (grown_of_below hW8) (fun _ e => by cases e)).trans ⟨hg9.size, fun k o hB hk ho => (hg9.block k (blk_lt hk) (fun e => ?_)).trans hk⟩).trans ((KeepsOthers.setCell _ _ _).from _)
        obtain ⟨cells, hc⟩ := Kd.S_typed HS8.out k e.symm
        rw [hc] at hk
        cases hk
        cases ho
       ·exact Kd.S_mono (Kd.S_far (Kd.S_bound hS9) (p := ⟨w3.heap.size, 0, none⟩) (fun k hk => by have := hk.2.1; simp; omega) _) (fun _ _ => trivial)
   case done =>
    rintro D xs W hD hxs ⟨v, ys, hall, hO, hS, hK⟩ hDef
    rw [hxs, HOUT.out] at hall
    injection hall with hall
    subst hall
    have hOc : W.cell? ⟨w3.heap.size, 0, none⟩ = some v := (blk_cell hO 0).trans rfl
    obtain ⟨A, c, rfl⟩ := Kd.S_slice hS
    have hB : Below w.heap.size w W := HBW.out.trans (hK.b.mono HB3.out.size)
    have hB3s := HB3.out.size
    have HSS := Aside0.mk hS
    have HOO := Aside0.mk hO
    have HKK := Aside0.mk hK
    have HBB := Aside0.mk hB
    have HDD := Aside0.mk hDef
    have HD := Aside0.mk hD
    clear hS hO hK hB hDef hD
    gi_wp2_with (refine ⟨trivial, ?_⟩; gi_at_call 38; refine (callsIn_wide.2 (sortCallC W (w3.heap.size + 3) _ out HOK.out HSS.out)).mono ?_; rintro e w9 ⟨rfl, hS9, hg9⟩; have hSn := Kd.S_base HSS.out; have hO9 := blk_grown HOO.out hg9 (fun e_ => by have := hSn _ e_.symm; omega); have hOc9 : w9.cell? ⟨w3.heap.size, 0, none⟩ = some (.slice A out.length c) := (blk_cell hO9 0).trans rfl; have hD9 := blk_grown HDD.out hg9 (fun e_ => by obtain ⟨cells, hc⟩ := Kd.S_typed HSS.out _ e_.symm; have h_ := HDD.out; rw [hc] at h_; cases h_))
    refine ⟨by simp, .inl ⟨_, _, rfl, run_takeDeferred hD9, ?_⟩⟩
    have hpD := grownBy_putObj' w9 D (.deferred none)
    have hDs := HD.out
    have hs := HS0.out
    have hB9 : Below w.heap.size w w9 := HBB.out.grown hg9 (by have := HKK.out.b.size; omega) (fun k hk => by have := hSn k hk; omega)
    refine ⟨.tuple #[.slice A out.length c, .int .i64 0], by simp [results, Tryd.f10, go_sem], .slice A out.length c, rfl, ?_, hB9.grown hpD (by have := HKK.out.b.size; have := hg9.size; omega) (fun k hk => by cases hk; omega)⟩
    refine Kd.S_lower (Kd.S_mono (Kd.S_step (Kd.S_bound hS9) (fun k hk hlt => hpD.block k hlt (fun e => ?_))) (fun _ _ => trivial)) (by omega)
    cases e
    obtain ⟨_, _, _, q, _, cells, hcell⟩ := hk
    rw [hcell] at hD9
    cases hD9
end
end Go.Proofs.YtbghfbhlbfcloaaDoor.PL
namespace Go.Proofs.YtbghfbhlbfcloaaDoor.PL
section
open Go.RowKit Go.Proofs.YtbghfbhlbfcloaaDoorW.PrintWords Go.Proofs.YtbghfbhlbfcloaaDoorW.PrintLast Go.Proofs.YtbghfbhlbfcloaaDoorW.PrintMore
attribute [local go_sem] max2_int min2_int max_two min_two max_three min_three max_four min_four   -- for this text's walks alone
set_option linter.unusedVariables false
set_option linter.unusedSimpArgs false
attribute [local go_sem high] eqA68
/-! ### liaison_Cuts: function 10 -/
def liaison_Cuts.f (a0_0 : Int) (l0_1 : List (S68)) (l1 : List Int) : Option ((List (S41)) × Int) := CU.f a0_0 l0_1 l1
theorem liaison_Cuts.calls (a0_0 : Int) (A0_1 : Option Addr) (c0_1 : Nat) (l0_1 : List (S68)) (A1 : Option Addr) (c1 : Nat) (l1 : List Int) (r1 : List (S41)) (r2 : Int) (w : World) (hr0_1 : Kd.C k68 w A0_1 l0_1.length l0_1) (hc0_1 : l0_1.length ≤ c0_1) (hr1 : Kd.C (Kd.int .i64) w A1 l1.length l1) (hc1 : l1.length ≤ c1) (hG : Kd.C (Kd.int .u8) w (some tabA) tabL.length tabL) (h : liaison_Cuts.f a0_0 l0_1 l1 = some (r1, r2)) :
  Calls Tryd.prog 10 #[.agg #[.int .i64 a0_0, .slice A0_1 l0_1.length c0_1], .slice A1 l1.length c1] w fun e w' => ∃ v0_ : Value, e = .returned (.tuple #[v0_, .int .i64 r2]) ∧ Kd.S k41 41 w' w.heap.size (fun _ => True) v0_ r1 ∧ Below w.heap.size w w' :=
  CU.calls a0_0 A0_1 c0_1 l0_1 A1 c1 l1 r1 r2 w hr0_1 hc0_1 hr1 hc1 hG h
end
end Go.Proofs.YtbghfbhlbfcloaaDoor.PL
namespace Go.Proofs.YtbghfbhlbfcloaaDoor.PL
section
open Go.RowKit Go.Proofs.YtbghfbhlbfcloaaDoorW.PrintWords Go.Proofs.YtbghfbhlbfcloaaDoorW.PrintLast Go.Proofs.YtbghfbhlbfcloaaDoorW.PrintMore
attribute [local go_sem] max2_int min2_int max_two min_two max_three min_three max_four min_four   -- for this text's walks alone
set_option linter.unusedVariables false
set_option linter.unusedSimpArgs false
/-! ### liaison_inside: function 52 -/
def liaison_inside.f (k : Nat) (a0_0 : ByteArray) (l0_1 : List Int) (a1_0 : ByteArray) (l1_1 : List Int) : Option (Bool) := (liaison_masked.f k l0_1).bind fun t481 => ((liaison_masked.f k l1_1).bind fun t482 => (if t481 = t482 then (some false) else (some ((Go.bits .and .u64 t481 t482) == t481))))
theorem liaison_inside.mono : ∀ a0 a1 a2 a3 k, LeO (liaison_inside.f k a0 a1 a2 a3) (liaison_inside.f (k + 1) a0 a1 a2 a3) := by
 intro a0 a1 a2 a3 k
 unfold liaison_inside.f
 repeat' first
   | (with_reducible exact liaison_masked.mono _ _)
   | (with_reducible exact LeO.refl _)
   | (with_reducible exact LeO.none _)
   | (with_reducible refine LeO.ite ?_ ?_)
   | (with_reducible refine LeO.bind ?_ (fun _ => ?_))
   | exact liaison_masked.mono _ _
   | exact LeO.none _
   | refine LeO.ite ?_ ?_
   | refine LeO.bind ?_ (fun _ => ?_)
set_option maxHeartbeats 8000000 in
set_option maxRecDepth 100000 in
theorem liaison_inside.calls (k : Nat) (a0_0 : ByteArray) (A0_1 : Option Addr) (c0_1 : Nat) (l0_1 : List Int) (a1_0 : ByteArray) (A1_1 : Option Addr) (c1_1 : Nat) (l1_1 : List Int) (r : Bool) (w : World) (hr0_1 : Kd.C (Kd.int .i64) w A0_1 l0_1.length l0_1) (hc0_1 : l0_1.length ≤ c0_1) (hr1_1 : Kd.C (Kd.int .i64) w A1_1 l1_1.length l1_1) (hc1_1 : l1_1.length ≤ c1_1) (h : liaison_inside.f k a0_0 l0_1 a1_0 l1_1 = some r) :
  Calls Tryd.prog 52 #[.agg #[.string a0_0, .slice A0_1 l0_1.length c0_1], .agg #[.string a1_0, .slice A1_1 l1_1.length c1_1]] w fun e w' => e = .returned (.bool r) ∧ Below w.heap.size w w' := by
 have hu57 := Tryd.underlying57
 have HR0_1 := Aside0.mk hr0_1
 have HC0_1 := Aside0.mk hc0_1
 clear hr0_1 hc0_1
 have HR1_1 := Aside0.mk hr1_1
 have HC1_1 := Aside0.mk hc1_1
 clear hr1_1 hc1_1
 have HB := Aside0.mk (Below.refl w.heap.size w)
 have H : ((liaison_masked.f k l0_1).bind fun t481 => ((liaison_masked.f k l1_1).bind fun t482 => (if t481 = t482 then (some false) else (some ((Go.bits .and .u64 t481 t482) == t481))))) = some r := h
 clear h
 replace H := Option.bind_eq_some_iff.mp H
 obtain ⟨t481, A30, H⟩ := H
 replace H : ((liaison_masked.f k l1_1).bind fun t482 => (if t481 = t482 then (some false) else (some ((Go.bits .and .u64 t481 t482) == t481)))) = some r := H
 have A3 := Aside0.mk A30
 clear A30
 replace H := Option.bind_eq_some_iff.mp H
 obtain ⟨t482, A40, H⟩ := H
 replace H : (if t481 = t482 then (some false) else (some ((Go.bits .and .u64 t481 t482) == t481))) = some r := H
 have A4 := Aside0.mk A40
 clear A40
 by_cases c5 : t481 = t482
 ·rw [if_pos c5] at H
  have c5b0 : (t481 == t482) = true := beq_iff_eq.mpr c5
  have c5b1 : (t481 != t482) = false := bne_eq_false_iff_eq.mpr c5
  clear c5
  obtain rfl := Option.some.inj H
  go_enter Tryd.func52, Tryd.ntmps52
  go_wp2_with (first | ((with_reducible refine gate_dst (N := 2) rfl ?_); refine box_event ?hg (N := 2) ?hd (cs := #[.string a0_0, .slice A0_1 l0_1.length c0_1]) (t := 57) ?hr ?_; (case hd => rfl); (case hg => rfl); (case hr => first | (go_simp; done) | (go_simp; rfl)); intro gb479 hg w6 hbox hb; have n0_ := Aside0.mk (below_step (by repeat (first | (with_reducible first | exact HB.out | apply below_alloc | apply pw_below_drewN | apply below_drew1) | exact HB.out)) hb); have n1_ := Aside0.mk (hbox); have n2_ := Aside0.mk ((by rw [hg]; exact (below_size (by repeat (first | (with_reducible first | exact HB.out | apply below_alloc | apply pw_below_drewN | apply below_drew1) | exact HB.out))) : w.heap.size ≤ gb479)); have n3_ := Aside0.mk ((by rw [hg]; exact (below_size (by repeat (first | (with_reducible first | exact HB.out | apply below_alloc | apply pw_below_drewN | apply below_drew1) | exact HB.out))) : w.heap.size ≤ gb479)); clear HB; have HB := n0_; have BK479 := n1_; have GW479 := n2_; have GE479 := n3_; clear n0_ n1_ n2_ n3_; clear hb hbox hg) | ((with_reducible refine gate_dst (N := 3) rfl ?_); refine box_event ?hg (N := 3) ?hd (cs := #[.string a1_0, .slice A1_1 l1_1.length c1_1]) (t := 57) ?hr ?_; (case hd => rfl); (case hg => rfl); (case hr => first | (go_simp; done) | (go_simp; rfl)); intro gb480 hg w7 hbox hb; have n0_ := Aside0.mk (blk_below (g := gb479) (o := .cells #[.string a0_0, .slice A0_1 l0_1.length c0_1] 57 (0, 0)) (by (with_reducible repeat (first | refine blk_drewN ?_ _ | refine blk_drew ?_ | refine blk_alloc ?_ _)); exact BK479.out) hb); have n1_ := Aside0.mk (below_step (by repeat (first | (with_reducible first | exact HB.out | apply below_alloc | apply pw_below_drewN | apply below_drew1 | refine below_set ?_ GE479.out) | exact HB.out)) hb); have n2_ := Aside0.mk (hbox); have n3_ := Aside0.mk ((by rw [hg]; exact (below_size (by repeat (first | (with_reducible first | exact HB.out | apply below_alloc | apply pw_below_drewN | apply below_drew1 | refine below_set ?_ GE479.out) | exact HB.out))) : w.heap.size ≤ gb480)); have n4_ := Aside0.mk ((by rw [hg]; exact (below_size (by repeat (first | (with_reducible first | exact HB.out | apply below_alloc | apply pw_below_drewN | apply below_drew1 | refine below_set ?_ GE479.out) | exact HB.out))) : w.heap.size ≤ gb480)); have n5_ := Aside0.mk ((by rw [hg]; exact Nat.ne_of_lt (blk_lt (g := gb479) (o := .cells #[.string a0_0, .slice A0_1 l0_1.length c0_1] 57 (0, 0)) (by (with_reducible repeat (first | refine blk_drewN ?_ _ | refine blk_drew ?_ | refine blk_alloc ?_ _)); exact BK479.out)) : gb479 ≠ gb480)); have n6_ := Aside0.mk ((by rw [hg]; exact Nat.ne_of_gt (blk_lt (g := gb479) (o := .cells #[.string a0_0, .slice A0_1 l0_1.length c0_1] 57 (0, 0)) (by (with_reducible repeat (first | refine blk_drewN ?_ _ | refine blk_drew ?_ | refine blk_alloc ?_ _)); exact BK479.out)) : gb480 ≠ gb479)); clear BK479; clear HB; have BK479 := n0_; have HB := n1_; have BK480 := n2_; have GW480 := n3_; have GE480 := n4_; have NB479_480 := n5_; have NB480_479 := n6_; clear n0_ n1_ n2_ n3_ n4_ n5_ n6_; clear hb hbox hg; have hnb8 := NB479_480.out; have hnc8 := NB480_479.out; have hcz9_0 : w7.cell? ⟨gb479, 0, none⟩ = some (.string a0_0) := (blk_cell BK479.out 0).trans rfl; have hcz9_1 : w7.cell? ⟨gb479, 1, none⟩ = some (.slice A0_1 l0_1.length c0_1) := (blk_cell BK479.out 1).trans rfl; have hfz9_0 := blk_frozen BK479.out 0; have hfz9_1 := blk_frozen BK479.out 1) | (go_at_call 47; (with_reducible refine (liaison_masked.calls k _ _ l0_1 t481 _ ?side1 ?side2 A3.out).mono ?_); (case side1 => repeat (first | exact (Kd.C_below HR0_1.out HB.out) | (with_reducible refine Kd.C_alloc ?_ _) | (with_reducible refine Kd.C_drewN ?_ _) | (with_reducible refine Kd.C_drew ?_))); (case side2 => exact HC0_1.out); rintro e w' ⟨rfl, ⟨nd, rfl⟩⟩; (try first | exact ⟨rfl, _, World.drewN_drewN _ _ _⟩ | exact ⟨rfl, _, Eq.trans (World.drewN_drewN _ _ _) (congrArg (World.drewN _) (Nat.add_assoc _ _ _))⟩); have hcz10_0 : w7.cell? ⟨gb480, 0, none⟩ = some (.string a1_0) := (blk_cell BK480.out 0).trans rfl; have hcz10_1 : w7.cell? ⟨gb480, 1, none⟩ = some (.slice A1_1 l1_1.length c1_1) := (blk_cell BK480.out 1).trans rfl; have hfz10_0 := blk_frozen BK480.out 0; have hfz10_1 := blk_frozen BK480.out 1) | (go_at_call 47; (with_reducible refine (liaison_masked.calls k _ _ l1_1 t482 _ ?side1 ?side2 A4.out).mono ?_); (case side1 => repeat (first | exact (Kd.C_below HR1_1.out (by repeat (first | (with_reducible first | exact HB.out | apply below_alloc | apply pw_below_drewN | apply below_drew1 | refine below_set ?_ GE479.out | refine below_set ?_ GE480.out) | exact HB.out))) | (with_reducible refine Kd.C_alloc ?_ _) | (with_reducible refine Kd.C_drewN ?_ _) | (with_reducible refine Kd.C_drew ?_))); (case side2 => exact HC1_1.out); rintro e w' ⟨rfl, ⟨nd, rfl⟩⟩; (try first | exact ⟨rfl, _, World.drewN_drewN _ _ _⟩ | exact ⟨rfl, _, Eq.trans (World.drewN_drewN _ _ _) (congrArg (World.drewN _) (Nat.add_assoc _ _ _))⟩)))
  repeat (go_quiet (first | ((with_reducible refine gate_dst (N := 2) rfl ?_); refine box_event ?hg (N := 2) ?hd (cs := #[.string a0_0, .slice A0_1 l0_1.length c0_1]) (t := 57) ?hr ?_; (case hd => rfl); (case hg => rfl); (case hr => first | (go_simp; done) | (go_simp; rfl)); intro gb479 hg w6 hbox hb; have n0_ := Aside0.mk (below_step (by repeat (first | (with_reducible first | exact HB.out | apply below_alloc | apply pw_below_drewN | apply below_drew1) | exact HB.out)) hb); have n1_ := Aside0.mk (hbox); have n2_ := Aside0.mk ((by rw [hg]; exact (below_size (by repeat (first | (with_reducible first | exact HB.out | apply below_alloc | apply pw_below_drewN | apply below_drew1) | exact HB.out))) : w.heap.size ≤ gb479)); have n3_ := Aside0.mk ((by rw [hg]; exact (below_size (by repeat (first | (with_reducible first | exact HB.out | apply below_alloc | apply pw_below_drewN | apply below_drew1) | exact HB.out))) : w.heap.size ≤ gb479)); clear HB; have HB := n0_; have BK479 := n1_; have GW479 := n2_; have GE479 := n3_; clear n0_ n1_ n2_ n3_; clear hb hbox hg) | ((with_reducible refine gate_dst (N := 3) rfl ?_); refine box_event ?hg (N := 3) ?hd (cs := #[.string a1_0, .slice A1_1 l1_1.length c1_1]) (t := 57) ?hr ?_; (case hd => rfl); (case hg => rfl); (case hr => first | (go_simp; done) | (go_simp; rfl)); intro gb480 hg w7 hbox hb; have n0_ := Aside0.mk (blk_below (g := gb479) (o := .cells #[.string a0_0, .slice A0_1 l0_1.length c0_1] 57 (0, 0)) (by (with_reducible repeat (first | refine blk_drewN ?_ _ | refine blk_drew ?_ | refine blk_alloc ?_ _)); exact BK479.out) hb); have n1_ := Aside0.mk (below_step (by repeat (first | (with_reducible first | exact HB.out | apply below_alloc | apply pw_below_drewN | apply below_drew1 | refine below_set ?_ GE479.out) | exact HB.out)) hb); have n2_ := Aside0.mk (hbox); have n3_ := Aside0.mk ((by rw [hg]; exact (below_size (by repeat (first | (with_reducible first | exact HB.out | apply below_alloc | apply pw_below_drewN | apply below_drew1 | refine below_set ?_ GE479.out) | exact HB.out))) : w.heap.size ≤ gb480)); have n4_ := Aside0.mk ((by rw [hg]; exact (below_size (by repeat (first | (with_reducible first | exact HB.out | apply below_alloc | apply pw_below_drewN | apply below_drew1 | refine below_set ?_ GE479.out) | exact HB.out))) : w.heap.size ≤ gb480)); have n5_ := Aside0.mk ((by rw [hg]; exact Nat.ne_of_lt (blk_lt (g := gb479) (o := .cells #[.string a0_0, .slice A0_1 l0_1.length c0_1] 57 (0, 0)) (by (with_reducible repeat (first | refine blk_drewN ?_ _ | refine blk_drew ?_ | refine blk_alloc ?_ _)); exact BK479.out)) : gb479 ≠ gb480)); have n6_ := Aside0.mk ((by rw [hg]; exact Nat.ne_of_gt (blk_lt (g := gb479) (o := .cells #[.string a0_0, .slice A0_1 l0_1.length c0_1] 57 (0, 0)) (by (with_reducible repeat (first | refine blk_drewN ?_ _ | refine blk_drew ?_ | refine blk_alloc ?_ _)); exact BK479.out)) : gb480 ≠ gb479)); clear BK479; clear HB; have BK479 := n0_; have HB := n1_; have BK480 := n2_; have GW480 := n3_; have GE480 := n4_; have NB479_480 := n5_; have NB480_479 := n6_; clear n0_ n1_ n2_ n3_ n4_ n5_ n6_; clear hb hbox hg; have hnb8 := NB479_480.out; have hnc8 := NB480_479.out; have hcz9_0 : w7.cell? ⟨gb479, 0, none⟩ = some (.string a0_0) := (blk_cell BK479.out 0).trans rfl; have hcz9_1 : w7.cell? ⟨gb479, 1, none⟩ = some (.slice A0_1 l0_1.length c0_1) := (blk_cell BK479.out 1).trans rfl; have hfz9_0 := blk_frozen BK479.out 0; have hfz9_1 := blk_frozen BK479.out 1) | (go_at_call 47; (with_reducible refine (liaison_masked.calls k _ _ l0_1 t481 _ ?side1 ?side2 A3.out).mono ?_); (case side1 => repeat (first | exact (Kd.C_below HR0_1.out HB.out) | (with_reducible refine Kd.C_alloc ?_ _) | (with_reducible refine Kd.C_drewN ?_ _) | (with_reducible refine Kd.C_drew ?_))); (case side2 => exact HC0_1.out); rintro e w' ⟨rfl, ⟨nd, rfl⟩⟩; (try first | exact ⟨rfl, _, World.drewN_drewN _ _ _⟩ | exact ⟨rfl, _, Eq.trans (World.drewN_drewN _ _ _) (congrArg (World.drewN _) (Nat.add_assoc _ _ _))⟩); have hcz10_0 : w7.cell? ⟨gb480, 0, none⟩ = some (.string a1_0) := (blk_cell BK480.out 0).trans rfl; have hcz10_1 : w7.cell? ⟨gb480, 1, none⟩ = some (.slice A1_1 l1_1.length c1_1) := (blk_cell BK480.out 1).trans rfl; have hfz10_0 := blk_frozen BK480.out 0; have hfz10_1 := blk_frozen BK480.out 1) | (go_at_call 47; (with_reducible refine (liaison_masked.calls k _ _ l1_1 t482 _ ?side1 ?side2 A4.out).mono ?_); (case side1 => repeat (first | exact (Kd.C_below HR1_1.out (by repeat (first | (with_reducible first | exact HB.out | apply below_alloc | apply pw_below_drewN | apply below_drew1 | refine below_set ?_ GE479.out | refine below_set ?_ GE480.out) | exact HB.out))) | (with_reducible refine Kd.C_alloc ?_ _) | (with_reducible refine Kd.C_drewN ?_ _) | (with_reducible refine Kd.C_drew ?_))); (case side2 => exact HC1_1.out); rintro e w' ⟨rfl, ⟨nd, rfl⟩⟩; (try first | exact ⟨rfl, _, World.drewN_drewN _ _ _⟩ | exact ⟨rfl, _, Eq.trans (World.drewN_drewN _ _ _) (congrArg (World.drewN _) (Nat.add_assoc _ _ _))⟩))); try go_wp2_with (first | ((with_reducible refine gate_dst (N := 2) rfl ?_); refine box_event ?hg (N := 2) ?hd (cs := #[.string a0_0, .slice A0_1 l0_1.length c0_1]) (t := 57) ?hr ?_; (case hd => rfl); (case hg => rfl); (case hr => first | (go_simp; done) | (go_simp; rfl)); intro gb479 hg w6 hbox hb; have n0_ := Aside0.mk (below_step (by repeat (first | (with_reducible first | exact HB.out | apply below_alloc | apply pw_below_drewN | apply below_drew1) | exact HB.out)) hb); have n1_ := Aside0.mk (hbox); have n2_ := Aside0.mk ((by rw [hg]; exact (below_size (by repeat (first | (with_reducible first | exact HB.out | apply below_alloc | apply pw_below_drewN | apply below_drew1) | exact HB.out))) : w.heap.size ≤ gb479)); have n3_ := Aside0.mk ((by rw [hg]; exact (below_size (by repeat (first | (with_reducible first | exact HB.out | apply below_alloc | apply pw_below_drewN | apply below_drew1) | exact HB.out))) : w.heap.size ≤ gb479)); clear HB; have HB := n0_; have BK479 := n1_; have GW479 := n2_; have GE479 := n3_; clear n0_ n1_ n2_ n3_; clear hb hbox hg) | ((with_reducible refine gate_dst (N := 3) rfl ?_); refine box_event ?hg (N := 3) ?hd (cs := #[.string a1_0, .slice A1_1 l1_1.length c1_1]) (t := 57) ?hr ?_; (case hd => rfl); (case hg => rfl); (case hr => first | (go_simp; done) | (go_simp; rfl)); intro gb480 hg w7 hbox hb; have n0_ := Aside0.mk (blk_below (g := gb479) (o := .cells #[.string a0_0, .slice A0_1 l0_1.length c0_1] 57 (0, 0)) (by (with_reducible repeat (first | refine blk_drewN ?_ _ | refine blk_drew ?_ | refine blk_alloc ?_ _)); exact BK479.out) hb); have n1_ := Aside0.mk (below_step (by repeat (first | (with_reducible first | exact HB.out | apply below_alloc | apply pw_below_drewN | apply below_drew1 | refine below_set ?_ GE479.out) | exact HB.out)) hb); have n2_ := Aside0.mk (hbox); have n3_ := Aside0.mk ((by rw [hg]; exact (below_size (by repeat (first | (with_reducible first | exact HB.out | apply below_alloc | apply pw_below_drewN | apply below_drew1 | refine below_set ?_ GE479.out) | exact HB.out))) : w.heap.size ≤ gb480)); have n4_ := Aside0.mk ((by rw [hg]; exact (below_size (by repeat (first | (with_reducible first | exact HB.out | apply below_alloc | apply pw_below_drewN | apply below_drew1 | refine below_set ?_ GE479.out) | exact HB.out))) : w.heap.size ≤ gb480)); have n5_ := Aside0.mk ((by rw [hg]; exact Nat.ne_of_lt (blk_lt (g := gb479) (o := .cells #[.string a0_0, .slice A0_1 l0_1.length c0_1] 57 (0, 0)) (by (with_reducible repeat (first | refine blk_drewN ?_ _ | refine blk_drew ?_ | refine blk_alloc ?_ _)); exact BK479.out)) : gb479 ≠ gb480)); have n6_ := Aside0.mk ((by rw [hg]; exact Nat.ne_of_gt (blk_lt (g := gb479) (o := .cells #[.string a0_0, .slice A0_1 l0_1.length c0_1] 57 (0, 0)) (by (with_reducible repeat (first | refine blk_drewN ?_ _ | refine blk_drew ?_ | refine blk_alloc ?_ _)); exact BK479.out)) : gb480 ≠ gb479)); clear BK479; clear HB; have BK479 := n0_; have HB := n1_; have BK480 := n2_; have GW480 := n3_; have GE480 := n4_; have NB479_480 := n5_; have NB480_479 := n6_; clear n0_ n1_ n2_ n3_ n4_ n5_ n6_; clear hb hbox hg; have hnb8 := NB479_480.out; have hnc8 := NB480_479.out; have hcz9_0 : w7.cell? ⟨gb479, 0, none⟩ = some (.string a0_0) := (blk_cell BK479.out 0).trans rfl; have hcz9_1 : w7.cell? ⟨gb479, 1, none⟩ = some (.slice A0_1 l0_1.length c0_1) := (blk_cell BK479.out 1).trans rfl; have hfz9_0 := blk_frozen BK479.out 0; have hfz9_1 := blk_frozen BK479.out 1) | (go_at_call 47; (with_reducible refine (liaison_masked.calls k _ _ l0_1 t481 _ ?side1 ?side2 A3.out).mono ?_); (case side1 => repeat (first | exact (Kd.C_below HR0_1.out HB.out) | (with_reducible refine Kd.C_alloc ?_ _) | (with_reducible refine Kd.C_drewN ?_ _) | (with_reducible refine Kd.C_drew ?_))); (case side2 => exact HC0_1.out); rintro e w' ⟨rfl, ⟨nd, rfl⟩⟩; (try first | exact ⟨rfl, _, World.drewN_drewN _ _ _⟩ | exact ⟨rfl, _, Eq.trans (World.drewN_drewN _ _ _) (congrArg (World.drewN _) (Nat.add_assoc _ _ _))⟩); have hcz10_0 : w7.cell? ⟨gb480, 0, none⟩ = some (.string a1_0) := (blk_cell BK480.out 0).trans rfl; have hcz10_1 : w7.cell? ⟨gb480, 1, none⟩ = some (.slice A1_1 l1_1.length c1_1) := (blk_cell BK480.out 1).trans rfl; have hfz10_0 := blk_frozen BK480.out 0; have hfz10_1 := blk_frozen BK480.out 1) | (go_at_call 47; (with_reducible refine (liaison_masked.calls k _ _ l1_1 t482 _ ?side1 ?side2 A4.out).mono ?_); (case side1 => repeat (first | exact (Kd.C_below HR1_1.out (by repeat (first | (with_reducible first | exact HB.out | apply below_alloc | apply pw_below_drewN | apply below_drew1 | refine below_set ?_ GE479.out | refine below_set ?_ GE480.out) | exact HB.out))) | (with_reducible refine Kd.C_alloc ?_ _) | (with_reducible refine Kd.C_drewN ?_ _) | (with_reducible refine Kd.C_drew ?_))); (case side2 => exact HC1_1.out); rintro e w' ⟨rfl, ⟨nd, rfl⟩⟩; (try first | exact ⟨rfl, _, World.drewN_drewN _ _ _⟩ | exact ⟨rfl, _, Eq.trans (World.drewN_drewN _ _ _) (congrArg (World.drewN _) (Nat.add_assoc _ _ _))⟩))))
  go_ret
  exact ⟨by first | rfl | (simp [errW_none, errW_some] <;> rfl) | (simp [*, errW_none, errW_some] <;> rfl), by repeat (first | (with_reducible first | exact HB.out | apply below_alloc | apply pw_below_drewN | apply below_drew1 | refine below_set ?_ GE479.out | refine below_set ?_ GE480.out) | exact HB.out)⟩
 ·rw [if_neg c5] at H
  have c5b0 : (t481 == t482) = false := beq_eq_false_iff_ne.mpr c5
  have c5b1 : (t481 != t482) = true := bne_iff_ne.mpr c5
  obtain rfl := Option.some.inj H
  go_enter Tryd.func52, Tryd.ntmps52
  go_wp2_with (first | ((with_reducible refine gate_dst (N := 2) rfl ?_); refine box_event ?hg (N := 2) ?hd (cs := #[.string a0_0, .slice A0_1 l0_1.length c0_1]) (t := 57) ?hr ?_; (case hd => rfl); (case hg => rfl); (case hr => first | (go_simp; done) | (go_simp; rfl)); intro gb479 hg w11 hbox hb; have n0_ := Aside0.mk (below_step (by repeat (first | (with_reducible first | exact HB.out | apply below_alloc | apply pw_below_drewN | apply below_drew1) | exact HB.out)) hb); have n1_ := Aside0.mk (hbox); have n2_ := Aside0.mk ((by rw [hg]; exact (below_size (by repeat (first | (with_reducible first | exact HB.out | apply below_alloc | apply pw_below_drewN | apply below_drew1) | exact HB.out))) : w.heap.size ≤ gb479)); have n3_ := Aside0.mk ((by rw [hg]; exact (below_size (by repeat (first | (with_reducible first | exact HB.out | apply below_alloc | apply pw_below_drewN | apply below_drew1) | exact HB.out))) : w.heap.size ≤ gb479)); clear HB; have HB := n0_; have BK479 := n1_; have GW479 := n2_; have GE479 := n3_; clear n0_ n1_ n2_ n3_; clear hb hbox hg) | ((with_reducible refine gate_dst (N := 3) rfl ?_); refine box_event ?hg (N := 3) ?hd (cs := #[.string a1_0, .slice A1_1 l1_1.length c1_1]) (t := 57) ?hr ?_; (case hd => rfl); (case hg => rfl); (case hr => first | (go_simp; done) | (go_simp; rfl)); intro gb480 hg w12 hbox hb; have n0_ := Aside0.mk (blk_below (g := gb479) (o := .cells #[.string a0_0, .slice A0_1 l0_1.length c0_1] 57 (0, 0)) (by (with_reducible repeat (first | refine blk_drewN ?_ _ | refine blk_drew ?_ | refine blk_alloc ?_ _)); exact BK479.out) hb); have n1_ := Aside0.mk (below_step (by repeat (first | (with_reducible first | exact HB.out | apply below_alloc | apply pw_below_drewN | apply below_drew1 | refine below_set ?_ GE479.out) | exact HB.out)) hb); have n2_ := Aside0.mk (hbox); have n3_ := Aside0.mk ((by rw [hg]; exact (below_size (by repeat (first | (with_reducible first | exact HB.out | apply below_alloc | apply pw_below_drewN | apply below_drew1 | refine below_set ?_ GE479.out) | exact HB.out))) : w.heap.size ≤ gb480)); have n4_ := Aside0.mk ((by rw [hg]; exact (below_size (by repeat (first | (with_reducible first | exact HB.out | apply below_alloc | apply pw_below_drewN | apply below_drew1 | refine below_set ?_ GE479.out) | exact HB.out))) : w.heap.size ≤ gb480)); have n5_ := Aside0.mk ((by rw [hg]; exact Nat.ne_of_lt (blk_lt (g := gb479) (o := .cells #[.string a0_0, .slice A0_1 l0_1.length c0_1] 57 (0, 0)) (by (with_reducible repeat (first | refine blk_drewN ?_ _ | refine blk_drew ?_ | refine blk_alloc ?_ _)); exact BK479.out)) : gb479 ≠ gb480)); have n6_ := Aside0.mk ((by rw [hg]; exact Nat.ne_of_gt (blk_lt (g := gb479) (o := .cells #[.string a0_0, .slice A0_1 l0_1.length c0_1] 57 (0, 0)) (by (with_reducible repeat (first | refine blk_drewN ?_ _ | refine blk_drew ?_ | refine blk_alloc ?_ _)); exact BK479.out)) : gb480 ≠ gb479)); clear BK479; clear HB; have BK479 := n0_; have HB := n1_; have BK480 := n2_; have GW480 := n3_; have GE480 := n4_; have NB479_480 := n5_; have NB480_479 := n6_; clear n0_ n1_ n2_ n3_ n4_ n5_ n6_; clear hb hbox hg; have hnb13 := NB479_480.out; have hnc13 := NB480_479.out; have hcz14_0 : w12.cell? ⟨gb479, 0, none⟩ = some (.string a0_0) := (blk_cell BK479.out 0).trans rfl; have hcz14_1 : w12.cell? ⟨gb479, 1, none⟩ = some (.slice A0_1 l0_1.length c0_1) := (blk_cell BK479.out 1).trans rfl; have hfz14_0 := blk_frozen BK479.out 0; have hfz14_1 := blk_frozen BK479.out 1) | (go_at_call 47; (with_reducible refine (liaison_masked.calls k _ _ l0_1 t481 _ ?side1 ?side2 A3.out).mono ?_); (case side1 => repeat (first | exact (Kd.C_below HR0_1.out HB.out) | (with_reducible refine Kd.C_alloc ?_ _) | (with_reducible refine Kd.C_drewN ?_ _) | (with_reducible refine Kd.C_drew ?_))); (case side2 => exact HC0_1.out); rintro e w' ⟨rfl, ⟨nd, rfl⟩⟩; (try first | exact ⟨rfl, _, World.drewN_drewN _ _ _⟩ | exact ⟨rfl, _, Eq.trans (World.drewN_drewN _ _ _) (congrArg (World.drewN _) (Nat.add_assoc _ _ _))⟩); have hcz15_0 : w12.cell? ⟨gb480, 0, none⟩ = some (.string a1_0) := (blk_cell BK480.out 0).trans rfl; have hcz15_1 : w12.cell? ⟨gb480, 1, none⟩ = some (.slice A1_1 l1_1.length c1_1) := (blk_cell BK480.out 1).trans rfl; have hfz15_0 := blk_frozen BK480.out 0; have hfz15_1 := blk_frozen BK480.out 1) | (go_at_call 47; (with_reducible refine (liaison_masked.calls k _ _ l1_1 t482 _ ?side1 ?side2 A4.out).mono ?_); (case side1 => repeat (first | exact (Kd.C_below HR1_1.out (by repeat (first | (with_reducible first | exact HB.out | apply below_alloc | apply pw_below_drewN | apply below_drew1 | refine below_set ?_ GE479.out | refine below_set ?_ GE480.out) | exact HB.out))) | (with_reducible refine Kd.C_alloc ?_ _) | (with_reducible refine Kd.C_drewN ?_ _) | (with_reducible refine Kd.C_drew ?_))); (case side2 => exact HC1_1.out); rintro e w' ⟨rfl, ⟨nd, rfl⟩⟩; (try first | exact ⟨rfl, _, World.drewN_drewN _ _ _⟩ | exact ⟨rfl, _, Eq.trans (World.drewN_drewN _ _ _) (congrArg (World.drewN _) (Nat.add_assoc _ _ _))⟩)))
  repeat (go_quiet (first | ((with_reducible refine gate_dst (N := 2) rfl ?_); refine box_event ?hg (N := 2) ?hd (cs := #[.string a0_0, .slice A0_1 l0_1.length c0_1]) (t := 57) ?hr ?_; (case hd => rfl); (case hg => rfl); (case hr => first | (go_simp; done) | (go_simp; rfl)); intro gb479 hg w11 hbox hb; have n0_ := Aside0.mk (below_step (by repeat (first | (with_reducible first | exact HB.out | apply below_alloc | apply pw_below_drewN | apply below_drew1) | exact HB.out)) hb); have n1_ := Aside0.mk (hbox); have n2_ := Aside0.mk ((by rw [hg]; exact (below_size (by repeat (first | (with_reducible first | exact HB.out | apply below_alloc | apply pw_below_drewN | apply below_drew1) | exact HB.out))) : w.heap.size ≤ gb479)); have n3_ := Aside0.mk ((by rw [hg]; exact (below_size (by repeat (first | (with_reducible first | exact HB.out | apply below_alloc | apply pw_below_drewN | apply below_drew1) | exact HB.out))) : w.heap.size ≤ gb479)); clear HB; have HB := n0_; have BK479 := n1_; have GW479 := n2_; have GE479 := n3_; clear n0_ n1_ n2_ n3_; clear hb hbox hg) | ((with_reducible refine gate_dst (N := 3) rfl ?_); refine box_event ?hg (N := 3) ?hd (cs := #[.string a1_0, .slice A1_1 l1_1.length c1_1]) (t := 57) ?hr ?_; (case hd => rfl); (case hg => rfl); (case hr => first | (go_simp; done) | (go_simp; rfl)); intro gb480 hg w12 hbox hb; have n0_ := Aside0.mk (blk_below (g := gb479) (o := .cells #[.string a0_0, .slice A0_1 l0_1.length c0_1] 57 (0, 0)) (by (with_reducible repeat (first | refine blk_drewN ?_ _ | refine blk_drew ?_ | refine blk_alloc ?_ _)); exact BK479.out) hb); have n1_ := Aside0.mk (below_step (by repeat (first | (with_reducible first | exact HB.out | apply below_alloc | apply pw_below_drewN | apply below_drew1 | refine below_set ?_ GE479.out) | exact HB.out)) hb); have n2_ := Aside0.mk (hbox); have n3_ := Aside0.mk ((by rw [hg]; exact (below_size (by repeat (first | (with_reducible first | exact HB.out | apply below_alloc | apply pw_below_drewN | apply below_drew1 | refine below_set ?_ GE479.out) | exact HB.out))) : w.heap.size ≤ gb480)); have n4_ := Aside0.mk ((by rw [hg]; exact (below_size (by repeat (first | (with_reducible first | exact HB.out | apply below_alloc | apply pw_below_drewN | apply below_drew1 | refine below_set ?_ GE479.out) | exact HB.out))) : w.heap.size ≤ gb480)); have n5_ := Aside0.mk ((by rw [hg]; exact Nat.ne_of_lt (blk_lt (g := gb479) (o := .cells #[.string a0_0, .slice A0_1 l0_1.length c0_1] 57 (0, 0)) (by (with_reducible repeat (first | refine blk_drewN ?_ _ | refine blk_drew ?_ | refine blk_alloc ?_ _)); exact BK479.out)) : gb479 ≠ gb480)); have n6_ := Aside0.mk ((by rw [hg]; exact Nat.ne_of_gt (blk_lt (g := gb479) (o := .cells #[.string a0_0, .slice A0_1 l0_1.length c0_1] 57 (0, 0)) (by (with_reducible repeat (first | refine blk_drewN ?_ _ | refine blk_drew ?_ | refine blk_alloc ?_ _)); exact BK479.out)) : gb480 ≠ gb479)); clear BK479; clear HB; have BK479 := n0_; have HB := n1_; have BK480 := n2_; have GW480 := n3_; have GE480 := n4_; have NB479_480 := n5_; have NB480_479 := n6_; clear n0_ n1_ n2_ n3_ n4_ n5_ n6_; clear hb hbox hg; have hnb13 := NB479_480.out; have hnc13 := NB480_479.out; have hcz14_0 : w12.cell? ⟨gb479, 0, none⟩ = some (.string a0_0) := (blk_cell BK479.out 0).trans rfl; have hcz14_1 : w12.cell? ⟨gb479, 1, none⟩ = some (.slice A0_1 l0_1.length c0_1) := (blk_cell BK479.out 1).trans rfl; have hfz14_0 := blk_frozen BK479.out 0; have hfz14_1 := blk_frozen BK479.out 1) | (go_at_call 47; (with_reducible refine (liaison_masked.calls k _ _ l0_1 t481 _ ?side1 ?side2 A3.out).mono ?_); (case side1 => repeat (first | exact (Kd.C_below HR0_1.out HB.out) | (with_reducible refine Kd.C_alloc ?_ _) | (with_reducible refine Kd.C_drewN ?_ _) | (with_reducible refine Kd.C_drew ?_))); (case side2 => exact HC0_1.out); rintro e w' ⟨rfl, ⟨nd, rfl⟩⟩; (try first | exact ⟨rfl, _, World.drewN_drewN _ _ _⟩ | exact ⟨rfl, _, Eq.trans (World.drewN_drewN _ _ _) (congrArg (World.drewN _) (Nat.add_assoc _ _ _))⟩); have hcz15_0 : w12.cell? ⟨gb480, 0, none⟩ = some (.string a1_0) := (blk_cell BK480.out 0).trans rfl; have hcz15_1 : w12.cell? ⟨gb480, 1, none⟩ = some (.slice A1_1 l1_1.length c1_1) := (blk_cell BK480.out 1).trans rfl; have hfz15_0 := blk_frozen BK480.out 0; have hfz15_1 := blk_frozen BK480.out 1) | (go_at_call 47; (with_reducible refine (liaison_masked.calls k _ _ l1_1 t482 _ ?side1 ?side2 A4.out).mono ?_); (case side1 => repeat (first | exact (Kd.C_below HR1_1.out (by repeat (first | (with_reducible first | exact HB.out | apply below_alloc | apply pw_below_drewN | apply below_drew1 | refine below_set ?_ GE479.out | refine below_set ?_ GE480.out) | exact HB.out))) | (with_reducible refine Kd.C_alloc ?_ _) | (with_reducible refine Kd.C_drewN ?_ _) | (with_reducible refine Kd.C_drew ?_))); (case side2 => exact HC1_1.out); rintro e w' ⟨rfl, ⟨nd, rfl⟩⟩; (try first | exact ⟨rfl, _, World.drewN_drewN _ _ _⟩ | exact ⟨rfl, _, Eq.trans (World.drewN_drewN _ _ _) (congrArg (World.drewN _) (Nat.add_assoc _ _ _))⟩))); try go_wp2_with (first | ((with_reducible refine gate_dst (N := 2) rfl ?_); refine box_event ?hg (N := 2) ?hd (cs := #[.string a0_0, .slice A0_1 l0_1.length c0_1]) (t := 57) ?hr ?_; (case hd => rfl); (case hg => rfl); (case hr => first | (go_simp; done) | (go_simp; rfl)); intro gb479 hg w11 hbox hb; have n0_ := Aside0.mk (below_step (by repeat (first | (with_reducible first | exact HB.out | apply below_alloc | apply pw_below_drewN | apply below_drew1) | exact HB.out)) hb); have n1_ := Aside0.mk (hbox); have n2_ := Aside0.mk ((by rw [hg]; exact (below_size (by repeat (first | (with_reducible first | exact HB.out | apply below_alloc | apply pw_below_drewN | apply below_drew1) | exact HB.out))) : w.heap.size ≤ gb479)); have n3_ := Aside0.mk ((by rw [hg]; exact (below_size (by repeat (first | (with_reducible first | exact HB.out | apply below_alloc | apply pw_below_drewN | apply below_drew1) | exact HB.out))) : w.heap.size ≤ gb479)); clear HB; have HB := n0_; have BK479 := n1_; have GW479 := n2_; have GE479 := n3_; clear n0_ n1_ n2_ n3_; clear hb hbox hg) | ((with_reducible refine gate_dst (N := 3) rfl ?_); refine box_event ?hg (N := 3) ?hd (cs := #[.string a1_0, .slice A1_1 l1_1.length c1_1]) (t := 57) ?hr ?_; (case hd => rfl); (case hg => rfl); (case hr => first | (go_simp; done) | (go_simp; rfl)); intro gb480 hg w12 hbox hb; have n0_ := Aside0.mk (blk_below (g := gb479) (o := .cells #[.string a0_0, .slice A0_1 l0_1.length c0_1] 57 (0, 0)) (by (with_reducible repeat (first | refine blk_drewN ?_ _ | refine blk_drew ?_ | refine blk_alloc ?_ _)); exact BK479.out) hb); have n1_ := Aside0.mk (below_step (by repeat (first | (with_reducible first | exact HB.out | apply below_alloc | apply pw_below_drewN | apply below_drew1 | refine below_set ?_ GE479.out) | exact HB.out)) hb); have n2_ := Aside0.mk (hbox); have n3_ := Aside0.mk ((by rw [hg]; exact (below_size (by repeat (first | (with_reducible first | exact HB.out | apply below_alloc | apply pw_below_drewN | apply below_drew1 | refine below_set ?_ GE479.out) | exact HB.out))) : w.heap.size ≤ gb480)); have n4_ := Aside0.mk ((by rw [hg]; exact (below_size (by repeat (first | (with_reducible first | exact HB.out | apply below_alloc | apply pw_below_drewN | apply below_drew1 | refine below_set ?_ GE479.out) | exact HB.out))) : w.heap.size ≤ gb480)); have n5_ := Aside0.mk ((by rw [hg]; exact Nat.ne_of_lt (blk_lt (g := gb479) (o := .cells #[.string a0_0, .slice A0_1 l0_1.length c0_1] 57 (0, 0)) (by (with_reducible repeat (first | refine blk_drewN ?_ _ | refine blk_drew ?_ | refine blk_alloc ?_ _)); exact BK479.out)) : gb479 ≠ gb480)); have n6_ := Aside0.mk ((by rw [hg]; exact Nat.ne_of_gt (blk_lt (g := gb479) (o := .cells #[.string a0_0, .slice A0_1 l0_1.length c0_1] 57 (0, 0)) (by (with_reducible repeat (first | refine blk_drewN ?_ _ | refine blk_drew ?_ | refine blk_alloc ?_ _)); exact BK479.out)) : gb480 ≠ gb479)); clear BK479; clear HB; have BK479 := n0_; have HB := n1_; have BK480 := n2_; have GW480 := n3_; have GE480 := n4_; have NB479_480 := n5_; have NB480_479 := n6_; clear n0_ n1_ n2_ n3_ n4_ n5_ n6_; clear hb hbox hg; have hnb13 := NB479_480.out; have hnc13 := NB480_479.out; have hcz14_0 : w12.cell? ⟨gb479, 0, none⟩ = some (.string a0_0) := (blk_cell BK479.out 0).trans rfl; have hcz14_1 : w12.cell? ⟨gb479, 1, none⟩ = some (.slice A0_1 l0_1.length c0_1) := (blk_cell BK479.out 1).trans rfl; have hfz14_0 := blk_frozen BK479.out 0; have hfz14_1 := blk_frozen BK479.out 1) | (go_at_call 47; (with_reducible refine (liaison_masked.calls k _ _ l0_1 t481 _ ?side1 ?side2 A3.out).mono ?_); (case side1 => repeat (first | exact (Kd.C_below HR0_1.out HB.out) | (with_reducible refine Kd.C_alloc ?_ _) | (with_reducible refine Kd.C_drewN ?_ _) | (with_reducible refine Kd.C_drew ?_))); (case side2 => exact HC0_1.out); rintro e w' ⟨rfl, ⟨nd, rfl⟩⟩; (try first | exact ⟨rfl, _, World.drewN_drewN _ _ _⟩ | exact ⟨rfl, _, Eq.trans (World.drewN_drewN _ _ _) (congrArg (World.drewN _) (Nat.add_assoc _ _ _))⟩); have hcz15_0 : w12.cell? ⟨gb480, 0, none⟩ = some (.string a1_0) := (blk_cell BK480.out 0).trans rfl; have hcz15_1 : w12.cell? ⟨gb480, 1, none⟩ = some (.slice A1_1 l1_1.length c1_1) := (blk_cell BK480.out 1).trans rfl; have hfz15_0 := blk_frozen BK480.out 0; have hfz15_1 := blk_frozen BK480.out 1) | (go_at_call 47; (with_reducible refine (liaison_masked.calls k _ _ l1_1 t482 _ ?side1 ?side2 A4.out).mono ?_); (case side1 => repeat (first | exact (Kd.C_below HR1_1.out (by repeat (first | (with_reducible first | exact HB.out | apply below_alloc | apply pw_below_drewN | apply below_drew1 | refine below_set ?_ GE479.out | refine below_set ?_ GE480.out) | exact HB.out))) | (with_reducible refine Kd.C_alloc ?_ _) | (with_reducible refine Kd.C_drewN ?_ _) | (with_reducible refine Kd.C_drew ?_))); (case side2 => exact HC1_1.out); rintro e w' ⟨rfl, ⟨nd, rfl⟩⟩; (try first | exact ⟨rfl, _, World.drewN_drewN _ _ _⟩ | exact ⟨rfl, _, Eq.trans (World.drewN_drewN _ _ _) (congrArg (World.drewN _) (Nat.add_assoc _ _ _))⟩))))
  go_ret
  exact ⟨by first | rfl | (simp [errW_none, errW_some] <;> rfl) | (simp [*, errW_none, errW_some] <;> rfl), by repeat (first | (with_reducible first | exact HB.out | apply below_alloc | apply pw_below_drewN | apply below_drew1 | refine below_set ?_ GE479.out | refine below_set ?_ GE480.out) | exact HB.out)⟩
end
end Go.Proofs.YtbghfbhlbfcloaaDoor.PL
namespace Go.Proofs.YtbghfbhlbfcloaaDoor.PL
section
open Go.RowKit Go.Proofs Go.Proofs.YtbghfbhlbfcloaaDoorW.PrintWords Go.Proofs.YtbghfbhlbfcloaaDoorW.PrintLast Go.Proofs.YtbghfbhlbfcloaaDoorW.PrintMore
set_option linter.unusedVariables false
set_option linter.unusedSimpArgs false

theorem e57 : ∀ args w, (callFunc 57 args).run Tryd.prog w = .ok (.enter 57 args) w := enters_of Tryd.func57 (by kernel_rfl) rfl
theorem e59 : ∀ args w, (callFunc 59 args).run Tryd.prog w = .ok (.enter 59 args) w := enters_of Tryd.func59 (by kernel_rfl) rfl
set_option maxRecDepth 100000 in
set_option maxHeartbeats 4000000 in
theorem CG.calls (A0 : Option Addr) (c0 : Nat) (l0 : List S57) (a1 : Int) (r : Int) (w : World) (hr0 : Kd.C k57 w A0 l0.length l0) (hc0 : l0.length ≤ c0) (h : CG.f l0 a1 = some r) :
  Calls Tryd.prog 29 #[.slice A0 l0.length c0, .int .i64 a1] w fun e w' => e = .returned (.int .i64 r) ∧ Below w.heap.size w w' := by
 have hu57 := Tryd.underlying57
 unfold CG.f at h
 by_cases hn : a1 < 0 ∨ 12 < a1
 ·rw [if_pos hn] at h
  injection h with h
  subst h
  by_cases hn0 : a1 < 0
  ·go_enter Tryd.func29, Tryd.ntmps29
   go_wp2
   go_ret
   exact ⟨rfl, Below.refl _ _⟩
  ·have hn1 : 12 < a1 := by omega
   go_enter Tryd.func29, Tryd.ntmps29
   go_wp2
   go_ret
   exact ⟨rfl, Below.refl _ _⟩
 ·rw [if_neg hn] at h
  have hn0 : ¬ a1 < 0 := by omega
  have hn1 : ¬ 12 < a1 := by omega
  by_cases hl : 32 < (l0.length : Int)
  ·rw [if_pos hl] at h
   injection h with h
   subst h
   go_enter Tryd.func29, Tryd.ntmps29
   go_wp2
   go_ret
   exact ⟨rfl, Below.refl _ _⟩
  ·rw [if_neg hl] at h
   split at h
   case isFalse => cases h
   rename_i hall
   have HALL := Aside0.mk (List.all_eq_true.1 hall)
   have HR := Aside0.mk hr0
   have HC := Aside0.mk hc0
   have H' := Aside0.mk h
   have HL := Aside0.mk hl
   clear hall hr0 hc0 h hn
   go_enter Tryd.func29, Tryd.ntmps29
   go_wp2
   go_loopw [23] (fun v23 wr => ∃ x : Int, v23 = .int .i64 x ∧ 0 ≤ x ∧ x ≤ l0.length ∧ Aside0 (CG.go l0 a1 x.toNat (l0.drop x.toNat) = some r) ∧ Aside0 (Below w.heap.size w wr)) (fun v23 _ => l0.length - (intOf v23).toNat)
   case atStart => exact ⟨0, rfl, by omega, by omega, ⟨by rw [show (0 : Int).toNat = 0 from rfl, List.drop_zero]; exact H'.out⟩, ⟨Below.refl _ _⟩⟩
   case round =>
    clear H'
    obtain ⟨x, rfl, hx0, hx1, HG, HB⟩ := hrel
    have hle : (l0.length : Int) ≤ 32 := by have := HL.out; omega
    by_cases hlt : x < l0.length
    ·have hg := HG.out
     rw [drop57 l0 x hx0 hlt] at hg
     unfold CG.go at hg
     obtain ⟨e, he, hg⟩ := Option.bind_eq_some_iff.1 hg
     have HE := Aside0.mk he
     have HG2 := Aside0.mk hg
     clear he hg HG
     obtain ⟨ad, A1, c1, rfl, ha0, ha1, hc1, hC1⟩ := at_T57 HR.out x (by omega) (by omega)
     have hb0 := (HB.out.cell (World.block_lt_of_cell? w _ ha0)).trans ha0
     have hb1 := (HB.out.cell (World.block_lt_of_cell? w _ ha1)).trans ha1
     have HC1 := Aside0.mk hC1
     have HCC1 := Aside0.mk hc1
     have HXL := Aside0.mk (show (rd_T57 l0 x).f1.length ≤ 150 by
      have hm : rd_T57 l0 x ∈ l0 := by
       have := rd_mem57 (l := l0) (x := x.toNat) (by omega)
       rwa [show ((x.toNat : Nat) : Int) = x by omega] at this
      have := HALL.out _ hm
      simpa using this)
     clear ha0 ha1 hC1 hc1
     generalize hX : rd_T57 l0 x = X at hb0 hb1 HE HC1 HCC1 HXL
     have HXX := Aside0.mk hX
     clear hX
     obtain ⟨s0, ms⟩ := X
     dsimp only at hb0 hb1 HC1 HCC1 HXL
     have K59 : ∀ (B : Nat) (W : World), W.heap[B]? = some (.cells #[.string s0, .slice A1 ms.length c1] 57 (0, 0)) → Below w.heap.size w W →
       ∀ (W2 : World) (y : S57) (cy : List Value), y ∈ l0 → Below W.heap.size W W2 → k57.K W2 y cy → Calls Tryd.prog 59 (#[.agg cy.toArray] ++ #[.pointer (some ⟨B, 0, none⟩)]) W2 fun e w' => e = .returned (.bool (decide (ms = y.f1))) ∧ Below W2.heap.size W2 w' := by
      intro B W hB hW W2 y cy hy hW2 hk
      obtain ⟨A, c, rfl, h1, h2⟩ := k57_open hk
      have hB2 := blk_below hB hW2
      exact clo59 CG.k B y.f0 ms y.f1 A1 A c1 c _ W2 ((blk_cell hB2 1).trans rfl) (Kd.C_below (Kd.C_below HC1.out hW) hW2) HCC1.out h2 h1 (equal_f ms y.f1 HXL.out)
     have K57 : ∀ (B : Nat) (W : World), W.heap[B]? = some (.cells #[.string s0, .slice A1 ms.length c1] 57 (0, 0)) →
       ∀ (W2 : World) (y : S57) (cy : List Value), y ∈ l0 → Below W.heap.size W W2 → k57.K W2 y cy → Calls Tryd.prog 57 (#[.agg cy.toArray] ++ #[.pointer (some ⟨B, 0, none⟩)]) W2 fun e w' => e = .returned (.bool (y.f0.toList == s0.toList)) ∧ Below W2.heap.size W2 w' := by
      intro B W hB W2 y cy hy hW2 hk
      obtain ⟨A, c, rfl, h1, h2⟩ := k57_open hk
      have hB2 := blk_below hB hW2
      exact clo57 B s0 y.f0 (.slice A y.f1.length c) W2 ((blk_cell hB2 0).trans rfl) A y.f1.length c rfl
     have HK57 := Aside0.mk K57
     have HK59 := Aside0.mk K59
     clear K57 K59
     have hxc : x ≤ (c0 : Int) := by have := HC.out; omega
     have hcz : (c0 = 0) = False := eq_false (by have := HC.out; omega)
     have he := HE.out
     unfold CG.one at he
     dsimp only at he
     cases q1 : nameB s0 with
     | false =>
      rw [q1, if_pos rfl] at he
      injection he with he
      subst he
      have hg := HG2.out
      rw [if_neg (by decide)] at hg
      injection hg with hg
      subst hg
      go_wp2_with (first | (go_at_call 55; refine (nameC s0 _).mono ?_; rintro e w2 ⟨rfl, hb2⟩; have hk2 := blk_below (blk_new wr (.cells #[.string s0, .slice A1 ms.length c1] 57)) hb2; have HK2 := Aside0.mk hk2; have hz2 : w2.cell? ⟨wr.heap.size, 1, none⟩ = some (.slice A1 ms.length c1) := (blk_cell hk2 1).trans rfl; have HB2 := Aside0.mk ((below_alloc HB.out _).trans (hb2.mono (by have := HB.out.size; simp; omega))); clear hb2 hk2))
      go_ret
      exact ⟨rfl, HB2.out⟩
     | true =>
      rw [q1, if_neg (by decide)] at he
      cases q2 : (l0.take x.toNat).any (fun y => y.f0.toList == s0.toList) with
      | true =>
       rw [q2, if_pos rfl] at he
       injection he with he
       subst he
       have hg := HG2.out
       rw [if_neg (by decide)] at hg
       injection hg with hg
       subst hg
       go_wp2_with (first | (go_at_call 55; refine (nameC s0 _).mono ?_; rintro e w2 ⟨rfl, hb2⟩; have hk2 := blk_below (blk_new wr (.cells #[.string s0, .slice A1 ms.length c1] 57)) hb2; have HK2 := Aside0.mk hk2; have hz2 : w2.cell? ⟨wr.heap.size, 1, none⟩ = some (.slice A1 ms.length c1) := (blk_cell hk2 1).trans rfl; have HB2 := Aside0.mk ((below_alloc HB.out _).trans (hb2.mono (by have := HB.out.size; simp; omega))); clear hb2 hk2) | (go_at_call 56; with_reducible refine (contG (some ad) c0 x.toNat l0 57 #[.pointer (some ⟨wr.heap.size, 0, none⟩)] (fun y => y.f0.toList == s0.toList) w2 (Kd.C_below HR.out HB2.out) (by omega) (by omega) e57 (HK57.out wr.heap.size w2 HK2.out)).mono ?_; rintro e w3 ⟨rfl, hb3⟩; have hk3 := blk_below HK2.out hb3; have HK3 := Aside0.mk hk3; have hz3 : w3.cell? ⟨wr.heap.size, 1, none⟩ = some (.slice A1 ms.length c1) := (blk_cell hk3 1).trans rfl; have HB3 := Aside0.mk (HB2.out.trans (hb3.mono HB2.out.size)); clear hb3 hk3))
       go_ret
       exact ⟨rfl, HB3.out⟩
      | false =>
       rw [q2, if_neg (by decide)] at he
       by_cases q3 : (ms.length : Int) < 2
       ·rw [if_pos q3] at he
        injection he with he
        subst he
        have hg := HG2.out
        rw [if_neg (by decide)] at hg
        injection hg with hg
        subst hg
        go_wp2_with (first | (go_at_call 55; refine (nameC s0 _).mono ?_; rintro e w2 ⟨rfl, hb2⟩; have hk2 := blk_below (blk_new wr (.cells #[.string s0, .slice A1 ms.length c1] 57)) hb2; have HK2 := Aside0.mk hk2; have hz2 : w2.cell? ⟨wr.heap.size, 1, none⟩ = some (.slice A1 ms.length c1) := (blk_cell hk2 1).trans rfl; have HB2 := Aside0.mk ((below_alloc HB.out _).trans (hb2.mono (by have := HB.out.size; simp; omega))); clear hb2 hk2) | (go_at_call 56; with_reducible refine (contG (some ad) c0 x.toNat l0 57 #[.pointer (some ⟨wr.heap.size, 0, none⟩)] (fun y => y.f0.toList == s0.toList) w2 (Kd.C_below HR.out HB2.out) (by omega) (by omega) e57 (HK57.out wr.heap.size w2 HK2.out)).mono ?_; rintro e w3 ⟨rfl, hb3⟩; have hk3 := blk_below HK2.out hb3; have HK3 := Aside0.mk hk3; have hz3 : w3.cell? ⟨wr.heap.size, 1, none⟩ = some (.slice A1 ms.length c1) := (blk_cell hk3 1).trans rfl; have HB3 := Aside0.mk (HB2.out.trans (hb3.mono HB2.out.size)); clear hb3 hk3))
        go_ret
        exact ⟨rfl, HB3.out⟩
       ·rw [if_neg q3] at he
        obtain ⟨e58, he58, he⟩ := Option.bind_eq_some_iff.1 he
        have HE58 := Aside0.mk he58
        clear he58
        by_cases h58 : e58 = 0
        case neg =>
         have q58 : (e58 != 0) = true := by simpa using h58
         rw [if_pos h58] at he
         injection he with he
         subst he
         have hg := HG2.out
         rw [if_neg (by exact h58)] at hg
         injection hg with hg
         subst hg
         go_wp2_with (first | (go_at_call 55; refine (nameC s0 _).mono ?_; rintro e w2 ⟨rfl, hb2⟩; have hk2 := blk_below (blk_new wr (.cells #[.string s0, .slice A1 ms.length c1] 57)) hb2; have HK2 := Aside0.mk hk2; have hz2 : w2.cell? ⟨wr.heap.size, 1, none⟩ = some (.slice A1 ms.length c1) := (blk_cell hk2 1).trans rfl; have HB2 := Aside0.mk ((below_alloc HB.out _).trans (hb2.mono (by have := HB.out.size; simp; omega))); clear hb2 hk2) | (go_at_call 56; with_reducible refine (contG (some ad) c0 x.toNat l0 57 #[.pointer (some ⟨wr.heap.size, 0, none⟩)] (fun y => y.f0.toList == s0.toList) w2 (Kd.C_below HR.out HB2.out) (by omega) (by omega) e57 (HK57.out wr.heap.size w2 HK2.out)).mono ?_; rintro e w3 ⟨rfl, hb3⟩; have hk3 := blk_below HK2.out hb3; have HK3 := Aside0.mk hk3; have hz3 : w3.cell? ⟨wr.heap.size, 1, none⟩ = some (.slice A1 ms.length c1) := (blk_cell hk3 1).trans rfl; have HB3 := Aside0.mk (HB2.out.trans (hb3.mono HB2.out.size)); clear hb3 hk3) | (go_at_call 58; refine (liaison_ordered.calls CG.k A1 c1 ms a1 e58 w3 (Kd.C_below HC1.out HB3.out) HCC1.out HE58.out).mono ?_; rintro e w4 ⟨rfl, ⟨nd, rfl⟩⟩; have hk4 := blk_drewN HK3.out nd; have HK4 := Aside0.mk hk4; have hz4 : (w3.drewN nd).cell? ⟨wr.heap.size, 1, none⟩ = some (.slice A1 ms.length c1) := (blk_cell hk4 1).trans rfl; have HB4 := Aside0.mk (pw_below_drewN HB3.out nd); clear hk4))
         go_ret
         exact ⟨rfl, HB4.out⟩
        case pos =>
         rw [if_neg (fun h => h h58)] at he
         subst h58
         cases q5 : (l0.take x.toNat).any (fun y => decide (ms = y.f1)) with
         | true =>
          rw [q5, if_pos rfl] at he
          injection he with he
          subst he
          have hg := HG2.out
          rw [if_neg (by decide)] at hg
          injection hg with hg
          subst hg
          go_wp2_with (first | (go_at_call 55; refine (nameC s0 _).mono ?_; rintro e w2 ⟨rfl, hb2⟩; have hk2 := blk_below (blk_new wr (.cells #[.string s0, .slice A1 ms.length c1] 57)) hb2; have HK2 := Aside0.mk hk2; have hz2 : w2.cell? ⟨wr.heap.size, 1, none⟩ = some (.slice A1 ms.length c1) := (blk_cell hk2 1).trans rfl; have HB2 := Aside0.mk ((below_alloc HB.out _).trans (hb2.mono (by have := HB.out.size; simp; omega))); clear hb2 hk2) | (go_at_call 56; with_reducible refine (contG (some ad) c0 x.toNat l0 57 #[.pointer (some ⟨wr.heap.size, 0, none⟩)] (fun y => y.f0.toList == s0.toList) w2 (Kd.C_below HR.out HB2.out) (by omega) (by omega) e57 (HK57.out wr.heap.size w2 HK2.out)).mono ?_; rintro e w3 ⟨rfl, hb3⟩; have hk3 := blk_below HK2.out hb3; have HK3 := Aside0.mk hk3; have hz3 : w3.cell? ⟨wr.heap.size, 1, none⟩ = some (.slice A1 ms.length c1) := (blk_cell hk3 1).trans rfl; have HB3 := Aside0.mk (HB2.out.trans (hb3.mono HB2.out.size)); clear hb3 hk3) | (go_at_call 58; refine (liaison_ordered.calls CG.k A1 c1 ms a1 0 w3 (Kd.C_below HC1.out HB3.out) HCC1.out HE58.out).mono ?_; rintro e w4 ⟨rfl, ⟨nd, rfl⟩⟩; have hk4 := blk_drewN HK3.out nd; have HK4 := Aside0.mk hk4; have hz4 : (w3.drewN nd).cell? ⟨wr.heap.size, 1, none⟩ = some (.slice A1 ms.length c1) := (blk_cell hk4 1).trans rfl; have HB4 := Aside0.mk (pw_below_drewN HB3.out nd); clear hk4) | (go_at_call 56; with_reducible refine (contG (some ad) c0 x.toNat l0 59 #[.pointer (some ⟨wr.heap.size, 0, none⟩)] (fun y => decide (ms = y.f1)) _ (Kd.C_below HR.out HB4.out) (by omega) (by omega) e59 (HK59.out wr.heap.size _ HK4.out HB4.out)).mono ?_; rintro e w5 ⟨rfl, hb5⟩; have hk5 := blk_below HK4.out hb5; have HK5 := Aside0.mk hk5; have hz5 : w5.cell? ⟨wr.heap.size, 1, none⟩ = some (.slice A1 ms.length c1) := (blk_cell hk5 1).trans rfl; have HB5 := Aside0.mk (HB4.out.trans (hb5.mono HB4.out.size)); clear hb5 hk5))
          go_ret
          exact ⟨rfl, HB5.out⟩
         | false =>
          rw [q5, if_neg (by decide)] at he
          obtain ⟨m, hm, he⟩ := Option.bind_eq_some_iff.1 he
          obtain ⟨b, hb, he⟩ := Option.bind_eq_some_iff.1 he
          have HM := Aside0.mk hm
          have HI := Aside0.mk hb
          have HEE := Aside0.mk he
          clear hm hb he
          go_wp2_with (first | (go_at_call 55; refine (nameC s0 _).mono ?_; rintro e w2 ⟨rfl, hb2⟩; have hk2 := blk_below (blk_new wr (.cells #[.string s0, .slice A1 ms.length c1] 57)) hb2; have HK2 := Aside0.mk hk2; have hz2 : w2.cell? ⟨wr.heap.size, 1, none⟩ = some (.slice A1 ms.length c1) := (blk_cell hk2 1).trans rfl; have HB2 := Aside0.mk ((below_alloc HB.out _).trans (hb2.mono (by have := HB.out.size; simp; omega))); clear hb2 hk2) | (go_at_call 56; with_reducible refine (contG (some ad) c0 x.toNat l0 57 #[.pointer (some ⟨wr.heap.size, 0, none⟩)] (fun y => y.f0.toList == s0.toList) w2 (Kd.C_below HR.out HB2.out) (by omega) (by omega) e57 (HK57.out wr.heap.size w2 HK2.out)).mono ?_; rintro e w3 ⟨rfl, hb3⟩; have hk3 := blk_below HK2.out hb3; have HK3 := Aside0.mk hk3; have hz3 : w3.cell? ⟨wr.heap.size, 1, none⟩ = some (.slice A1 ms.length c1) := (blk_cell hk3 1).trans rfl; have HB3 := Aside0.mk (HB2.out.trans (hb3.mono HB2.out.size)); clear hb3 hk3) | (go_at_call 58; refine (liaison_ordered.calls CG.k A1 c1 ms a1 0 w3 (Kd.C_below HC1.out HB3.out) HCC1.out HE58.out).mono ?_; rintro e w4 ⟨rfl, ⟨nd, rfl⟩⟩; have hk4 := blk_drewN HK3.out nd; have HK4 := Aside0.mk hk4; have hz4 : (w3.drewN nd).cell? ⟨wr.heap.size, 1, none⟩ = some (.slice A1 ms.length c1) := (blk_cell hk4 1).trans rfl; have HB4 := Aside0.mk (pw_below_drewN HB3.out nd); clear hk4) | (go_at_call 56; with_reducible refine (contG (some ad) c0 x.toNat l0 59 #[.pointer (some ⟨wr.heap.size, 0, none⟩)] (fun y => decide (ms = y.f1)) _ (Kd.C_below HR.out HB4.out) (by omega) (by omega) e59 (HK59.out wr.heap.size _ HK4.out HB4.out)).mono ?_; rintro e w5 ⟨rfl, hb5⟩; have hk5 := blk_below HK4.out hb5; have HK5 := Aside0.mk hk5; have hz5 : w5.cell? ⟨wr.heap.size, 1, none⟩ = some (.slice A1 ms.length c1) := (blk_cell hk5 1).trans rfl; have HB5 := Aside0.mk (HB4.out.trans (hb5.mono HB4.out.size)); clear hb5 hk5) | (go_at_call 47; refine (liaison_masked.calls CG.k A1 c1 ms m w5 (Kd.C_below HC1.out HB5.out) HCC1.out HM.out).mono ?_; rintro e w6 ⟨rfl, ⟨nd6, rfl⟩⟩; have HB6 := Aside0.mk (pw_below_drewN HB5.out nd6)))
          go_loopw [60] (fun v60 wi => ∃ y : Int, v60 = .int .i64 y ∧ 0 ≤ y ∧ y ≤ x ∧ Aside0 (CG.inn m ((l0.take x.toNat).drop y.toNat) = some b) ∧ Aside0 (Below w.heap.size w wi)) (fun v60 _ => l0.length - (intOf v60).toNat)
          case atStart => exact ⟨0, rfl, by omega, by omega, ⟨by rw [show (0 : Int).toNat = 0 from rfl, List.drop_zero]; exact HI.out⟩, HB6⟩
          case round =>
           clear HI
           obtain ⟨y, rfl, hy0, hy1, HII, HBI⟩ := hrel
           have hlex : x ≤ 32 := by omega
           by_cases hlty : y < x
           ·have hi := HII.out
            have hd : (l0.take x.toNat).drop y.toNat = rd_T57 l0 y :: (l0.take x.toNat).drop (y + 1).toNat := by
             have h1 := drop57 (l0.take x.toNat) y hy0 (by rw [List.length_take]; omega)
             rw [h1]
             congr 1
             unfold rd_T57
             rw [List.getD_eq_getElem?_getD, List.getD_eq_getElem?_getD, List.getElem?_take_of_lt (by omega)]
            rw [hd] at hi
            unfold CG.inn at hi
            obtain ⟨o, ho, hi⟩ := Option.bind_eq_some_iff.1 hi
            have HO := Aside0.mk ho
            clear ho hd HII
            obtain ⟨ad2, A2, c2, hade, hd0, hd1, hc2, hC2⟩ := at_T57 HR.out y (by omega) (by omega)
            injection hade with hade
            subst hade
            have hb20 := (HBI.out.cell (World.block_lt_of_cell? w _ hd0)).trans hd0
            have hb21 := (HBI.out.cell (World.block_lt_of_cell? w _ hd1)).trans hd1
            have HC2 := Aside0.mk hC2
            have HCC2 := Aside0.mk hc2
            clear hd0 hd1 hc2 hC2
            generalize (rd_T57 l0 y).f0 = s2 at hb20
            generalize (rd_T57 l0 y).f1 = ms2 at hb21 HO HC2 HCC2
            have hyx : y < (x.toNat : Int) := by omega
            by_cases z1 : Go.bits .and .u64 o m = 0
            ·have zb1 : (Go.bits .and .u64 o m != 0) = false := by rw [z1]; rfl
             rw [if_neg (by unfold CG.cross; rw [decide_eq_false (fun h => h z1)]; simp)] at hi
             clear z1
             have HI2 := Aside0.mk hi
             clear hi
             go_wp2_with (go_at_call 47; refine (liaison_masked.calls CG.k A2 c2 ms2 o _ (Kd.C_alloc (Kd.C_below HC2.out HBI.out) _) HCC2.out HO.out).mono ?_; rintro e wj ⟨rfl, ⟨ndj, rfl⟩⟩)
             go_roundw
             case rel => exact ⟨y + 1, by go_num, by omega, by omega, HI2, ⟨pw_below_drewN (below_alloc HBI.out _) _⟩⟩
             case measure => simp [intOf]; omega
            ·have zb1 : (Go.bits .and .u64 o m != 0) = true := by simpa using z1
             by_cases z2 : Go.bits .and .u64 o m = m
             ·have zb2 : (Go.bits .and .u64 o m != m) = false := by rw [z2]; simp
              rw [if_neg (by unfold CG.cross; rw [decide_eq_false (p := Go.bits .and .u64 o m ≠ m) (fun h => h z2)]; simp)] at hi
              clear z1 z2
              have HI2 := Aside0.mk hi
              clear hi
              go_wp2_with (go_at_call 47; refine (liaison_masked.calls CG.k A2 c2 ms2 o _ (Kd.C_alloc (Kd.C_below HC2.out HBI.out) _) HCC2.out HO.out).mono ?_; rintro e wj ⟨rfl, ⟨ndj, rfl⟩⟩)
              go_roundw
              case rel => exact ⟨y + 1, by go_num, by omega, by omega, HI2, ⟨pw_below_drewN (below_alloc HBI.out _) _⟩⟩
              case measure => simp [intOf]; omega
             ·have zb2 : (Go.bits .and .u64 o m != m) = true := by simpa using z2
              by_cases z3 : Go.bits .and .u64 o m = o
              ·have zb3 : (Go.bits .and .u64 o m != o) = false := by rw [z3]; simp
               rw [if_neg (by unfold CG.cross; rw [decide_eq_false (p := Go.bits .and .u64 o m ≠ o) (fun h => h z3)]; simp)] at hi
               clear z1 z2 z3
               have HI2 := Aside0.mk hi
               clear hi
               go_wp2_with (go_at_call 47; refine (liaison_masked.calls CG.k A2 c2 ms2 o _ (Kd.C_alloc (Kd.C_below HC2.out HBI.out) _) HCC2.out HO.out).mono ?_; rintro e wj ⟨rfl, ⟨ndj, rfl⟩⟩)
               go_roundw
               case rel => exact ⟨y + 1, by go_num, by omega, by omega, HI2, ⟨pw_below_drewN (below_alloc HBI.out _) _⟩⟩
               case measure => simp [intOf]; omega
              ·have zb3 : (Go.bits .and .u64 o m != o) = true := by simpa using z3
               rw [if_pos (by unfold CG.cross; rw [decide_eq_true z1, decide_eq_true z2, decide_eq_true z3]; rfl)] at hi
               injection hi with hi
               have he := HEE.out
               rw [← hi, if_pos rfl] at he
               injection he with he
               have hg := HG2.out
               rw [← he, if_neg (by decide)] at hg
               injection hg with hg
               subst hg
               clear z1 z2 z3 hi he
               go_wp2_with (go_at_call 47; refine (liaison_masked.calls CG.k A2 c2 ms2 o _ (Kd.C_alloc (Kd.C_below HC2.out HBI.out) _) HCC2.out HO.out).mono ?_; rintro e wj ⟨rfl, ⟨ndj, rfl⟩⟩)
               go_ret
               exact ⟨rfl, pw_below_drewN (below_alloc HBI.out _) _⟩
           ·have hxy : y = x := by omega
            subst hxy
            have hi := HII.out
            rw [List.drop_eq_nil_of_le (by rw [List.length_take]; omega)] at hi
            unfold CG.inn at hi
            injection hi with hi
            have he := HEE.out
            rw [← hi, if_neg (by decide)] at he
            injection he with he
            have hg := HG2.out
            rw [← he, if_pos rfl] at hg
            have HG3 : Aside0 (CG.go l0 a1 (y + 1).toNat (l0.drop (y + 1).toNat) = some r) := ⟨by rw [show (y + 1).toNat = y.toNat + 1 by omega] at hg ⊢; exact hg⟩
            clear hi he hg
            go_wp2
            go_roundw
            case rel => exact ⟨y + 1, by go_num, by omega, by omega, HG3, HBI⟩
            case measure => simp [intOf]; omega
    ·go_wp2
     go_ret
     have hg := HG.out
     have e : x = l0.length := by omega
     rw [e, show ((l0.length : Int)).toNat = l0.length by omega, List.drop_length] at hg
     unfold CG.go at hg
     injection hg with hg
     subst hg
     exact ⟨rfl, HB.out⟩
end
end Go.Proofs.YtbghfbhlbfcloaaDoor.PL
namespace Go.Proofs.YtbghfbhlbfcloaaDoor.PL
section
open Go.RowKit Go.Proofs.YtbghfbhlbfcloaaDoorW.PrintWords Go.Proofs.YtbghfbhlbfcloaaDoorW.PrintLast Go.Proofs.YtbghfbhlbfcloaaDoorW.PrintMore
attribute [local go_sem] max2_int min2_int max_two min_two max_three min_three max_four min_four   -- for this text's walks alone
set_option linter.unusedVariables false
set_option linter.unusedSimpArgs false
/-! ### liaison_CheckGroups: function 29 -/
def liaison_CheckGroups.f (l0 : List (S57)) (a1 : Int) : Option (Int) := CG.f l0 a1
theorem liaison_CheckGroups.calls (A0 : Option Addr) (c0 : Nat) (l0 : List (S57)) (a1 : Int) (r : Int) (w : World) (hr0 : Kd.C k57 w A0 l0.length l0) (hc0 : l0.length ≤ c0) (h : liaison_CheckGroups.f l0 a1 = some r) :
  Calls Tryd.prog 29 #[.slice A0 l0.length c0, .int .i64 a1] w fun e w' => e = .returned (.int .i64 r) ∧ Below w.heap.size w w' :=
  CG.calls A0 c0 l0 a1 r w hr0 hc0 h
end
end Go.Proofs.YtbghfbhlbfcloaaDoor.PL
namespace Go.Proofs.YtbghfbhlbfcloaaDoor.PL
section
open Go.RowKit Go.Proofs.YtbghfbhlbfcloaaDoorW.PrintWords Go.Proofs.YtbghfbhlbfcloaaDoorW.PrintLast Go.Proofs.YtbghfbhlbfcloaaDoorW.PrintMore
attribute [local go_sem] max2_int min2_int max_two min_two max_three min_three max_four min_four   -- for this text's walks alone
set_option linter.unusedVariables false
set_option linter.unusedSimpArgs false
/-! ### liaison_Parents: function 26 -/
mutual
def liaison_Parents.l0 : Nat → List (S57) → List Int → List (S57) → Int → Int → Option (List Int × Int)
 | 0, _, _, _, _, _ => none
 | k + 1, x0, x7, x19, x20, x21 => if x21 < x20 then (if 0 ≤ x21 then (if x21 < (x19.length : Int) then (liaison_Parents.l1 k x0 x7 (-1) x19 x20 x21 x0 (x0.length : Int) 0 ((rd_T57 x19 x21).f0) ((rd_T57 x19 x21).f1)) else (none)) else (none)) else (some (x7, 0))
def liaison_Parents.l1 : Nat → List (S57) → List Int → Int → List (S57) → Int → Int → List (S57) → Int → Int → ByteArray → List Int → Option (List Int × Int)
 | 0, _, _, _, _, _, _, _, _, _, _, _ => none
 | k + 1, x0, x7, x10, x19, x20, x21, x25, x26, x27, x486000, x486001 => if x27 < x26 then (if 0 ≤ x27 then (if x27 < (x25.length : Int) then ((liaison_inside.f k x486000 x486001 ((rd_T57 x25 x27).f0) ((rd_T57 x25 x27).f1)).bind fun t488 => (if t488 = true then (if x10 < 0 then (liaison_Parents.l1 k x0 x7 x27 x19 x20 x21 x25 x26 (wrap64 (x27 + 1)) x486000 x486001) else (if 0 ≤ x10 then (if x10 < (x0.length : Int) then (if (((rd_T57 x25 x27).f1).length : Int) < (((rd_T57 x0 x10).f1).length : Int) then (liaison_Parents.l1 k x0 x7 x27 x19 x20 x21 x25 x26 (wrap64 (x27 + 1)) x486000 x486001) else (liaison_Parents.l1 k x0 x7 x10 x19 x20 x21 x25 x26 (wrap64 (x27 + 1)) x486000 x486001)) else (none)) else (none))) else (liaison_Parents.l1 k x0 x7 x10 x19 x20 x21 x25 x26 (wrap64 (x27 + 1)) x486000 x486001))) else (none)) else (none)) else (if x7.length < 17592186044416 then (liaison_Parents.l0 k x0 (x7 ++ [x10]) x19 x20 (wrap64 (x21 + 1))) else (none))
end
def liaison_Parents.f (k : Nat) (l0 : List (S57)) (a1 : Int) : Option (List Int × Int) := (liaison_CheckGroups.f l0 a1).bind fun t483 => (if t483 = 0 then (liaison_Parents.l0 k l0 ([] : List Int) l0 (l0.length : Int) 0) else (some (([] : List Int), t483)))
theorem liaison_Parents.mono_l : ∀ k, (∀ y0 y1 y2 y3 y4, LeO (liaison_Parents.l0 k y0 y1 y2 y3 y4) (liaison_Parents.l0 (k + 1) y0 y1 y2 y3 y4)) ∧ (∀ y0 y1 y2 y3 y4 y5 y6 y7 y8 y9 y10, LeO (liaison_Parents.l1 k y0 y1 y2 y3 y4 y5 y6 y7 y8 y9 y10) (liaison_Parents.l1 (k + 1) y0 y1 y2 y3 y4 y5 y6 y7 y8 y9 y10))
 | 0 => ⟨fun _ _ _ _ _ r h => by simp [liaison_Parents.l0] at h, fun _ _ _ _ _ _ _ _ _ _ _ r h => by simp [liaison_Parents.l1] at h⟩
 | k + 1 => by
  obtain ⟨ih0, ih1⟩ := liaison_Parents.mono_l k
  refine ⟨?_, ?_⟩
  ·intro y0 y1 y2 y3 y4
   unfold liaison_Parents.l0
   repeat' first
   | (with_reducible exact ih0 _ _ _ _ _)
   | (with_reducible exact ih1 _ _ _ _ _ _ _ _ _ _ _)
   | (with_reducible exact liaison_inside.mono _ _ _ _ _)
   | (with_reducible exact LeO.refl _)
   | (with_reducible exact LeO.none _)
   | (with_reducible refine LeO.ite ?_ ?_)
   | (with_reducible refine LeO.bind ?_ (fun _ => ?_))
   | exact ih0 _ _ _ _ _
   | exact ih1 _ _ _ _ _ _ _ _ _ _ _
   | exact liaison_inside.mono _ _ _ _ _
   | exact LeO.none _
   | refine LeO.ite ?_ ?_
   | refine LeO.bind ?_ (fun _ => ?_)
  ·intro y0 y1 y2 y3 y4 y5 y6 y7 y8 y9 y10
   unfold liaison_Parents.l1
   repeat' first
   | (with_reducible exact ih0 _ _ _ _ _)
   | (with_reducible exact ih1 _ _ _ _ _ _ _ _ _ _ _)
   | (with_reducible exact liaison_inside.mono _ _ _ _ _)
   | (with_reducible exact LeO.refl _)
   | (with_reducible exact LeO.none _)
   | (with_reducible refine LeO.ite ?_ ?_)
   | (with_reducible refine LeO.bind ?_ (fun _ => ?_))
   | exact ih0 _ _ _ _ _
   | exact ih1 _ _ _ _ _ _ _ _ _ _ _
   | exact liaison_inside.mono _ _ _ _ _
   | exact LeO.none _
   | refine LeO.ite ?_ ?_
   | refine LeO.bind ?_ (fun _ => ?_)
theorem liaison_Parents.mono : ∀ a0 a1 k, LeO (liaison_Parents.f k a0 a1) (liaison_Parents.f (k + 1) a0 a1) := by
 intro a0 a1 k
 obtain ⟨ih0, ih1⟩ := liaison_Parents.mono_l k
 unfold liaison_Parents.f
 repeat' first
   | (with_reducible exact ih0 _ _ _ _ _)
   | (with_reducible exact ih1 _ _ _ _ _ _ _ _ _ _ _)
   | (with_reducible exact liaison_inside.mono _ _ _ _ _)
   | (with_reducible exact LeO.refl _)
   | (with_reducible exact LeO.none _)
   | (with_reducible refine LeO.ite ?_ ?_)
   | (with_reducible refine LeO.bind ?_ (fun _ => ?_))
   | exact ih0 _ _ _ _ _
   | exact ih1 _ _ _ _ _ _ _ _ _ _ _
   | exact liaison_inside.mono _ _ _ _ _
   | exact LeO.none _
   | refine LeO.ite ?_ ?_
   | refine LeO.bind ?_ (fun _ => ?_)
def liaison_Parents.T12 : Bool × List (List Nat × List Nat) := (true, [([], []), ([], []), ([0, 1], [0, 1]), ([2, 2], [2]), ([3], [3]), ([4, 3], [3, 4]), ([5, 3, 3], [3, 5]), ([6], [6]), ([7, 6], [6, 7]), ([8, 6], [6, 8]), ([6], [6]), ([6], [6]), ([10, 11, 6], [6, 10, 11]), ([12, 6], [6, 12]), ([13, 6], [6, 13]), ([14, 6], [6, 14]), ([9, 15, 6], [6, 9, 15]), ([6, 16, 3], [3, 6, 16]), ([3, 17], [3, 17])])
def liaison_Parents.B12 : List Nat := [0, 0, 3, 7, 15, 31, 63, 127, 255, 511, 127, 127, 3199, 7295, 15487, 31871, 65535, 131071, 262143]
theorem liaison_Parents.tab12 : rtab .any (opsOf Tryd.f26 12) = liaison_Parents.T12 := by kernel_rfl
theorem liaison_Parents.bits12 : waitsOk liaison_Parents.T12.2 liaison_Parents.B12 = true := by kernel_rfl
set_option maxHeartbeats 8000000 in
set_option maxRecDepth 100000 in
theorem liaison_Parents.calls (k : Nat) (A0 : Option Addr) (c0 : Nat) (l0 : List (S57)) (a1 : Int) (r1 : List Int) (r2 : Int) (w : World) (hr0 : Kd.C k57 w A0 l0.length l0) (hc0 : l0.length ≤ c0) (h : liaison_Parents.f k l0 a1 = some (r1, r2)) :
  Calls Tryd.prog 26 #[.slice A0 l0.length c0, .int .i64 a1] w fun e w' => ∃ v0_ : Value, e = .returned (.tuple #[v0_, .int .i64 r2]) ∧ Kd.R (Kd.int .i64) 3 w' w.heap.size (fun _ => True) v0_ r1 ∧ Below w.heap.size w w' := by
 have hu57 := Tryd.underlying57
 have HR0 := Aside0.mk hr0
 have HC0 := Aside0.mk hc0
 clear hr0 hc0
 have HB := Aside0.mk (Below.refl w.heap.size w)
 have H : ((liaison_CheckGroups.f l0 a1).bind fun t483 => (if t483 = 0 then (liaison_Parents.l0 k l0 ([] : List Int) l0 (l0.length : Int) 0) else (some (([] : List Int), t483)))) = some (r1, r2) := h
 clear h
 replace H := Option.bind_eq_some_iff.mp H
 obtain ⟨t483, A30, H⟩ := H
 replace H : (if t483 = 0 then (liaison_Parents.l0 k l0 ([] : List Int) l0 (l0.length : Int) 0) else (some (([] : List Int), t483))) = some (r1, r2) := H
 have A3 := Aside0.mk A30
 clear A30
 by_cases c4 : t483 = 0
 ·rw [if_pos c4] at H
  have c4b0 : (t483 == 0) = true := beq_iff_eq.mpr c4
  have c4b1 : (t483 != 0) = false := bne_eq_false_iff_eq.mpr c4
  clear c4
  have H' := Aside0.mk H
  clear H
  go_enter Tryd.func26, Tryd.ntmps26
  go_wp2_with (first | ((with_reducible refine gate_callee (f := 29) rfl ?_); refine goesL_ (some 15) rfl rfl Tryd.func29 (by kernel_rfl) rfl #[.slice A0 l0.length c0, .int .i64 a1] rfl (by (try simp only [List.map_toArray, List.map_cons, List.map_nil]); first | done | rfl | (simp only [List.length_drop, List.length_take]; rfl)) ?_; (with_reducible refine (liaison_CheckGroups.calls _ _ l0 a1 t483 _ ?side1 ?side2 A3.out).mono ?_); (case side1 => repeat (first | exact HR0.out | (with_reducible refine Kd.C_alloc ?_ _) | (with_reducible refine Kd.C_drewN ?_ _) | (with_reducible refine Kd.C_drew ?_))); (case side2 => exact HC0.out); rintro e w5 ⟨rfl, hb⟩; refine ⟨_, rfl, ?_⟩; have n0_ := Aside0.mk (below_step (by repeat (first | (with_reducible first | exact HB.out | apply below_alloc | apply pw_below_drewN | apply below_drew1) | exact HB.out)) hb); clear HB; have HB := n0_; clear n0_; (try clear hb); (try clear hb2); (try clear hk); (try clear hi)))
  go_loopg [7, 21] k (fun kq v7 v21 w' => ∃ (x7_1 : List Int) (x21_1 : Int), v21 = .int .i64 x21_1 ∧ Aside0 (liaison_Parents.l0 kq l0 x7_1 l0 (l0.length : Int) x21_1 = some (r1, r2)) ∧ Aside0 (kq ≤ k) ∧ Aside0 (Kd.R (Kd.int .i64) 3 w' w.heap.size (fun _ => True) v7 x7_1) ∧ Aside0 (Below w.heap.size w w'))
  case atStart => exact ⟨(([] : List Int)), (0), (by first | rfl | (simp; done) | (simp [*]; done)), H', ⟨Nat.le_refl _⟩, ⟨by first | exact Kd.R_nil _ _ _ _ _ | exact Kd.N_nil _ _ _ _ _ | exact Kd.V_nil _ _ _ _ _ | exact Kd.Q_nil _ _ _ _ _ | exact Kd.S_nil _ _ _ _ _⟩, ⟨by repeat (first | (with_reducible first | exact HB.out | apply below_alloc | apply pw_below_drewN | apply below_drew1) | exact HB.out)⟩⟩
  case round =>
   clear H'
   try clear c2
   try clear p2
   try clear c4
   try clear c4b0
   try clear c4b1
   obtain ⟨x7_1, x21_1, rfl, HA, HK1, HO_7, HB⟩ := hrel
   cases gk with
   | zero => exact absurd HA.out (by simp [liaison_Parents.l0])
   | succ k1 =>
    have H := HA.out
    clear HA
    simp only [liaison_Parents.l0] at H
    by_cases c6 : x21_1 < (l0.length : Int)
    ·rw [if_pos c6] at H
     have c6b0 : decide (x21_1 < (l0.length : Int)) = true := decide_eq_true c6
     clear c6
     by_cases c7 : 0 ≤ x21_1
     ·rw [if_pos c7] at H
      have c7b0 : decide (0 ≤ x21_1) = true := decide_eq_true c7
      clear c7
      by_cases c8 : x21_1 < (l0.length : Int)
      ·rw [if_pos c8] at H
       have c8b0 : decide (x21_1 < (l0.length : Int)) = true := decide_eq_true c8
       clear c8
       have H' := Aside0.mk H
       clear H
       have p484 : 0 ≤ (x21_1 : Int) := of_decide_eq_true (by first | (with_reducible assumption) | assumption)
       have q484 : x21_1 < (l0.length : Int) := of_decide_eq_true (by first | (with_reducible assumption) | assumption)
       obtain ⟨ad484, A484_1, c484_1, e484, hx484_0, hx484_1, hl484_1, hi484_1⟩ := at_T57 HR0.out x21_1 p484 q484
       cases e484
       replace hx484_0 := (HB.out.cell (World.block_lt_of_cell? w _ hx484_0)).trans hx484_0
       replace hx484_1 := (HB.out.cell (World.block_lt_of_cell? w _ hx484_1)).trans hx484_1
       have HR484_1 := Aside0.mk hi484_1
       have HC484_1 := Aside0.mk hl484_1
       clear hi484_1 hl484_1
       replace p484 := eq_true p484
       replace q484 := eq_true q484
       go_wp2_with (first | ((with_reducible refine gate_dst (N := 9) rfl ?_); (try (refine gate_guard (by rfl) ?_; dsimp only)); refine box_event ?hg (N := 9) ?hd (cs := #[.string (⟨#[]⟩ : ByteArray), .slice none 0 0]) (t := 57) ?hr ?_; (case hd => rfl); (case hg => rfl); (case hr => first | (go_simp; done) | (go_simp; rfl)); intro gb485 hg w9 hbox hb; have n0_ := Aside0.mk (Kd.R_below (by (with_reducible repeat (first | apply Kd.R_alloc | apply Kd.R_drewN | apply Kd.R_drew)); exact HO_7.out) hb); have n1_ := Aside0.mk (below_step (by repeat (first | (with_reducible first | exact HB.out | apply below_alloc | apply pw_below_drewN | apply below_drew1) | exact HB.out)) hb); have n2_ := Aside0.mk (hbox); have n3_ := Aside0.mk ((by rw [hg]; exact (below_size (by repeat (first | (with_reducible first | exact HB.out | apply below_alloc | apply pw_below_drewN | apply below_drew1) | exact HB.out))) : w.heap.size ≤ gb485)); have n4_ := Aside0.mk ((by rw [hg]; exact (below_size (by repeat (first | (with_reducible first | exact HB.out | apply below_alloc | apply pw_below_drewN | apply below_drew1) | exact HB.out))) : w.heap.size ≤ gb485)); clear HO_7; clear HB; have HO_7 := n0_; have HB := n1_; have BK485 := n2_; have GW485 := n3_; have GE485 := n4_; clear n0_ n1_ n2_ n3_ n4_; clear hb hbox hg; have hcz10_0 : w9.cell? ⟨gb485, 0, none⟩ = some (.string (⟨#[]⟩ : ByteArray)) := (blk_cell BK485.out 0).trans rfl; have hcz10_1 : w9.cell? ⟨gb485, 1, none⟩ = some (.slice none 0 0) := (blk_cell BK485.out 1).trans rfl; have hfz10_0 := blk_frozen BK485.out 0; have hfz10_1 := blk_frozen BK485.out 1))
       go_loopg [10, 27] k1 (fun kq v10 v27 w' => ∃ (x10_2 : Int) (x27_2 : Int), v10 = .int .i64 x10_2 ∧ v27 = .int .i64 x27_2 ∧ Aside0 (liaison_Parents.l1 kq l0 x7_1 x10_2 l0 (l0.length : Int) x21_1 l0 (l0.length : Int) x27_2 ((rd_T57 l0 x21_1).f0) ((rd_T57 l0 x21_1).f1) = some (r1, r2)) ∧ Aside0 (kq ≤ k1) ∧ Aside0 (Kd.R (Kd.int .i64) 3 w' w.heap.size (fun _ => True) u7 x7_1) ∧ Aside0 (w'.heap[gb485]? = some (.cells #[.string ((rd_T57 l0 x21_1).f0), (.slice A484_1 ((rd_T57 l0 x21_1).f1).length c484_1)] 57 (0, 0))) ∧ Aside0 (Below w.heap.size w w'))
       case atStart => exact ⟨((-1)), (0), (by first | rfl | (simp; done) | (simp [*]; done)), (by first | rfl | (simp; done) | (simp [*]; done)), H', ⟨Nat.le_refl _⟩, ⟨by (with_reducible repeat (first | apply Kd.R_alloc | apply Kd.R_drewN | apply Kd.R_drew)); exact Kd.R_mono (Kd.R_far (p := ⟨gb485, 1, none⟩) (Kd.R_far (p := ⟨gb485, 0, none⟩) (Kd.R_types HO_7.out BK485.out (by decide)) (fun _ hk => hk.2) (.string ((rd_T57 l0 x21_1).f0))) (fun _ hk => hk.2) (.slice A484_1 ((rd_T57 l0 x21_1).f1).length c484_1)) (fun _ hk => trivial)⟩, ⟨by (with_reducible repeat (first | refine blk_drewN ?_ _ | refine blk_drew ?_ | refine blk_alloc ?_ _)); refine blk_put (cs := #[.string ((rd_T57 l0 x21_1).f0), .slice none 0 0]) ?_ 1 _ rfl; (with_reducible repeat (first | refine blk_drewN ?_ _ | refine blk_drew ?_ | refine blk_alloc ?_ _)); refine blk_put (cs := #[.string (⟨#[]⟩ : ByteArray), .slice none 0 0]) ?_ 0 _ rfl; (with_reducible repeat (first | refine blk_drewN ?_ _ | refine blk_drew ?_ | refine blk_alloc ?_ _)); exact BK485.out⟩, ⟨by repeat (first | (with_reducible first | exact HB.out | apply below_alloc | apply pw_below_drewN | apply below_drew1 | refine below_set ?_ GE485.out) | exact HB.out)⟩⟩
       case round =>
        clear H'
        try clear c2
        try clear p2
        try clear c4
        try clear c4b0
        try clear c4b1
        try clear p4
        try clear q4
        try clear hx4
        try clear c6
        try clear c6b0
        try clear c7
        try clear c7b0
        try clear c8
        try clear c8b0
        try clear hcz10_0
        try clear hcz10_1
        try clear hfz10_0
        try clear hfz10_1
        try clear hx484_0
        try clear hx484_1
        try clear p2
        try clear p484
        try clear q484
        obtain ⟨x10_2, x27_2, rfl, rfl, HA, HK2, HO_7, BK485, HB⟩ := hrel
        cases gk with
        | zero => exact absurd HA.out (by simp [liaison_Parents.l1])
        | succ k2 =>
         have H := HA.out
         clear HA
         simp only [liaison_Parents.l1] at H
         by_cases c11 : x27_2 < (l0.length : Int)
         ·rw [if_pos c11] at H
          have c11b0 : decide (x27_2 < (l0.length : Int)) = true := decide_eq_true c11
          clear c11
          by_cases c12 : 0 ≤ x27_2
          ·rw [if_pos c12] at H
           have c12b0 : decide (0 ≤ x27_2) = true := decide_eq_true c12
           clear c12
           by_cases c13 : x27_2 < (l0.length : Int)
           ·rw [if_pos c13] at H
            have c13b0 : decide (x27_2 < (l0.length : Int)) = true := decide_eq_true c13
            clear c13
            replace H := Option.bind_eq_some_iff.mp H
            obtain ⟨t488, A140, H⟩ := H
            replace H : (if t488 = true then (if x10_2 < 0 then (liaison_Parents.l1 k2 l0 x7_1 x27_2 l0 (l0.length : Int) x21_1 l0 (l0.length : Int) (wrap64 (x27_2 + 1)) ((rd_T57 l0 x21_1).f0) ((rd_T57 l0 x21_1).f1)) else (if 0 ≤ x10_2 then (if x10_2 < (l0.length : Int) then (if (((rd_T57 l0 x27_2).f1).length : Int) < (((rd_T57 l0 x10_2).f1).length : Int) then (liaison_Parents.l1 k2 l0 x7_1 x27_2 l0 (l0.length : Int) x21_1 l0 (l0.length : Int) (wrap64 (x27_2 + 1)) ((rd_T57 l0 x21_1).f0) ((rd_T57 l0 x21_1).f1)) else (liaison_Parents.l1 k2 l0 x7_1 x10_2 l0 (l0.length : Int) x21_1 l0 (l0.length : Int) (wrap64 (x27_2 + 1)) ((rd_T57 l0 x21_1).f0) ((rd_T57 l0 x21_1).f1))) else (none)) else (none))) else (liaison_Parents.l1 k2 l0 x7_1 x10_2 l0 (l0.length : Int) x21_1 l0 (l0.length : Int) (wrap64 (x27_2 + 1)) ((rd_T57 l0 x21_1).f0) ((rd_T57 l0 x21_1).f1))) = some (r1, r2) := H
            have A14 := Aside0.mk A140
            clear A140
            by_cases c15 : t488 = true
            ·subst c15
             have H1 : (if x10_2 < 0 then (liaison_Parents.l1 k2 l0 x7_1 x27_2 l0 (l0.length : Int) x21_1 l0 (l0.length : Int) (wrap64 (x27_2 + 1)) ((rd_T57 l0 x21_1).f0) ((rd_T57 l0 x21_1).f1)) else (if 0 ≤ x10_2 then (if x10_2 < (l0.length : Int) then (if (((rd_T57 l0 x27_2).f1).length : Int) < (((rd_T57 l0 x10_2).f1).length : Int) then (liaison_Parents.l1 k2 l0 x7_1 x27_2 l0 (l0.length : Int) x21_1 l0 (l0.length : Int) (wrap64 (x27_2 + 1)) ((rd_T57 l0 x21_1).f0) ((rd_T57 l0 x21_1).f1)) else (liaison_Parents.l1 k2 l0 x7_1 x10_2 l0 (l0.length : Int) x21_1 l0 (l0.length : Int) (wrap64 (x27_2 + 1)) ((rd_T57 l0 x21_1).f0) ((rd_T57 l0 x21_1).f1))) else (none)) else (none))) = some (r1, r2) := by rw [if_pos rfl] at H; exact H
             clear H
             have H := H1
             clear H1
             by_cases c16 : x10_2 < 0
             ·rw [if_pos c16] at H
              have c16b0 : decide (x10_2 < 0) = true := decide_eq_true c16
              clear c16
              have H' := Aside0.mk H
              clear H
              have p486 : 0 ≤ (x27_2 : Int) := of_decide_eq_true (by first | (with_reducible assumption) | assumption)
              have q486 : x27_2 < (l0.length : Int) := of_decide_eq_true (by first | (with_reducible assumption) | assumption)
              obtain ⟨ad486, A486_1, c486_1, e486, hx486_0, hx486_1, hl486_1, hi486_1⟩ := at_T57 HR0.out x27_2 p486 q486
              obtain rfl : ad484 = ad486 := (by injection e486)
              replace hx486_0 := (HB.out.cell (World.block_lt_of_cell? w _ hx486_0)).trans hx486_0
              replace hx486_1 := (HB.out.cell (World.block_lt_of_cell? w _ hx486_1)).trans hx486_1
              have HR486_1 := Aside0.mk hi486_1
              have HC486_1 := Aside0.mk hl486_1
              clear hi486_1 hl486_1
              replace p486 := eq_true p486
              replace q486 := eq_true q486
              try go_wp2_with (first | ((with_reducible refine gate_dst (N := 12) rfl ?_); (try (refine gate_guard (by rfl) ?_; dsimp only)); refine box_event ?hg (N := 12) ?hd (cs := #[.string (⟨#[]⟩ : ByteArray), .slice none 0 0]) (t := 57) ?hr ?_; (case hd => rfl); (case hg => rfl); (case hr => first | (go_simp; done) | (go_simp; rfl)); intro gb487 hg w17 hbox hb; have n0_ := Aside0.mk (Kd.R_below (by (with_reducible repeat (first | apply Kd.R_alloc | apply Kd.R_drewN | apply Kd.R_drew)); exact HO_7.out) hb); have n1_ := Aside0.mk (blk_below (g := gb485) (o := .cells #[.string ((rd_T57 l0 x21_1).f0), .slice A484_1 ((rd_T57 l0 x21_1).f1).length c484_1] 57 (0, 0)) (by (with_reducible repeat (first | refine blk_drewN ?_ _ | refine blk_drew ?_ | refine blk_alloc ?_ _)); exact BK485.out) hb); have n2_ := Aside0.mk (below_step (by repeat (first | (with_reducible first | exact HB.out | apply below_alloc | apply pw_below_drewN | apply below_drew1 | refine below_set ?_ GE485.out) | exact HB.out)) hb); have n3_ := Aside0.mk (hbox); have n4_ := Aside0.mk ((by rw [hg]; exact (below_size (by repeat (first | (with_reducible first | exact HB.out | apply below_alloc | apply pw_below_drewN | apply below_drew1 | refine below_set ?_ GE485.out) | exact HB.out))) : w.heap.size ≤ gb487)); have n5_ := Aside0.mk ((by rw [hg]; exact (below_size (by repeat (first | (with_reducible first | exact HB.out | apply below_alloc | apply pw_below_drewN | apply below_drew1 | refine below_set ?_ GE485.out) | exact HB.out))) : w.heap.size ≤ gb487)); have n6_ := Aside0.mk ((by rw [hg]; exact Nat.ne_of_lt (blk_lt (g := gb485) (o := .cells #[.string ((rd_T57 l0 x21_1).f0), .slice A484_1 ((rd_T57 l0 x21_1).f1).length c484_1] 57 (0, 0)) (by (with_reducible repeat (first | refine blk_drewN ?_ _ | refine blk_drew ?_ | refine blk_alloc ?_ _)); exact BK485.out)) : gb485 ≠ gb487)); have n7_ := Aside0.mk ((by rw [hg]; exact Nat.ne_of_gt (blk_lt (g := gb485) (o := .cells #[.string ((rd_T57 l0 x21_1).f0), .slice A484_1 ((rd_T57 l0 x21_1).f1).length c484_1] 57 (0, 0)) (by (with_reducible repeat (first | refine blk_drewN ?_ _ | refine blk_drew ?_ | refine blk_alloc ?_ _)); exact BK485.out)) : gb487 ≠ gb485)); clear HO_7; clear BK485; clear HB; have HO_7 := n0_; have BK485 := n1_; have HB := n2_; have BK487 := n3_; have GW487 := n4_; have GE487 := n5_; have NB485_487 := n6_; have NB487_485 := n7_; clear n0_ n1_ n2_ n3_ n4_ n5_ n6_ n7_; clear hb hbox hg; have hnb18 := NB487_485.out; have hnc18 := NB485_487.out; have hcz19_0 : w17.cell? ⟨gb487, 0, none⟩ = some (.string (⟨#[]⟩ : ByteArray)) := (blk_cell BK487.out 0).trans rfl; have hcz19_1 : w17.cell? ⟨gb487, 1, none⟩ = some (.slice none 0 0) := (blk_cell BK487.out 1).trans rfl; have hfz19_0 := blk_frozen BK487.out 0; have hfz19_1 := blk_frozen BK487.out 1))
              have n0_ : Aside0 (Kd.R (Kd.int .i64) 3 ((w17.setCell ⟨gb487, 0, none⟩ (.string ((rd_T57 l0 x27_2).f0))).setCell ⟨gb487, 1, none⟩ (.slice A486_1 ((rd_T57 l0 x27_2).f1).length c486_1)) w.heap.size (fun _ => True) u7 x7_1) := ⟨by (with_reducible repeat (first | apply Kd.R_alloc | apply Kd.R_drewN | apply Kd.R_drew)); exact Kd.R_mono (Kd.R_far (p := ⟨gb487, 1, none⟩) (Kd.R_far (p := ⟨gb487, 0, none⟩) (Kd.R_types HO_7.out BK487.out (by decide)) (fun _ hk => hk.2) (.string ((rd_T57 l0 x27_2).f0))) (fun _ hk => hk.2) (.slice A486_1 ((rd_T57 l0 x27_2).f1).length c486_1)) (fun _ hk => trivial)⟩
              have n1_ : Aside0 (((w17.setCell ⟨gb487, 0, none⟩ (.string ((rd_T57 l0 x27_2).f0))).setCell ⟨gb487, 1, none⟩ (.slice A486_1 ((rd_T57 l0 x27_2).f1).length c486_1)).heap[gb485]? = some (.cells #[.string ((rd_T57 l0 x21_1).f0), .slice A484_1 ((rd_T57 l0 x21_1).f1).length c484_1] 57 (0, 0))) := ⟨by (with_reducible repeat (first | refine blk_drewN ?_ _ | refine blk_drew ?_ | refine blk_alloc ?_ _)); refine blk_far ?_ NB485_487.out _; (with_reducible repeat (first | refine blk_drewN ?_ _ | refine blk_drew ?_ | refine blk_alloc ?_ _)); refine blk_far ?_ NB485_487.out _; (with_reducible repeat (first | refine blk_drewN ?_ _ | refine blk_drew ?_ | refine blk_alloc ?_ _)); exact BK485.out⟩
              have n2_ : Aside0 (((w17.setCell ⟨gb487, 0, none⟩ (.string ((rd_T57 l0 x27_2).f0))).setCell ⟨gb487, 1, none⟩ (.slice A486_1 ((rd_T57 l0 x27_2).f1).length c486_1)).heap[gb487]? = some (.cells #[.string ((rd_T57 l0 x27_2).f0), .slice A486_1 ((rd_T57 l0 x27_2).f1).length c486_1] 57 (0, 0))) := ⟨by (with_reducible repeat (first | refine blk_drewN ?_ _ | refine blk_drew ?_ | refine blk_alloc ?_ _)); refine blk_put (cs := #[.string ((rd_T57 l0 x27_2).f0), .slice none 0 0]) ?_ 1 _ rfl; (with_reducible repeat (first | refine blk_drewN ?_ _ | refine blk_drew ?_ | refine blk_alloc ?_ _)); refine blk_put (cs := #[.string (⟨#[]⟩ : ByteArray), .slice none 0 0]) ?_ 0 _ rfl; (with_reducible repeat (first | refine blk_drewN ?_ _ | refine blk_drew ?_ | refine blk_alloc ?_ _)); exact BK487.out⟩
              have n3_ : Aside0 (Below w.heap.size w ((w17.setCell ⟨gb487, 0, none⟩ (.string ((rd_T57 l0 x27_2).f0))).setCell ⟨gb487, 1, none⟩ (.slice A486_1 ((rd_T57 l0 x27_2).f1).length c486_1))) := ⟨by repeat (first | (with_reducible first | exact HB.out | apply below_alloc | apply pw_below_drewN | apply below_drew1 | refine below_set ?_ GE485.out | refine below_set ?_ GE487.out) | exact HB.out)⟩
              (try clear HO_7)
              (try clear BK485)
              (try clear BK487)
              (try clear HB)
              generalize ((w17.setCell ⟨gb487, 0, none⟩ (.string ((rd_T57 l0 x27_2).f0))).setCell ⟨gb487, 1, none⟩ (.slice A486_1 ((rd_T57 l0 x27_2).f1).length c486_1)) = w20 at n0_ n1_ n2_ n3_ ⊢
              have HO_7 := n0_
              have BK485 := n1_
              have BK487 := n2_
              have HB := n3_
              clear n0_ n1_ n2_ n3_
              have n0_ := Aside0.mk (Kd.R_drew HO_7.out)
              have n1_ := Aside0.mk (blk_drew BK485.out)
              have n2_ := Aside0.mk (blk_drew BK487.out)
              have n3_ := Aside0.mk (below_drew1 HB.out)
              clear HO_7
              clear BK485
              clear BK487
              clear HB
              have HO_7 := n0_
              have BK485 := n1_
              have BK487 := n2_
              have HB := n3_
              clear n0_ n1_ n2_ n3_
              refine start_ (n := 19) (S := fun w' => w'.cell? ⟨gb485, 0, none⟩ = some (.string ((rd_T57 l0 x21_1).f0)) ∧ w'.cell? ⟨gb485, 1, none⟩ = some (.slice A484_1 ((rd_T57 l0 x21_1).f1).length c484_1) ∧ w'.cell? ⟨gb487, 0, none⟩ = some (.string ((rd_T57 l0 x27_2).f0)) ∧ w'.cell? ⟨gb487, 1, none⟩ = some (.slice A486_1 ((rd_T57 l0 x27_2).f1).length c486_1)) (ds := []) #[false, false, false, false, false, false, false, false, false, false, false, false, false, false, false, false, false, false, false] (by kernel_rfl) rfl rfl ⟨(blk_cell BK485.out 0).trans rfl, (blk_cell BK485.out 1).trans rfl, (blk_cell BK487.out 0).trans rfl, (blk_cell BK487.out 1).trans rfl⟩ (fun hHeld => ?_); refine with_tabW liaison_Parents.tab12 liaison_Parents.bits12 (fun HT_ HW_ => ?_)
              generalize w20.drew = w21 at HO_7 BK485 BK487 HB hHeld ⊢
              refine take_ (i := 0) (N := some 32) (v := ?_) (a' := ?_) #[true, false, false, false, false, false, false, false, false, false, false, false, false, false, false, false, false, false, false] rfl rfl (take_ofW HT_.out HW_.out (by kernel_rfl)) (fun _ _ _ h => h) (Or.inl ⟨by rfl, ?_⟩) hHeld ?_ ?_
              rotate_left
              ·rintro w' ⟨s0, s1, s2, s3⟩
               go_simp
               with_reducible rfl
              rotate_left
              ·simp only [Act.put, List.setIfInBounds_toArray, List.set_cons_zero, List.set_cons_succ, i64_w, i32_w]
               rfl
              refine take_ (i := 1) (N := some 33) (v := ?_) (a' := ?_) #[true, true, false, false, false, false, false, false, false, false, false, false, false, false, false, false, false, false, false] rfl rfl (take_ofW HT_.out HW_.out (by kernel_rfl)) (fun _ _ _ h => h) (Or.inl ⟨by rfl, ?_⟩) hHeld ?_ ?_
              rotate_left
              ·rintro w' ⟨s0, s1, s2, s3⟩
               go_simp
               with_reducible rfl
              rotate_left
              ·simp only [Act.put, List.setIfInBounds_toArray, List.set_cons_zero, List.set_cons_succ, i64_w, i32_w]
               rfl
              refine one_ (i := 2) (N := some 34) #[true, true, true, false, false, false, false, false, false, false, false, false, false, false, false, false, false, false, false] rfl rfl (one_of HT_.out (by kernel_rfl)) (by decide) (fun K hK => ?_)
              refine goes_ Tryd.func52 (by kernel_rfl) rfl #[.agg #[.string ((rd_T57 l0 x21_1).f0), .slice A484_1 ((rd_T57 l0 x21_1).f1).length c484_1], .agg #[.string ((rd_T57 l0 x27_2).f0), .slice A486_1 ((rd_T57 l0 x27_2).f1).length c486_1]] (by rfl) rfl rfl (by (try simp only [List.map_toArray, List.map_cons, List.map_nil]); first | done | rfl | (simp only [List.length_drop, List.length_take]; rfl)) ?_
              with_reducible refine (liaison_inside.calls k2 ((rd_T57 l0 x21_1).f0) _ _ ((rd_T57 l0 x21_1).f1) ((rd_T57 l0 x27_2).f0) _ _ ((rd_T57 l0 x27_2).f1) true _ ?side1 ?side2 ?side3 ?side4 A14.out).mono ?_
              (case side1 => repeat (first | exact (Kd.C_below HR484_1.out HB.out) | (with_reducible refine Kd.C_alloc ?_ _) | (with_reducible refine Kd.C_drewN ?_ _) | (with_reducible refine Kd.C_drew ?_)))
              (case side2 => exact HC484_1.out)
              (case side3 => repeat (first | exact (Kd.C_below HR486_1.out HB.out) | (with_reducible refine Kd.C_alloc ?_ _) | (with_reducible refine Kd.C_drewN ?_ _) | (with_reducible refine Kd.C_drew ?_)))
              (case side4 => exact HC486_1.out)
              rintro e w22 ⟨rfl, hb⟩
              refine ⟨_, rfl, ?_⟩
              have n0_ := Aside0.mk (Kd.R_below (by (with_reducible repeat (first | apply Kd.R_alloc | apply Kd.R_drewN | apply Kd.R_drew)); exact HO_7.out) hb)
              have n1_ := Aside0.mk (blk_below (g := gb485) (o := .cells #[.string ((rd_T57 l0 x21_1).f0), .slice A484_1 ((rd_T57 l0 x21_1).f1).length c484_1] 57 (0, 0)) (by (with_reducible repeat (first | refine blk_drewN ?_ _ | refine blk_drew ?_ | refine blk_alloc ?_ _)); exact BK485.out) hb)
              have n2_ := Aside0.mk (blk_below (g := gb487) (o := .cells #[.string ((rd_T57 l0 x27_2).f0), .slice A486_1 ((rd_T57 l0 x27_2).f1).length c486_1] 57 (0, 0)) (by (with_reducible repeat (first | refine blk_drewN ?_ _ | refine blk_drew ?_ | refine blk_alloc ?_ _)); exact BK487.out) hb)
              have n3_ := Aside0.mk (below_step (by repeat (first | (with_reducible first | exact HB.out | apply below_alloc | apply pw_below_drewN | apply below_drew1 | refine below_set ?_ GE485.out | refine below_set ?_ GE487.out) | exact HB.out)) hb)
              clear HO_7
              clear BK485
              clear BK487
              clear HB
              have HO_7 := n0_
              have BK485 := n1_
              have BK487 := n2_
              have HB := n3_
              clear n0_ n1_ n2_ n3_
              (try clear hb)
              (try clear hb2)
              (try clear hk)
              (try clear hi)
              refine hK.out _ _ ⟨(blk_cell BK485.out 0).trans rfl, (blk_cell BK485.out 1).trans rfl, (blk_cell BK487.out 0).trans rfl, (blk_cell BK487.out 1).trans rfl⟩ (fun hHeld => ?_)
              clear hK K
              refine norm_ (a' := ?_) ?_ ?_
              rotate_left
              ·show Act.put _ (some 34) _ = _
               simp only [Act.put, List.setIfInBounds_toArray, List.set_cons_zero, List.set_cons_succ, i64_w, i32_w]
               rfl
              refine pure_ (i := 3) (N := some 35) (v := ?_) (a' := ?_) #[true, true, true, true, false, false, false, false, false, false, false, false, false, false, false, false, false, false, false] rfl rfl (any_of HT_.out (by kernel_rfl)) (fun _ _ _ h => h) (Or.inl ⟨by rfl, ?_⟩) ?_ ?_
              rotate_left
              ·intro w'
               go_simp
               with_reducible rfl
              rotate_left
              ·simp only [Act.put, List.setIfInBounds_toArray, List.set_cons_zero, List.set_cons_succ, i64_w, i32_w]
               rfl
              refine pure_ (i := 4) (N := some 36) (v := ?_) (a' := ?_) #[true, true, true, true, true, false, false, false, false, false, false, false, false, false, false, false, false, false, false] rfl rfl (any_of HT_.out (by kernel_rfl)) (fun _ _ _ h => h) (Or.inl ⟨by rfl, ?_⟩) ?_ ?_
              rotate_left
              ·intro w'
               go_simp
               with_reducible rfl
              rotate_left
              ·simp only [Act.put, List.setIfInBounds_toArray, List.set_cons_zero, List.set_cons_succ, i64_w, i32_w]
               rfl
              refine pure_ (i := 5) (N := some 37) (v := ?_) (a' := ?_) #[true, true, true, true, true, true, false, false, false, false, false, false, false, false, false, false, false, false, false] rfl rfl (any_of HT_.out (by kernel_rfl)) (fun _ _ _ h => h) (Or.inl ⟨by rfl, ?_⟩) ?_ ?_
              rotate_left
              ·intro w'
               go_simp
               with_reducible rfl
              rotate_left
              ·simp only [Act.put, List.setIfInBounds_toArray, List.set_cons_zero, List.set_cons_succ, i64_w, i32_w]
               rfl
              refine pure_ (i := 6) (N := some 38) (v := ?_) (a' := ?_) #[true, true, true, true, true, true, true, false, false, false, false, false, false, false, false, false, false, false, false] rfl rfl (any_of HT_.out (by kernel_rfl)) (fun _ _ _ h => h) (Or.inl ⟨by rfl, ?_⟩) ?_ ?_
              rotate_left
              ·intro w'
               go_simp
               with_reducible rfl
              rotate_left
              ·simp only [Act.put, List.setIfInBounds_toArray, List.set_cons_zero, List.set_cons_succ, i64_w, i32_w]
               rfl
              refine pure_ (i := 7) (N := some 39) (v := undef) (a' := ?_) #[true, true, true, true, true, true, true, true, false, false, false, false, false, false, false, false, false, false, false] rfl rfl (any_of HT_.out (by kernel_rfl)) (fun _ _ _ h => h) (Or.inr ⟨by rfl, rfl⟩) ?_ ?_
              rotate_left
              ·simp only [Act.put, List.setIfInBounds_toArray, List.set_cons_zero, List.set_cons_succ, i64_w, i32_w]
               rfl
              refine pure_ (i := 8) (N := some 40) (v := undef) (a' := ?_) #[true, true, true, true, true, true, true, true, true, false, false, false, false, false, false, false, false, false, false] rfl rfl (any_of HT_.out (by kernel_rfl)) (fun _ _ _ h => h) (Or.inr ⟨by rfl, rfl⟩) ?_ ?_
              rotate_left
              ·simp only [Act.put, List.setIfInBounds_toArray, List.set_cons_zero, List.set_cons_succ, i64_w, i32_w]
               rfl
              refine pure_ (i := 9) (N := some 41) (v := undef) (a' := ?_) #[true, true, true, true, true, true, true, true, true, true, false, false, false, false, false, false, false, false, false] rfl rfl (any_of HT_.out (by kernel_rfl)) (fun _ _ _ h => h) (Or.inr ⟨by rfl, rfl⟩) ?_ ?_
              rotate_left
              ·simp only [Act.put, List.setIfInBounds_toArray, List.set_cons_zero, List.set_cons_succ, i64_w, i32_w]
               rfl
              refine pure_ (i := 10) (N := some 42) (v := undef) (a' := ?_) #[true, true, true, true, true, true, true, true, true, true, true, false, false, false, false, false, false, false, false] rfl rfl (any_of HT_.out (by kernel_rfl)) (fun _ _ _ h => h) (Or.inr ⟨by rfl, rfl⟩) ?_ ?_
              rotate_left
              ·simp only [Act.put, List.setIfInBounds_toArray, List.set_cons_zero, List.set_cons_succ, i64_w, i32_w]
               rfl
              refine pure_ (i := 11) (N := some 43) (v := undef) (a' := ?_) #[true, true, true, true, true, true, true, true, true, true, true, true, false, false, false, false, false, false, false] rfl rfl (any_of HT_.out (by kernel_rfl)) (fun _ _ _ h => h) (Or.inr ⟨by rfl, rfl⟩) ?_ ?_
              rotate_left
              ·simp only [Act.put, List.setIfInBounds_toArray, List.set_cons_zero, List.set_cons_succ, i64_w, i32_w]
               rfl
              refine pure_ (i := 12) (N := some 44) (v := undef) (a' := ?_) #[true, true, true, true, true, true, true, true, true, true, true, true, true, false, false, false, false, false, false] rfl rfl (any_of HT_.out (by kernel_rfl)) (fun _ _ _ h => h) (Or.inr ⟨by rfl, rfl⟩) ?_ ?_
              rotate_left
              ·simp only [Act.put, List.setIfInBounds_toArray, List.set_cons_zero, List.set_cons_succ, i64_w, i32_w]
               rfl
              refine pure_ (i := 13) (N := some 45) (v := undef) (a' := ?_) #[true, true, true, true, true, true, true, true, true, true, true, true, true, true, false, false, false, false, false] rfl rfl (any_of HT_.out (by kernel_rfl)) (fun _ _ _ h => h) (Or.inr ⟨by rfl, rfl⟩) ?_ ?_
              rotate_left
              ·simp only [Act.put, List.setIfInBounds_toArray, List.set_cons_zero, List.set_cons_succ, i64_w, i32_w]
               rfl
              refine pure_ (i := 14) (N := some 46) (v := undef) (a' := ?_) #[true, true, true, true, true, true, true, true, true, true, true, true, true, true, true, false, false, false, false] rfl rfl (any_of HT_.out (by kernel_rfl)) (fun _ _ _ h => h) (Or.inr ⟨by rfl, rfl⟩) ?_ ?_
              rotate_left
              ·simp only [Act.put, List.setIfInBounds_toArray, List.set_cons_zero, List.set_cons_succ, i64_w, i32_w]
               rfl
              refine pure_ (i := 15) (N := some 47) (v := undef) (a' := ?_) #[true, true, true, true, true, true, true, true, true, true, true, true, true, true, true, true, false, false, false] rfl rfl (any_of HT_.out (by kernel_rfl)) (fun _ _ _ h => h) (Or.inr ⟨by rfl, rfl⟩) ?_ ?_
              rotate_left
              ·simp only [Act.put, List.setIfInBounds_toArray, List.set_cons_zero, List.set_cons_succ, i64_w, i32_w]
               rfl
              refine pure_ (i := 16) (N := some 48) (v := undef) (a' := ?_) #[true, true, true, true, true, true, true, true, true, true, true, true, true, true, true, true, true, false, false] rfl rfl (any_of HT_.out (by kernel_rfl)) (fun _ _ _ h => h) (Or.inr ⟨by rfl, rfl⟩) ?_ ?_
              rotate_left
              ·simp only [Act.put, List.setIfInBounds_toArray, List.set_cons_zero, List.set_cons_succ, i64_w, i32_w]
               rfl
              refine pure_ (i := 17) (N := some 49) (v := ?_) (a' := ?_) #[true, true, true, true, true, true, true, true, true, true, true, true, true, true, true, true, true, true, false] rfl rfl (any_of HT_.out (by kernel_rfl)) (fun _ _ _ h => h) (Or.inl ⟨by rfl, ?_⟩) ?_ ?_
              rotate_left
              ·intro w'
               go_simp
               with_reducible rfl
              rotate_left
              ·simp only [Act.put, List.setIfInBounds_toArray, List.set_cons_zero, List.set_cons_succ, i64_w, i32_w]
               rfl
              refine pure_ (i := 18) (N := some 50) (v := ?_) (a' := ?_) #[true, true, true, true, true, true, true, true, true, true, true, true, true, true, true, true, true, true, true] rfl rfl (any_of HT_.out (by kernel_rfl)) (fun _ _ _ h => h) (Or.inl ⟨by rfl, ?_⟩) ?_ ?_
              rotate_left
              ·intro w'
               go_simp
               with_reducible rfl
              rotate_left
              ·simp only [Act.put, List.setIfInBounds_toArray, List.set_cons_zero, List.set_cons_succ, i64_w, i32_w]
               rfl
              refine done_ (done_of HT_.out (by kernel_rfl)) ?_
              try go_wp2
              go_roundg k2
              case measure => have := HK1.out; have := HK2.out; omega
              case rel => exact ⟨(x27_2), (wrap64 (x27_2 + 1)), (by first | rfl | (simp; done) | (simp [*]; done)), (by first | rfl | (simp; done) | (simp [*]; done)), H', ⟨by have := HK1.out; have := HK2.out; omega⟩, ⟨by (with_reducible repeat (first | apply Kd.R_alloc | apply Kd.R_drewN | apply Kd.R_drew)); exact HO_7.out⟩, ⟨by (with_reducible repeat (first | refine blk_drewN ?_ _ | refine blk_drew ?_ | refine blk_alloc ?_ _)); exact BK485.out⟩, ⟨by repeat (first | (with_reducible first | exact HB.out | apply below_alloc | apply pw_below_drewN | apply below_drew1 | refine below_set ?_ GE485.out | refine below_set ?_ GE487.out) | exact HB.out)⟩⟩
             ·rw [if_neg c16] at H
              have c16b0 : decide (x10_2 < 0) = false := decide_eq_false c16
              clear c16
              by_cases c23 : 0 ≤ x10_2
              ·rw [if_pos c23] at H
               have c23b0 : decide (0 ≤ x10_2) = true := decide_eq_true c23
               clear c23
               by_cases c24 : x10_2 < (l0.length : Int)
               ·rw [if_pos c24] at H
                have c24b0 : decide (x10_2 < (l0.length : Int)) = true := decide_eq_true c24
                clear c24
                by_cases c25 : (((rd_T57 l0 x27_2).f1).length : Int) < (((rd_T57 l0 x10_2).f1).length : Int)
                ·rw [if_pos c25] at H
                 have c25b0 : decide ((((rd_T57 l0 x27_2).f1).length : Int) < (((rd_T57 l0 x10_2).f1).length : Int)) = true := decide_eq_true c25
                 have c25b1 : decide (((rd_T57 l0 x27_2).f1).length < ((rd_T57 l0 x10_2).f1).length) = true := decide_eq_true (Int.ofNat_lt.mp c25)
                 clear c25
                 have H' := Aside0.mk H
                 clear H
                 have p486 : 0 ≤ (x27_2 : Int) := of_decide_eq_true (by first | (with_reducible assumption) | assumption)
                 have q486 : x27_2 < (l0.length : Int) := of_decide_eq_true (by first | (with_reducible assumption) | assumption)
                 obtain ⟨ad486, A486_1, c486_1, e486, hx486_0, hx486_1, hl486_1, hi486_1⟩ := at_T57 HR0.out x27_2 p486 q486
                 obtain rfl : ad484 = ad486 := (by injection e486)
                 replace hx486_0 := (HB.out.cell (World.block_lt_of_cell? w _ hx486_0)).trans hx486_0
                 replace hx486_1 := (HB.out.cell (World.block_lt_of_cell? w _ hx486_1)).trans hx486_1
                 have HR486_1 := Aside0.mk hi486_1
                 have HC486_1 := Aside0.mk hl486_1
                 clear hi486_1 hl486_1
                 replace p486 := eq_true p486
                 replace q486 := eq_true q486
                 try go_wp2_with (first | ((with_reducible refine gate_dst (N := 12) rfl ?_); (try (refine gate_guard (by rfl) ?_; dsimp only)); refine box_event ?hg (N := 12) ?hd (cs := #[.string (⟨#[]⟩ : ByteArray), .slice none 0 0]) (t := 57) ?hr ?_; (case hd => rfl); (case hg => rfl); (case hr => first | (go_simp; done) | (go_simp; rfl)); intro gb487 hg w26 hbox hb; have n0_ := Aside0.mk (Kd.R_below (by (with_reducible repeat (first | apply Kd.R_alloc | apply Kd.R_drewN | apply Kd.R_drew)); exact HO_7.out) hb); have n1_ := Aside0.mk (blk_below (g := gb485) (o := .cells #[.string ((rd_T57 l0 x21_1).f0), .slice A484_1 ((rd_T57 l0 x21_1).f1).length c484_1] 57 (0, 0)) (by (with_reducible repeat (first | refine blk_drewN ?_ _ | refine blk_drew ?_ | refine blk_alloc ?_ _)); exact BK485.out) hb); have n2_ := Aside0.mk (below_step (by repeat (first | (with_reducible first | exact HB.out | apply below_alloc | apply pw_below_drewN | apply below_drew1 | refine below_set ?_ GE485.out) | exact HB.out)) hb); have n3_ := Aside0.mk (hbox); have n4_ := Aside0.mk ((by rw [hg]; exact (below_size (by repeat (first | (with_reducible first | exact HB.out | apply below_alloc | apply pw_below_drewN | apply below_drew1 | refine below_set ?_ GE485.out) | exact HB.out))) : w.heap.size ≤ gb487)); have n5_ := Aside0.mk ((by rw [hg]; exact (below_size (by repeat (first | (with_reducible first | exact HB.out | apply below_alloc | apply pw_below_drewN | apply below_drew1 | refine below_set ?_ GE485.out) | exact HB.out))) : w.heap.size ≤ gb487)); have n6_ := Aside0.mk ((by rw [hg]; exact Nat.ne_of_lt (blk_lt (g := gb485) (o := .cells #[.string ((rd_T57 l0 x21_1).f0), .slice A484_1 ((rd_T57 l0 x21_1).f1).length c484_1] 57 (0, 0)) (by (with_reducible repeat (first | refine blk_drewN ?_ _ | refine blk_drew ?_ | refine blk_alloc ?_ _)); exact BK485.out)) : gb485 ≠ gb487)); have n7_ := Aside0.mk ((by rw [hg]; exact Nat.ne_of_gt (blk_lt (g := gb485) (o := .cells #[.string ((rd_T57 l0 x21_1).f0), .slice A484_1 ((rd_T57 l0 x21_1).f1).length c484_1] 57 (0, 0)) (by (with_reducible repeat (first | refine blk_drewN ?_ _ | refine blk_drew ?_ | refine blk_alloc ?_ _)); exact BK485.out)) : gb487 ≠ gb485)); clear HO_7; clear BK485; clear HB; have HO_7 := n0_; have BK485 := n1_; have HB := n2_; have BK487 := n3_; have GW487 := n4_; have GE487 := n5_; have NB485_487 := n6_; have NB487_485 := n7_; clear n0_ n1_ n2_ n3_ n4_ n5_ n6_ n7_; clear hb hbox hg; have hnb27 := NB487_485.out; have hnc27 := NB485_487.out; have hcz28_0 : w26.cell? ⟨gb487, 0, none⟩ = some (.string (⟨#[]⟩ : ByteArray)) := (blk_cell BK487.out 0).trans rfl; have hcz28_1 : w26.cell? ⟨gb487, 1, none⟩ = some (.slice none 0 0) := (blk_cell BK487.out 1).trans rfl; have hfz28_0 := blk_frozen BK487.out 0; have hfz28_1 := blk_frozen BK487.out 1))
                 have n0_ : Aside0 (Kd.R (Kd.int .i64) 3 ((w26.setCell ⟨gb487, 0, none⟩ (.string ((rd_T57 l0 x27_2).f0))).setCell ⟨gb487, 1, none⟩ (.slice A486_1 ((rd_T57 l0 x27_2).f1).length c486_1)) w.heap.size (fun _ => True) u7 x7_1) := ⟨by (with_reducible repeat (first | apply Kd.R_alloc | apply Kd.R_drewN | apply Kd.R_drew)); exact Kd.R_mono (Kd.R_far (p := ⟨gb487, 1, none⟩) (Kd.R_far (p := ⟨gb487, 0, none⟩) (Kd.R_types HO_7.out BK487.out (by decide)) (fun _ hk => hk.2) (.string ((rd_T57 l0 x27_2).f0))) (fun _ hk => hk.2) (.slice A486_1 ((rd_T57 l0 x27_2).f1).length c486_1)) (fun _ hk => trivial)⟩
                 have n1_ : Aside0 (((w26.setCell ⟨gb487, 0, none⟩ (.string ((rd_T57 l0 x27_2).f0))).setCell ⟨gb487, 1, none⟩ (.slice A486_1 ((rd_T57 l0 x27_2).f1).length c486_1)).heap[gb485]? = some (.cells #[.string ((rd_T57 l0 x21_1).f0), .slice A484_1 ((rd_T57 l0 x21_1).f1).length c484_1] 57 (0, 0))) := ⟨by (with_reducible repeat (first | refine blk_drewN ?_ _ | refine blk_drew ?_ | refine blk_alloc ?_ _)); refine blk_far ?_ NB485_487.out _; (with_reducible repeat (first | refine blk_drewN ?_ _ | refine blk_drew ?_ | refine blk_alloc ?_ _)); refine blk_far ?_ NB485_487.out _; (with_reducible repeat (first | refine blk_drewN ?_ _ | refine blk_drew ?_ | refine blk_alloc ?_ _)); exact BK485.out⟩
                 have n2_ : Aside0 (((w26.setCell ⟨gb487, 0, none⟩ (.string ((rd_T57 l0 x27_2).f0))).setCell ⟨gb487, 1, none⟩ (.slice A486_1 ((rd_T57 l0 x27_2).f1).length c486_1)).heap[gb487]? = some (.cells #[.string ((rd_T57 l0 x27_2).f0), .slice A486_1 ((rd_T57 l0 x27_2).f1).length c486_1] 57 (0, 0))) := ⟨by (with_reducible repeat (first | refine blk_drewN ?_ _ | refine blk_drew ?_ | refine blk_alloc ?_ _)); refine blk_put (cs := #[.string ((rd_T57 l0 x27_2).f0), .slice none 0 0]) ?_ 1 _ rfl; (with_reducible repeat (first | refine blk_drewN ?_ _ | refine blk_drew ?_ | refine blk_alloc ?_ _)); refine blk_put (cs := #[.string (⟨#[]⟩ : ByteArray), .slice none 0 0]) ?_ 0 _ rfl; (with_reducible repeat (first | refine blk_drewN ?_ _ | refine blk_drew ?_ | refine blk_alloc ?_ _)); exact BK487.out⟩
                 have n3_ : Aside0 (Below w.heap.size w ((w26.setCell ⟨gb487, 0, none⟩ (.string ((rd_T57 l0 x27_2).f0))).setCell ⟨gb487, 1, none⟩ (.slice A486_1 ((rd_T57 l0 x27_2).f1).length c486_1))) := ⟨by repeat (first | (with_reducible first | exact HB.out | apply below_alloc | apply pw_below_drewN | apply below_drew1 | refine below_set ?_ GE485.out | refine below_set ?_ GE487.out) | exact HB.out)⟩
                 (try clear HO_7)
                 (try clear BK485)
                 (try clear BK487)
                 (try clear HB)
                 generalize ((w26.setCell ⟨gb487, 0, none⟩ (.string ((rd_T57 l0 x27_2).f0))).setCell ⟨gb487, 1, none⟩ (.slice A486_1 ((rd_T57 l0 x27_2).f1).length c486_1)) = w29 at n0_ n1_ n2_ n3_ ⊢
                 have HO_7 := n0_
                 have BK485 := n1_
                 have BK487 := n2_
                 have HB := n3_
                 clear n0_ n1_ n2_ n3_
                 have n0_ := Aside0.mk (Kd.R_drew HO_7.out)
                 have n1_ := Aside0.mk (blk_drew BK485.out)
                 have n2_ := Aside0.mk (blk_drew BK487.out)
                 have n3_ := Aside0.mk (below_drew1 HB.out)
                 clear HO_7
                 clear BK485
                 clear BK487
                 clear HB
                 have HO_7 := n0_
                 have BK485 := n1_
                 have BK487 := n2_
                 have HB := n3_
                 clear n0_ n1_ n2_ n3_
                 have p489 : 0 ≤ (x10_2 : Int) := of_decide_eq_true (by first | (with_reducible assumption) | assumption)
                 have q489 : x10_2 < (l0.length : Int) := of_decide_eq_true (by first | (with_reducible assumption) | assumption)
                 obtain ⟨ad489, A489_1, c489_1, e489, hx489_0, hx489_1, hl489_1, hi489_1⟩ := at_T57 HR0.out x10_2 p489 q489
                 have hw489_1 := hx489_1
                 have hw489_0 := hx489_0
                 obtain rfl : ad484 = ad489 := (by injection e489)
                 replace hx489_0 := (HB.out.cell (World.block_lt_of_cell? w _ hx489_0)).trans hx489_0
                 replace hx489_1 := (HB.out.cell (World.block_lt_of_cell? w _ hx489_1)).trans hx489_1
                 have HR489_1 := Aside0.mk hi489_1
                 have HC489_1 := Aside0.mk hl489_1
                 clear hi489_1 hl489_1
                 replace p489 := eq_true p489
                 replace q489 := eq_true q489
                 refine start_ (n := 19) (S := fun w' => w'.cell? ⟨gb485, 0, none⟩ = some (.string ((rd_T57 l0 x21_1).f0)) ∧ w'.cell? ⟨gb485, 1, none⟩ = some (.slice A484_1 ((rd_T57 l0 x21_1).f1).length c484_1) ∧ w'.cell? ⟨gb487, 0, none⟩ = some (.string ((rd_T57 l0 x27_2).f0)) ∧ w'.cell? ⟨gb487, 1, none⟩ = some (.slice A486_1 ((rd_T57 l0 x27_2).f1).length c486_1) ∧ w'.cell? (ad484.add ((x10_2).toNat * 2)) = some (.string ((rd_T57 l0 x10_2).f0)) ∧ w'.cell? ⟨(ad484.add ((x10_2).toNat * 2)).block, (ad484.add ((x10_2).toNat * 2)).off + 1, none⟩ = some (.slice A489_1 ((rd_T57 l0 x10_2).f1).length c489_1)) (ds := []) #[false, false, false, false, false, false, false, false, false, false, false, false, false, false, false, false, false, false, false] (by kernel_rfl) rfl rfl ⟨(blk_cell BK485.out 0).trans rfl, (blk_cell BK485.out 1).trans rfl, (blk_cell BK487.out 0).trans rfl, (blk_cell BK487.out 1).trans rfl, ((HB.out.cell (World.block_lt_of_cell? w _ hw489_0)).trans hw489_0), ((HB.out.cell (World.block_lt_of_cell? w _ hw489_1)).trans hw489_1)⟩ (fun hHeld => ?_); refine with_tabW liaison_Parents.tab12 liaison_Parents.bits12 (fun HT_ HW_ => ?_)
                 generalize w29.drew = w30 at HO_7 BK485 BK487 HB HR489_1 hx489_0 hx489_1 hHeld ⊢
                 refine take_ (i := 0) (N := some 32) (v := ?_) (a' := ?_) #[true, false, false, false, false, false, false, false, false, false, false, false, false, false, false, false, false, false, false] rfl rfl (take_ofW HT_.out HW_.out (by kernel_rfl)) (fun _ _ _ h => h) (Or.inl ⟨by rfl, ?_⟩) hHeld ?_ ?_
                 rotate_left
                 ·rintro w' ⟨s0, s1, s2, s3, s4, s5⟩
                  go_simp
                  with_reducible rfl
                 rotate_left
                 ·simp only [Act.put, List.setIfInBounds_toArray, List.set_cons_zero, List.set_cons_succ, i64_w, i32_w]
                  rfl
                 refine take_ (i := 1) (N := some 33) (v := ?_) (a' := ?_) #[true, true, false, false, false, false, false, false, false, false, false, false, false, false, false, false, false, false, false] rfl rfl (take_ofW HT_.out HW_.out (by kernel_rfl)) (fun _ _ _ h => h) (Or.inl ⟨by rfl, ?_⟩) hHeld ?_ ?_
                 rotate_left
                 ·rintro w' ⟨s0, s1, s2, s3, s4, s5⟩
                  go_simp
                  with_reducible rfl
                 rotate_left
                 ·simp only [Act.put, List.setIfInBounds_toArray, List.set_cons_zero, List.set_cons_succ, i64_w, i32_w]
                  rfl
                 refine one_ (i := 2) (N := some 34) #[true, true, true, false, false, false, false, false, false, false, false, false, false, false, false, false, false, false, false] rfl rfl (one_of HT_.out (by kernel_rfl)) (by decide) (fun K hK => ?_)
                 refine goes_ Tryd.func52 (by kernel_rfl) rfl #[.agg #[.string ((rd_T57 l0 x21_1).f0), .slice A484_1 ((rd_T57 l0 x21_1).f1).length c484_1], .agg #[.string ((rd_T57 l0 x27_2).f0), .slice A486_1 ((rd_T57 l0 x27_2).f1).length c486_1]] (by rfl) rfl rfl (by (try simp only [List.map_toArray, List.map_cons, List.map_nil]); first | done | rfl | (simp only [List.length_drop, List.length_take]; rfl)) ?_
                 with_reducible refine (liaison_inside.calls k2 ((rd_T57 l0 x21_1).f0) _ _ ((rd_T57 l0 x21_1).f1) ((rd_T57 l0 x27_2).f0) _ _ ((rd_T57 l0 x27_2).f1) true _ ?side1 ?side2 ?side3 ?side4 A14.out).mono ?_
                 (case side1 => repeat (first | exact (Kd.C_below HR484_1.out HB.out) | (with_reducible refine Kd.C_alloc ?_ _) | (with_reducible refine Kd.C_drewN ?_ _) | (with_reducible refine Kd.C_drew ?_)))
                 (case side2 => exact HC484_1.out)
                 (case side3 => repeat (first | exact (Kd.C_below HR486_1.out HB.out) | (with_reducible refine Kd.C_alloc ?_ _) | (with_reducible refine Kd.C_drewN ?_ _) | (with_reducible refine Kd.C_drew ?_)))
                 (case side4 => exact HC486_1.out)
                 rintro e w31 ⟨rfl, hb⟩
                 refine ⟨_, rfl, ?_⟩
                 have n0_ := Aside0.mk (Kd.R_below (by (with_reducible repeat (first | apply Kd.R_alloc | apply Kd.R_drewN | apply Kd.R_drew)); exact HO_7.out) hb)
                 have n1_ := Aside0.mk (blk_below (g := gb485) (o := .cells #[.string ((rd_T57 l0 x21_1).f0), .slice A484_1 ((rd_T57 l0 x21_1).f1).length c484_1] 57 (0, 0)) (by (with_reducible repeat (first | refine blk_drewN ?_ _ | refine blk_drew ?_ | refine blk_alloc ?_ _)); exact BK485.out) hb)
                 have n2_ := Aside0.mk (blk_below (g := gb487) (o := .cells #[.string ((rd_T57 l0 x27_2).f0), .slice A486_1 ((rd_T57 l0 x27_2).f1).length c486_1] 57 (0, 0)) (by (with_reducible repeat (first | refine blk_drewN ?_ _ | refine blk_drew ?_ | refine blk_alloc ?_ _)); exact BK487.out) hb)
                 have n3_ := Aside0.mk (below_step (by repeat (first | (with_reducible first | exact HB.out | apply below_alloc | apply pw_below_drewN | apply below_drew1 | refine below_set ?_ GE485.out | refine below_set ?_ GE487.out) | exact HB.out)) hb)
                 clear HO_7
                 clear BK485
                 clear BK487
                 clear HB
                 have HO_7 := n0_
                 have BK485 := n1_
                 have BK487 := n2_
                 have HB := n3_
                 clear n0_ n1_ n2_ n3_
                 (try clear hb)
                 (try clear hb2)
                 (try clear hk)
                 (try clear hi)
                 refine hK.out _ _ ⟨(blk_cell BK485.out 0).trans rfl, (blk_cell BK485.out 1).trans rfl, (blk_cell BK487.out 0).trans rfl, (blk_cell BK487.out 1).trans rfl, ((HB.out.cell (World.block_lt_of_cell? w _ hw489_0)).trans hw489_0), ((HB.out.cell (World.block_lt_of_cell? w _ hw489_1)).trans hw489_1)⟩ (fun hHeld => ?_)
                 clear hK K
                 refine norm_ (a' := ?_) ?_ ?_
                 rotate_left
                 ·show Act.put _ (some 34) _ = _
                  simp only [Act.put, List.setIfInBounds_toArray, List.set_cons_zero, List.set_cons_succ, i64_w, i32_w]
                  rfl
                 refine pure_ (i := 3) (N := some 35) (v := ?_) (a' := ?_) #[true, true, true, true, false, false, false, false, false, false, false, false, false, false, false, false, false, false, false] rfl rfl (any_of HT_.out (by kernel_rfl)) (fun _ _ _ h => h) (Or.inl ⟨by rfl, ?_⟩) ?_ ?_
                 rotate_left
                 ·intro w'
                  go_simp
                  with_reducible rfl
                 rotate_left
                 ·simp only [Act.put, List.setIfInBounds_toArray, List.set_cons_zero, List.set_cons_succ, i64_w, i32_w]
                  rfl
                 refine pure_ (i := 4) (N := some 36) (v := ?_) (a' := ?_) #[true, true, true, true, true, false, false, false, false, false, false, false, false, false, false, false, false, false, false] rfl rfl (any_of HT_.out (by kernel_rfl)) (fun _ _ _ h => h) (Or.inl ⟨by rfl, ?_⟩) ?_ ?_
                 rotate_left
                 ·intro w'
                  go_simp
                  with_reducible rfl
                 rotate_left
                 ·simp only [Act.put, List.setIfInBounds_toArray, List.set_cons_zero, List.set_cons_succ, i64_w, i32_w]
                  rfl
                 refine pure_ (i := 5) (N := some 37) (v := ?_) (a' := ?_) #[true, true, true, true, true, true, false, false, false, false, false, false, false, false, false, false, false, false, false] rfl rfl (any_of HT_.out (by kernel_rfl)) (fun _ _ _ h => h) (Or.inl ⟨by rfl, ?_⟩) ?_ ?_
                 rotate_left
                 ·intro w'
                  go_simp
                  with_reducible rfl
                 rotate_left
                 ·simp only [Act.put, List.setIfInBounds_toArray, List.set_cons_zero, List.set_cons_succ, i64_w, i32_w]
                  rfl
                 refine pure_ (i := 6) (N := some 38) (v := ?_) (a' := ?_) #[true, true, true, true, true, true, true, false, false, false, false, false, false, false, false, false, false, false, false] rfl rfl (any_of HT_.out (by kernel_rfl)) (fun _ _ _ h => h) (Or.inl ⟨by rfl, ?_⟩) ?_ ?_
                 rotate_left
                 ·intro w'
                  go_simp
                  with_reducible rfl
                 rotate_left
                 ·simp only [Act.put, List.setIfInBounds_toArray, List.set_cons_zero, List.set_cons_succ, i64_w, i32_w]
                  rfl
                 refine pure_ (i := 7) (N := some 39) (v := ?_) (a' := ?_) #[true, true, true, true, true, true, true, true, false, false, false, false, false, false, false, false, false, false, false] rfl rfl (any_of HT_.out (by kernel_rfl)) (fun _ _ _ h => h) (Or.inl ⟨by rfl, ?_⟩) ?_ ?_
                 rotate_left
                 ·intro w'
                  go_simp
                  with_reducible rfl
                 rotate_left
                 ·simp only [Act.put, List.setIfInBounds_toArray, List.set_cons_zero, List.set_cons_succ, i64_w, i32_w]
                  rfl
                 refine pure_ (i := 10) (N := some 42) (v := ?_) (a' := ?_) #[true, true, true, true, true, true, true, true, false, false, true, false, false, false, false, false, false, false, false] rfl rfl (any_of HT_.out (by kernel_rfl)) (fun _ _ _ h => h) (Or.inl ⟨by rfl, ?_⟩) ?_ ?_
                 rotate_left
                 ·intro w'
                  go_simp
                  with_reducible rfl
                 rotate_left
                 ·simp only [Act.put, List.setIfInBounds_toArray, List.set_cons_zero, List.set_cons_succ, i64_w, i32_w]
                  rfl
                 refine pure_ (i := 11) (N := some 43) (v := ?_) (a' := ?_) #[true, true, true, true, true, true, true, true, false, false, true, true, false, false, false, false, false, false, false] rfl rfl (any_of HT_.out (by kernel_rfl)) (fun _ _ _ h => h) (Or.inl ⟨by rfl, ?_⟩) ?_ ?_
                 rotate_left
                 ·intro w'
                  go_simp
                  with_reducible rfl
                 rotate_left
                 ·simp only [Act.put, List.setIfInBounds_toArray, List.set_cons_zero, List.set_cons_succ, i64_w, i32_w]
                  rfl
                 refine pure_ (i := 12) (N := some 44) (v := ?_) (a' := ?_) #[true, true, true, true, true, true, true, true, false, false, true, true, true, false, false, false, false, false, false] rfl rfl (any_of HT_.out (by kernel_rfl)) (fun _ _ _ h => h) (Or.inl ⟨by rfl, ?_⟩) ?_ ?_
                 rotate_left
                 ·intro w'
                  go_simp
                  with_reducible rfl
                 rotate_left
                 ·simp only [Act.put, List.setIfInBounds_toArray, List.set_cons_zero, List.set_cons_succ, i64_w, i32_w]
                  rfl
                 refine pure_ (i := 13) (N := some 45) (v := ?_) (a' := ?_) #[true, true, true, true, true, true, true, true, false, false, true, true, true, true, false, false, false, false, false] rfl rfl (any_of HT_.out (by kernel_rfl)) (fun _ _ _ h => h) (Or.inl ⟨by rfl, ?_⟩) ?_ ?_
                 rotate_left
                 ·intro w'
                  go_simp
                  with_reducible rfl
                 rotate_left
                 ·simp only [Act.put, List.setIfInBounds_toArray, List.set_cons_zero, List.set_cons_succ, i64_w, i32_w]
                  rfl
                 refine take_ (i := 8) (N := some 40) (v := ?_) (a' := ?_) #[true, true, true, true, true, true, true, true, true, false, true, true, true, true, false, false, false, false, false] rfl rfl (take_ofW HT_.out HW_.out (by kernel_rfl)) (fun _ _ _ h => h) (Or.inl ⟨by rfl, ?_⟩) hHeld ?_ ?_
                 rotate_left
                 ·rintro w' ⟨s0, s1, s2, s3, s4, s5⟩
                  go_simp
                  with_reducible rfl
                 rotate_left
                 ·simp only [Act.put, List.setIfInBounds_toArray, List.set_cons_zero, List.set_cons_succ, i64_w, i32_w]
                  rfl
                 refine pure_ (i := 9) (N := some 41) (v := ?_) (a' := ?_) #[true, true, true, true, true, true, true, true, true, true, true, true, true, true, false, false, false, false, false] rfl rfl (any_of HT_.out (by kernel_rfl)) (fun _ _ _ h => h) (Or.inl ⟨by rfl, ?_⟩) ?_ ?_
                 rotate_left
                 ·intro w'
                  go_simp
                  with_reducible rfl
                 rotate_left
                 ·simp only [Act.put, List.setIfInBounds_toArray, List.set_cons_zero, List.set_cons_succ, i64_w, i32_w]
                  rfl
                 refine take_ (i := 14) (N := some 46) (v := ?_) (a' := ?_) #[true, true, true, true, true, true, true, true, true, true, true, true, true, true, true, false, false, false, false] rfl rfl (take_ofW HT_.out HW_.out (by kernel_rfl)) (fun _ _ _ h => h) (Or.inl ⟨by rfl, ?_⟩) hHeld ?_ ?_
                 rotate_left
                 ·rintro w' ⟨s0, s1, s2, s3, s4, s5⟩
                  go_simp
                  with_reducible rfl
                 rotate_left
                 ·simp only [Act.put, List.setIfInBounds_toArray, List.set_cons_zero, List.set_cons_succ, i64_w, i32_w]
                  rfl
                 refine pure_ (i := 15) (N := some 47) (v := ?_) (a' := ?_) #[true, true, true, true, true, true, true, true, true, true, true, true, true, true, true, true, false, false, false] rfl rfl (any_of HT_.out (by kernel_rfl)) (fun _ _ _ h => h) (Or.inl ⟨by rfl, ?_⟩) ?_ ?_
                 rotate_left
                 ·intro w'
                  go_simp
                  with_reducible rfl
                 rotate_left
                 ·simp only [Act.put, List.setIfInBounds_toArray, List.set_cons_zero, List.set_cons_succ, i64_w, i32_w]
                  rfl
                 refine pure_ (i := 16) (N := some 48) (v := ?_) (a' := ?_) #[true, true, true, true, true, true, true, true, true, true, true, true, true, true, true, true, true, false, false] rfl rfl (any_of HT_.out (by kernel_rfl)) (fun _ _ _ h => h) (Or.inl ⟨by rfl, ?_⟩) ?_ ?_
                 rotate_left
                 ·intro w'
                  go_simp
                  with_reducible rfl
                 rotate_left
                 ·simp only [Act.put, List.setIfInBounds_toArray, List.set_cons_zero, List.set_cons_succ, i64_w, i32_w]
                  rfl
                 refine pure_ (i := 17) (N := some 49) (v := ?_) (a' := ?_) #[true, true, true, true, true, true, true, true, true, true, true, true, true, true, true, true, true, true, false] rfl rfl (any_of HT_.out (by kernel_rfl)) (fun _ _ _ h => h) (Or.inl ⟨by rfl, ?_⟩) ?_ ?_
                 rotate_left
                 ·intro w'
                  go_simp
                  with_reducible rfl
                 rotate_left
                 ·simp only [Act.put, List.setIfInBounds_toArray, List.set_cons_zero, List.set_cons_succ, i64_w, i32_w]
                  rfl
                 refine pure_ (i := 18) (N := some 50) (v := ?_) (a' := ?_) #[true, true, true, true, true, true, true, true, true, true, true, true, true, true, true, true, true, true, true] rfl rfl (any_of HT_.out (by kernel_rfl)) (fun _ _ _ h => h) (Or.inl ⟨by rfl, ?_⟩) ?_ ?_
                 rotate_left
                 ·intro w'
                  go_simp
                  with_reducible rfl
                 rotate_left
                 ·simp only [Act.put, List.setIfInBounds_toArray, List.set_cons_zero, List.set_cons_succ, i64_w, i32_w]
                  rfl
                 refine done_ (done_of HT_.out (by kernel_rfl)) ?_
                 try go_wp2
                 go_roundg k2
                 case measure => have := HK1.out; have := HK2.out; omega
                 case rel => exact ⟨(x27_2), (wrap64 (x27_2 + 1)), (by first | rfl | (simp; done) | (simp [*]; done)), (by first | rfl | (simp; done) | (simp [*]; done)), H', ⟨by have := HK1.out; have := HK2.out; omega⟩, ⟨by (with_reducible repeat (first | apply Kd.R_alloc | apply Kd.R_drewN | apply Kd.R_drew)); exact HO_7.out⟩, ⟨by (with_reducible repeat (first | refine blk_drewN ?_ _ | refine blk_drew ?_ | refine blk_alloc ?_ _)); exact BK485.out⟩, ⟨by repeat (first | (with_reducible first | exact HB.out | apply below_alloc | apply pw_below_drewN | apply below_drew1 | refine below_set ?_ GE485.out | refine below_set ?_ GE487.out) | exact HB.out)⟩⟩
                ·rw [if_neg c25] at H
                 have c25b0 : decide ((((rd_T57 l0 x27_2).f1).length : Int) < (((rd_T57 l0 x10_2).f1).length : Int)) = false := decide_eq_false c25
                 have c25b1 : decide (((rd_T57 l0 x27_2).f1).length < ((rd_T57 l0 x10_2).f1).length) = false := decide_eq_false (fun h => c25 (Int.ofNat_lt.mpr h))
                 clear c25
                 have H' := Aside0.mk H
                 clear H
                 have p486 : 0 ≤ (x27_2 : Int) := of_decide_eq_true (by first | (with_reducible assumption) | assumption)
                 have q486 : x27_2 < (l0.length : Int) := of_decide_eq_true (by first | (with_reducible assumption) | assumption)
                 obtain ⟨ad486, A486_1, c486_1, e486, hx486_0, hx486_1, hl486_1, hi486_1⟩ := at_T57 HR0.out x27_2 p486 q486
                 obtain rfl : ad484 = ad486 := (by injection e486)
                 replace hx486_0 := (HB.out.cell (World.block_lt_of_cell? w _ hx486_0)).trans hx486_0
                 replace hx486_1 := (HB.out.cell (World.block_lt_of_cell? w _ hx486_1)).trans hx486_1
                 have HR486_1 := Aside0.mk hi486_1
                 have HC486_1 := Aside0.mk hl486_1
                 clear hi486_1 hl486_1
                 replace p486 := eq_true p486
                 replace q486 := eq_true q486
                 try go_wp2_with (first | ((with_reducible refine gate_dst (N := 12) rfl ?_); (try (refine gate_guard (by rfl) ?_; dsimp only)); refine box_event ?hg (N := 12) ?hd (cs := #[.string (⟨#[]⟩ : ByteArray), .slice none 0 0]) (t := 57) ?hr ?_; (case hd => rfl); (case hg => rfl); (case hr => first | (go_simp; done) | (go_simp; rfl)); intro gb487 hg w32 hbox hb; have n0_ := Aside0.mk (Kd.R_below (by (with_reducible repeat (first | apply Kd.R_alloc | apply Kd.R_drewN | apply Kd.R_drew)); exact HO_7.out) hb); have n1_ := Aside0.mk (blk_below (g := gb485) (o := .cells #[.string ((rd_T57 l0 x21_1).f0), .slice A484_1 ((rd_T57 l0 x21_1).f1).length c484_1] 57 (0, 0)) (by (with_reducible repeat (first | refine blk_drewN ?_ _ | refine blk_drew ?_ | refine blk_alloc ?_ _)); exact BK485.out) hb); have n2_ := Aside0.mk (below_step (by repeat (first | (with_reducible first | exact HB.out | apply below_alloc | apply pw_below_drewN | apply below_drew1 | refine below_set ?_ GE485.out) | exact HB.out)) hb); have n3_ := Aside0.mk (hbox); have n4_ := Aside0.mk ((by rw [hg]; exact (below_size (by repeat (first | (with_reducible first | exact HB.out | apply below_alloc | apply pw_below_drewN | apply below_drew1 | refine below_set ?_ GE485.out) | exact HB.out))) : w.heap.size ≤ gb487)); have n5_ := Aside0.mk ((by rw [hg]; exact (below_size (by repeat (first | (with_reducible first | exact HB.out | apply below_alloc | apply pw_below_drewN | apply below_drew1 | refine below_set ?_ GE485.out) | exact HB.out))) : w.heap.size ≤ gb487)); have n6_ := Aside0.mk ((by rw [hg]; exact Nat.ne_of_lt (blk_lt (g := gb485) (o := .cells #[.string ((rd_T57 l0 x21_1).f0), .slice A484_1 ((rd_T57 l0 x21_1).f1).length c484_1] 57 (0, 0)) (by (with_reducible repeat (first | refine blk_drewN ?_ _ | refine blk_drew ?_ | refine blk_alloc ?_ _)); exact BK485.out)) : gb485 ≠ gb487)); have n7_ := Aside0.mk ((by rw [hg]; exact Nat.ne_of_gt (blk_lt (g := gb485) (o := .cells #[.string ((rd_T57 l0 x21_1).f0), .slice A484_1 ((rd_T57 l0 x21_1).f1).length c484_1] 57 (0, 0)) (by (with_reducible repeat (first | refine blk_drewN ?_ _ | refine blk_drew ?_ | refine blk_alloc ?_ _)); exact BK485.out)) : gb487 ≠ gb485)); clear HO_7; clear BK485; clear HB; have HO_7 := n0_; have BK485 := n1_; have HB := n2_; have BK487 := n3_; have GW487 := n4_; have GE487 := n5_; have NB485_487 := n6_; have NB487_485 := n7_; clear n0_ n1_ n2_ n3_ n4_ n5_ n6_ n7_; clear hb hbox hg; have hnb33 := NB487_485.out; have hnc33 := NB485_487.out; have hcz34_0 : w32.cell? ⟨gb487, 0, none⟩ = some (.string (⟨#[]⟩ : ByteArray)) := (blk_cell BK487.out 0).trans rfl; have hcz34_1 : w32.cell? ⟨gb487, 1, none⟩ = some (.slice none 0 0) := (blk_cell BK487.out 1).trans rfl; have hfz34_0 := blk_frozen BK487.out 0; have hfz34_1 := blk_frozen BK487.out 1))
                 have n0_ : Aside0 (Kd.R (Kd.int .i64) 3 ((w32.setCell ⟨gb487, 0, none⟩ (.string ((rd_T57 l0 x27_2).f0))).setCell ⟨gb487, 1, none⟩ (.slice A486_1 ((rd_T57 l0 x27_2).f1).length c486_1)) w.heap.size (fun _ => True) u7 x7_1) := ⟨by (with_reducible repeat (first | apply Kd.R_alloc | apply Kd.R_drewN | apply Kd.R_drew)); exact Kd.R_mono (Kd.R_far (p := ⟨gb487, 1, none⟩) (Kd.R_far (p := ⟨gb487, 0, none⟩) (Kd.R_types HO_7.out BK487.out (by decide)) (fun _ hk => hk.2) (.string ((rd_T57 l0 x27_2).f0))) (fun _ hk => hk.2) (.slice A486_1 ((rd_T57 l0 x27_2).f1).length c486_1)) (fun _ hk => trivial)⟩
                 have n1_ : Aside0 (((w32.setCell ⟨gb487, 0, none⟩ (.string ((rd_T57 l0 x27_2).f0))).setCell ⟨gb487, 1, none⟩ (.slice A486_1 ((rd_T57 l0 x27_2).f1).length c486_1)).heap[gb485]? = some (.cells #[.string ((rd_T57 l0 x21_1).f0), .slice A484_1 ((rd_T57 l0 x21_1).f1).length c484_1] 57 (0, 0))) := ⟨by (with_reducible repeat (first | refine blk_drewN ?_ _ | refine blk_drew ?_ | refine blk_alloc ?_ _)); refine blk_far ?_ NB485_487.out _; (with_reducible repeat (first | refine blk_drewN ?_ _ | refine blk_drew ?_ | refine blk_alloc ?_ _)); refine blk_far ?_ NB485_487.out _; (with_reducible repeat (first | refine blk_drewN ?_ _ | refine blk_drew ?_ | refine blk_alloc ?_ _)); exact BK485.out⟩
                 have n2_ : Aside0 (((w32.setCell ⟨gb487, 0, none⟩ (.string ((rd_T57 l0 x27_2).f0))).setCell ⟨gb487, 1, none⟩ (.slice A486_1 ((rd_T57 l0 x27_2).f1).length c486_1)).heap[gb487]? = some (.cells #[.string ((rd_T57 l0 x27_2).f0), .slice A486_1 ((rd_T57 l0 x27_2).f1).length c486_1] 57 (0, 0))) := ⟨by (with_reducible repeat (first | refine blk_drewN ?_ _ | refine blk_drew ?_ | refine blk_alloc ?_ _)); refine blk_put (cs := #[.string ((rd_T57 l0 x27_2).f0), .slice none 0 0]) ?_ 1 _ rfl; (with_reducible repeat (first | refine blk_drewN ?_ _ | refine blk_drew ?_ | refine blk_alloc ?_ _)); refine blk_put (cs := #[.string (⟨#[]⟩ : ByteArray), .slice none 0 0]) ?_ 0 _ rfl; (with_reducible repeat (first | refine blk_drewN ?_ _ | refine blk_drew ?_ | refine blk_alloc ?_ _)); exact BK487.out⟩
                 have n3_ : Aside0 (Below w.heap.size w ((w32.setCell ⟨gb487, 0, none⟩ (.string ((rd_T57 l0 x27_2).f0))).setCell ⟨gb487, 1, none⟩ (.slice A486_1 ((rd_T57 l0 x27_2).f1).length c486_1))) := ⟨by repeat (first | (with_reducible first | exact HB.out | apply below_alloc | apply pw_below_drewN | apply below_drew1 | refine below_set ?_ GE485.out | refine below_set ?_ GE487.out) | exact HB.out)⟩
                 (try clear HO_7)
                 (try clear BK485)
                 (try clear BK487)
                 (try clear HB)
                 generalize ((w32.setCell ⟨gb487, 0, none⟩ (.string ((rd_T57 l0 x27_2).f0))).setCell ⟨gb487, 1, none⟩ (.slice A486_1 ((rd_T57 l0 x27_2).f1).length c486_1)) = w35 at n0_ n1_ n2_ n3_ ⊢
                 have HO_7 := n0_
                 have BK485 := n1_
                 have BK487 := n2_
                 have HB := n3_
                 clear n0_ n1_ n2_ n3_
                 have n0_ := Aside0.mk (Kd.R_drew HO_7.out)
                 have n1_ := Aside0.mk (blk_drew BK485.out)
                 have n2_ := Aside0.mk (blk_drew BK487.out)
                 have n3_ := Aside0.mk (below_drew1 HB.out)
                 clear HO_7
                 clear BK485
                 clear BK487
                 clear HB
                 have HO_7 := n0_
                 have BK485 := n1_
                 have BK487 := n2_
                 have HB := n3_
                 clear n0_ n1_ n2_ n3_
                 have p489 : 0 ≤ (x10_2 : Int) := of_decide_eq_true (by first | (with_reducible assumption) | assumption)
                 have q489 : x10_2 < (l0.length : Int) := of_decide_eq_true (by first | (with_reducible assumption) | assumption)
                 obtain ⟨ad489, A489_1, c489_1, e489, hx489_0, hx489_1, hl489_1, hi489_1⟩ := at_T57 HR0.out x10_2 p489 q489
                 have hw489_1 := hx489_1
                 have hw489_0 := hx489_0
                 obtain rfl : ad484 = ad489 := (by injection e489)
                 replace hx489_0 := (HB.out.cell (World.block_lt_of_cell? w _ hx489_0)).trans hx489_0
                 replace hx489_1 := (HB.out.cell (World.block_lt_of_cell? w _ hx489_1)).trans hx489_1
                 have HR489_1 := Aside0.mk hi489_1
                 have HC489_1 := Aside0.mk hl489_1
                 clear hi489_1 hl489_1
                 replace p489 := eq_true p489
                 replace q489 := eq_true q489
                 refine start_ (n := 19) (S := fun w' => w'.cell? ⟨gb485, 0, none⟩ = some (.string ((rd_T57 l0 x21_1).f0)) ∧ w'.cell? ⟨gb485, 1, none⟩ = some (.slice A484_1 ((rd_T57 l0 x21_1).f1).length c484_1) ∧ w'.cell? ⟨gb487, 0, none⟩ = some (.string ((rd_T57 l0 x27_2).f0)) ∧ w'.cell? ⟨gb487, 1, none⟩ = some (.slice A486_1 ((rd_T57 l0 x27_2).f1).length c486_1) ∧ w'.cell? (ad484.add ((x10_2).toNat * 2)) = some (.string ((rd_T57 l0 x10_2).f0)) ∧ w'.cell? ⟨(ad484.add ((x10_2).toNat * 2)).block, (ad484.add ((x10_2).toNat * 2)).off + 1, none⟩ = some (.slice A489_1 ((rd_T57 l0 x10_2).f1).length c489_1)) (ds := []) #[false, false, false, false, false, false, false, false, false, false, false, false, false, false, false, false, false, false, false] (by kernel_rfl) rfl rfl ⟨(blk_cell BK485.out 0).trans rfl, (blk_cell BK485.out 1).trans rfl, (blk_cell BK487.out 0).trans rfl, (blk_cell BK487.out 1).trans rfl, ((HB.out.cell (World.block_lt_of_cell? w _ hw489_0)).trans hw489_0), ((HB.out.cell (World.block_lt_of_cell? w _ hw489_1)).trans hw489_1)⟩ (fun hHeld => ?_); refine with_tabW liaison_Parents.tab12 liaison_Parents.bits12 (fun HT_ HW_ => ?_)
                 generalize w35.drew = w36 at HO_7 BK485 BK487 HB HR489_1 hx489_0 hx489_1 hHeld ⊢
                 refine take_ (i := 0) (N := some 32) (v := ?_) (a' := ?_) #[true, false, false, false, false, false, false, false, false, false, false, false, false, false, false, false, false, false, false] rfl rfl (take_ofW HT_.out HW_.out (by kernel_rfl)) (fun _ _ _ h => h) (Or.inl ⟨by rfl, ?_⟩) hHeld ?_ ?_
                 rotate_left
                 ·rintro w' ⟨s0, s1, s2, s3, s4, s5⟩
                  go_simp
                  with_reducible rfl
                 rotate_left
                 ·simp only [Act.put, List.setIfInBounds_toArray, List.set_cons_zero, List.set_cons_succ, i64_w, i32_w]
                  rfl
                 refine take_ (i := 1) (N := some 33) (v := ?_) (a' := ?_) #[true, true, false, false, false, false, false, false, false, false, false, false, false, false, false, false, false, false, false] rfl rfl (take_ofW HT_.out HW_.out (by kernel_rfl)) (fun _ _ _ h => h) (Or.inl ⟨by rfl, ?_⟩) hHeld ?_ ?_
                 rotate_left
                 ·rintro w' ⟨s0, s1, s2, s3, s4, s5⟩
                  go_simp
                  with_reducible rfl
                 rotate_left
                 ·simp only [Act.put, List.setIfInBounds_toArray, List.set_cons_zero, List.set_cons_succ, i64_w, i32_w]
                  rfl
                 refine one_ (i := 2) (N := some 34) #[true, true, true, false, false, false, false, false, false, false, false, false, false, false, false, false, false, false, false] rfl rfl (one_of HT_.out (by kernel_rfl)) (by decide) (fun K hK => ?_)
                 refine goes_ Tryd.func52 (by kernel_rfl) rfl #[.agg #[.string ((rd_T57 l0 x21_1).f0), .slice A484_1 ((rd_T57 l0 x21_1).f1).length c484_1], .agg #[.string ((rd_T57 l0 x27_2).f0), .slice A486_1 ((rd_T57 l0 x27_2).f1).length c486_1]] (by rfl) rfl rfl (by (try simp only [List.map_toArray, List.map_cons, List.map_nil]); first | done | rfl | (simp only [List.length_drop, List.length_take]; rfl)) ?_
                 with_reducible refine (liaison_inside.calls k2 ((rd_T57 l0 x21_1).f0) _ _ ((rd_T57 l0 x21_1).f1) ((rd_T57 l0 x27_2).f0) _ _ ((rd_T57 l0 x27_2).f1) true _ ?side1 ?side2 ?side3 ?side4 A14.out).mono ?_
                 (case side1 => repeat (first | exact (Kd.C_below HR484_1.out HB.out) | (with_reducible refine Kd.C_alloc ?_ _) | (with_reducible refine Kd.C_drewN ?_ _) | (with_reducible refine Kd.C_drew ?_)))
                 (case side2 => exact HC484_1.out)
                 (case side3 => repeat (first | exact (Kd.C_below HR486_1.out HB.out) | (with_reducible refine Kd.C_alloc ?_ _) | (with_reducible refine Kd.C_drewN ?_ _) | (with_reducible refine Kd.C_drew ?_)))
                 (case side4 => exact HC486_1.out)
                 rintro e w37 ⟨rfl, hb⟩
                 refine ⟨_, rfl, ?_⟩
                 have n0_ := Aside0.mk (Kd.R_below (by (with_reducible repeat (first | apply Kd.R_alloc | apply Kd.R_drewN | apply Kd.R_drew)); exact HO_7.out) hb)
                 have n1_ := Aside0.mk (blk_below (g := gb485) (o := .cells #[.string ((rd_T57 l0 x21_1).f0), .slice A484_1 ((rd_T57 l0 x21_1).f1).length c484_1] 57 (0, 0)) (by (with_reducible repeat (first | refine blk_drewN ?_ _ | refine blk_drew ?_ | refine blk_alloc ?_ _)); exact BK485.out) hb)
                 have n2_ := Aside0.mk (blk_below (g := gb487) (o := .cells #[.string ((rd_T57 l0 x27_2).f0), .slice A486_1 ((rd_T57 l0 x27_2).f1).length c486_1] 57 (0, 0)) (by (with_reducible repeat (first | refine blk_drewN ?_ _ | refine blk_drew ?_ | refine blk_alloc ?_ _)); exact BK487.out) hb)
                 have n3_ := Aside0.mk (below_step (by repeat (first | (with_reducible first | exact HB.out | apply below_alloc | apply pw_below_drewN | apply below_drew1 | refine below_set ?_ GE485.out | refine below_set ?_ GE487.out) | exact HB.out)) hb)
                 clear HO_7
                 clear BK485
                 clear BK487
                 clear HB
                 have HO_7 := n0_
                 have BK485 := n1_
                 have BK487 := n2_
                 have HB := n3_
                 clear n0_ n1_ n2_ n3_
                 (try clear hb)
                 (try clear hb2)
                 (try clear hk)
                 (try clear hi)
                 refine hK.out _ _ ⟨(blk_cell BK485.out 0).trans rfl, (blk_cell BK485.out 1).trans rfl, (blk_cell BK487.out 0).trans rfl, (blk_cell BK487.out 1).trans rfl, ((HB.out.cell (World.block_lt_of_cell? w _ hw489_0)).trans hw489_0), ((HB.out.cell (World.block_lt_of_cell? w _ hw489_1)).trans hw489_1)⟩ (fun hHeld => ?_)
                 clear hK K
                 refine norm_ (a' := ?_) ?_ ?_
                 rotate_left
                 ·show Act.put _ (some 34) _ = _
                  simp only [Act.put, List.setIfInBounds_toArray, List.set_cons_zero, List.set_cons_succ, i64_w, i32_w]
                  rfl
                 refine pure_ (i := 3) (N := some 35) (v := ?_) (a' := ?_) #[true, true, true, true, false, false, false, false, false, false, false, false, false, false, false, false, false, false, false] rfl rfl (any_of HT_.out (by kernel_rfl)) (fun _ _ _ h => h) (Or.inl ⟨by rfl, ?_⟩) ?_ ?_
                 rotate_left
                 ·intro w'
                  go_simp
                  with_reducible rfl
                 rotate_left
                 ·simp only [Act.put, List.setIfInBounds_toArray, List.set_cons_zero, List.set_cons_succ, i64_w, i32_w]
                  rfl
                 refine pure_ (i := 4) (N := some 36) (v := ?_) (a' := ?_) #[true, true, true, true, true, false, false, false, false, false, false, false, false, false, false, false, false, false, false] rfl rfl (any_of HT_.out (by kernel_rfl)) (fun _ _ _ h => h) (Or.inl ⟨by rfl, ?_⟩) ?_ ?_
                 rotate_left
                 ·intro w'
                  go_simp
                  with_reducible rfl
                 rotate_left
                 ·simp only [Act.put, List.setIfInBounds_toArray, List.set_cons_zero, List.set_cons_succ, i64_w, i32_w]
                  rfl
                 refine pure_ (i := 5) (N := some 37) (v := ?_) (a' := ?_) #[true, true, true, true, true, true, false, false, false, false, false, false, false, false, false, false, false, false, false] rfl rfl (any_of HT_.out (by kernel_rfl)) (fun _ _ _ h => h) (Or.inl ⟨by rfl, ?_⟩) ?_ ?_
                 rotate_left
                 ·intro w'
                  go_simp
                  with_reducible rfl
                 rotate_left
                 ·simp only [Act.put, List.setIfInBounds_toArray, List.set_cons_zero, List.set_cons_succ, i64_w, i32_w]
                  rfl
                 refine pure_ (i := 6) (N := some 38) (v := ?_) (a' := ?_) #[true, true, true, true, true, true, true, false, false, false, false, false, false, false, false, false, false, false, false] rfl rfl (any_of HT_.out (by kernel_rfl)) (fun _ _ _ h => h) (Or.inl ⟨by rfl, ?_⟩) ?_ ?_
                 rotate_left
                 ·intro w'
                  go_simp
                  with_reducible rfl
                 rotate_left
                 ·simp only [Act.put, List.setIfInBounds_toArray, List.set_cons_zero, List.set_cons_succ, i64_w, i32_w]
                  rfl
                 refine pure_ (i := 7) (N := some 39) (v := ?_) (a' := ?_) #[true, true, true, true, true, true, true, true, false, false, false, false, false, false, false, false, false, false, false] rfl rfl (any_of HT_.out (by kernel_rfl)) (fun _ _ _ h => h) (Or.inl ⟨by rfl, ?_⟩) ?_ ?_
                 rotate_left
                 ·intro w'
                  go_simp
                  with_reducible rfl
                 rotate_left
                 ·simp only [Act.put, List.setIfInBounds_toArray, List.set_cons_zero, List.set_cons_succ, i64_w, i32_w]
                  rfl
                 refine pure_ (i := 10) (N := some 42) (v := ?_) (a' := ?_) #[true, true, true, true, true, true, true, true, false, false, true, false, false, false, false, false, false, false, false] rfl rfl (any_of HT_.out (by kernel_rfl)) (fun _ _ _ h => h) (Or.inl ⟨by rfl, ?_⟩) ?_ ?_
                 rotate_left
                 ·intro w'
                  go_simp
                  with_reducible rfl
                 rotate_left
                 ·simp only [Act.put, List.setIfInBounds_toArray, List.set_cons_zero, List.set_cons_succ, i64_w, i32_w]
                  rfl
                 refine pure_ (i := 11) (N := some 43) (v := ?_) (a' := ?_) #[true, true, true, true, true, true, true, true, false, false, true, true, false, false, false, false, false, false, false] rfl rfl (any_of HT_.out (by kernel_rfl)) (fun _ _ _ h => h) (Or.inl ⟨by rfl, ?_⟩) ?_ ?_
                 rotate_left
                 ·intro w'
                  go_simp
                  with_reducible rfl
                 rotate_left
                 ·simp only [Act.put, List.setIfInBounds_toArray, List.set_cons_zero, List.set_cons_succ, i64_w, i32_w]
                  rfl
                 refine pure_ (i := 12) (N := some 44) (v := ?_) (a' := ?_) #[true, true, true, true, true, true, true, true, false, false, true, true, true, false, false, false, false, false, false] rfl rfl (any_of HT_.out (by kernel_rfl)) (fun _ _ _ h => h) (Or.inl ⟨by rfl, ?_⟩) ?_ ?_
                 rotate_left
                 ·intro w'
                  go_simp
                  with_reducible rfl
                 rotate_left
                 ·simp only [Act.put, List.setIfInBounds_toArray, List.set_cons_zero, List.set_cons_succ, i64_w, i32_w]
                  rfl
                 refine pure_ (i := 13) (N := some 45) (v := ?_) (a' := ?_) #[true, true, true, true, true, true, true, true, false, false, true, true, true, true, false, false, false, false, false] rfl rfl (any_of HT_.out (by kernel_rfl)) (fun _ _ _ h => h) (Or.inl ⟨by rfl, ?_⟩) ?_ ?_
                 rotate_left
                 ·intro w'
                  go_simp
                  with_reducible rfl
                 rotate_left
                 ·simp only [Act.put, List.setIfInBounds_toArray, List.set_cons_zero, List.set_cons_succ, i64_w, i32_w]
                  rfl
                 refine take_ (i := 8) (N := some 40) (v := ?_) (a' := ?_) #[true, true, true, true, true, true, true, true, true, false, true, true, true, true, false, false, false, false, false] rfl rfl (take_ofW HT_.out HW_.out (by kernel_rfl)) (fun _ _ _ h => h) (Or.inl ⟨by rfl, ?_⟩) hHeld ?_ ?_
                 rotate_left
                 ·rintro w' ⟨s0, s1, s2, s3, s4, s5⟩
                  go_simp
                  with_reducible rfl
                 rotate_left
                 ·simp only [Act.put, List.setIfInBounds_toArray, List.set_cons_zero, List.set_cons_succ, i64_w, i32_w]
                  rfl
                 refine pure_ (i := 9) (N := some 41) (v := ?_) (a' := ?_) #[true, true, true, true, true, true, true, true, true, true, true, true, true, true, false, false, false, false, false] rfl rfl (any_of HT_.out (by kernel_rfl)) (fun _ _ _ h => h) (Or.inl ⟨by rfl, ?_⟩) ?_ ?_
                 rotate_left
                 ·intro w'
                  go_simp
                  with_reducible rfl
                 rotate_left
                 ·simp only [Act.put, List.setIfInBounds_toArray, List.set_cons_zero, List.set_cons_succ, i64_w, i32_w]
                  rfl
                 refine take_ (i := 14) (N := some 46) (v := ?_) (a' := ?_) #[true, true, true, true, true, true, true, true, true, true, true, true, true, true, true, false, false, false, false] rfl rfl (take_ofW HT_.out HW_.out (by kernel_rfl)) (fun _ _ _ h => h) (Or.inl ⟨by rfl, ?_⟩) hHeld ?_ ?_
                 rotate_left
                 ·rintro w' ⟨s0, s1, s2, s3, s4, s5⟩
                  go_simp
                  with_reducible rfl
                 rotate_left
                 ·simp only [Act.put, List.setIfInBounds_toArray, List.set_cons_zero, List.set_cons_succ, i64_w, i32_w]
                  rfl
                 refine pure_ (i := 15) (N := some 47) (v := ?_) (a' := ?_) #[true, true, true, true, true, true, true, true, true, true, true, true, true, true, true, true, false, false, false] rfl rfl (any_of HT_.out (by kernel_rfl)) (fun _ _ _ h => h) (Or.inl ⟨by rfl, ?_⟩) ?_ ?_
                 rotate_left
                 ·intro w'
                  go_simp
                  with_reducible rfl
                 rotate_left
                 ·simp only [Act.put, List.setIfInBounds_toArray, List.set_cons_zero, List.set_cons_succ, i64_w, i32_w]
                  rfl
                 refine pure_ (i := 16) (N := some 48) (v := ?_) (a' := ?_) #[true, true, true, true, true, true, true, true, true, true, true, true, true, true, true, true, true, false, false] rfl rfl (any_of HT_.out (by kernel_rfl)) (fun _ _ _ h => h) (Or.inl ⟨by rfl, ?_⟩) ?_ ?_
                 rotate_left
                 ·intro w'
                  go_simp
                  with_reducible rfl
                 rotate_left
                 ·simp only [Act.put, List.setIfInBounds_toArray, List.set_cons_zero, List.set_cons_succ, i64_w, i32_w]
                  rfl
                 refine pure_ (i := 17) (N := some 49) (v := ?_) (a' := ?_) #[true, true, true, true, true, true, true, true, true, true, true, true, true, true, true, true, true, true, false] rfl rfl (any_of HT_.out (by kernel_rfl)) (fun _ _ _ h => h) (Or.inl ⟨by rfl, ?_⟩) ?_ ?_
                 rotate_left
                 ·intro w'
                  go_simp
                  with_reducible rfl
                 rotate_left
                 ·simp only [Act.put, List.setIfInBounds_toArray, List.set_cons_zero, List.set_cons_succ, i64_w, i32_w]
                  rfl
                 refine pure_ (i := 18) (N := some 50) (v := ?_) (a' := ?_) #[true, true, true, true, true, true, true, true, true, true, true, true, true, true, true, true, true, true, true] rfl rfl (any_of HT_.out (by kernel_rfl)) (fun _ _ _ h => h) (Or.inl ⟨by rfl, ?_⟩) ?_ ?_
                 rotate_left
                 ·intro w'
                  go_simp
                  with_reducible rfl
                 rotate_left
                 ·simp only [Act.put, List.setIfInBounds_toArray, List.set_cons_zero, List.set_cons_succ, i64_w, i32_w]
                  rfl
                 refine done_ (done_of HT_.out (by kernel_rfl)) ?_
                 try go_wp2
                 go_roundg k2
                 case measure => have := HK1.out; have := HK2.out; omega
                 case rel => exact ⟨(x10_2), (wrap64 (x27_2 + 1)), (by first | rfl | (simp; done) | (simp [*]; done)), (by first | rfl | (simp; done) | (simp [*]; done)), H', ⟨by have := HK1.out; have := HK2.out; omega⟩, ⟨by (with_reducible repeat (first | apply Kd.R_alloc | apply Kd.R_drewN | apply Kd.R_drew)); exact HO_7.out⟩, ⟨by (with_reducible repeat (first | refine blk_drewN ?_ _ | refine blk_drew ?_ | refine blk_alloc ?_ _)); exact BK485.out⟩, ⟨by repeat (first | (with_reducible first | exact HB.out | apply below_alloc | apply pw_below_drewN | apply below_drew1 | refine below_set ?_ GE485.out | refine below_set ?_ GE487.out) | exact HB.out)⟩⟩
               ·rw [if_neg c24] at H
                exact absurd H (by simp)
              ·rw [if_neg c23] at H
               exact absurd H (by simp)
            ·replace c15 := Bool.eq_false_iff.mpr c15
             subst c15
             have H1 : (liaison_Parents.l1 k2 l0 x7_1 x10_2 l0 (l0.length : Int) x21_1 l0 (l0.length : Int) (wrap64 (x27_2 + 1)) ((rd_T57 l0 x21_1).f0) ((rd_T57 l0 x21_1).f1)) = some (r1, r2) := by rw [if_neg (show ¬ (false = true) by decide)] at H; exact H
             clear H
             have H := H1
             clear H1
             have H' := Aside0.mk H
             clear H
             have p486 : 0 ≤ (x27_2 : Int) := of_decide_eq_true (by first | (with_reducible assumption) | assumption)
             have q486 : x27_2 < (l0.length : Int) := of_decide_eq_true (by first | (with_reducible assumption) | assumption)
             obtain ⟨ad486, A486_1, c486_1, e486, hx486_0, hx486_1, hl486_1, hi486_1⟩ := at_T57 HR0.out x27_2 p486 q486
             obtain rfl : ad484 = ad486 := (by injection e486)
             replace hx486_0 := (HB.out.cell (World.block_lt_of_cell? w _ hx486_0)).trans hx486_0
             replace hx486_1 := (HB.out.cell (World.block_lt_of_cell? w _ hx486_1)).trans hx486_1
             have HR486_1 := Aside0.mk hi486_1
             have HC486_1 := Aside0.mk hl486_1
             clear hi486_1 hl486_1
             replace p486 := eq_true p486
             replace q486 := eq_true q486
             try go_wp2_with (first | ((with_reducible refine gate_dst (N := 12) rfl ?_); (try (refine gate_guard (by rfl) ?_; dsimp only)); refine box_event ?hg (N := 12) ?hd (cs := #[.string (⟨#[]⟩ : ByteArray), .slice none 0 0]) (t := 57) ?hr ?_; (case hd => rfl); (case hg => rfl); (case hr => first | (go_simp; done) | (go_simp; rfl)); intro gb487 hg w38 hbox hb; have n0_ := Aside0.mk (Kd.R_below (by (with_reducible repeat (first | apply Kd.R_alloc | apply Kd.R_drewN | apply Kd.R_drew)); exact HO_7.out) hb); have n1_ := Aside0.mk (blk_below (g := gb485) (o := .cells #[.string ((rd_T57 l0 x21_1).f0), .slice A484_1 ((rd_T57 l0 x21_1).f1).length c484_1] 57 (0, 0)) (by (with_reducible repeat (first | refine blk_drewN ?_ _ | refine blk_drew ?_ | refine blk_alloc ?_ _)); exact BK485.out) hb); have n2_ := Aside0.mk (below_step (by repeat (first | (with_reducible first | exact HB.out | apply below_alloc | apply pw_below_drewN | apply below_drew1 | refine below_set ?_ GE485.out) | exact HB.out)) hb); have n3_ := Aside0.mk (hbox); have n4_ := Aside0.mk ((by rw [hg]; exact (below_size (by repeat (first | (with_reducible first | exact HB.out | apply below_alloc | apply pw_below_drewN | apply below_drew1 | refine below_set ?_ GE485.out) | exact HB.out))) : w.heap.size ≤ gb487)); have n5_ := Aside0.mk ((by rw [hg]; exact (below_size (by repeat (first | (with_reducible first | exact HB.out | apply below_alloc | apply pw_below_drewN | apply below_drew1 | refine below_set ?_ GE485.out) | exact HB.out))) : w.heap.size ≤ gb487)); have n6_ := Aside0.mk ((by rw [hg]; exact Nat.ne_of_lt (blk_lt (g := gb485) (o := .cells #[.string ((rd_T57 l0 x21_1).f0), .slice A484_1 ((rd_T57 l0 x21_1).f1).length c484_1] 57 (0, 0)) (by (with_reducible repeat (first | refine blk_drewN ?_ _ | refine blk_drew ?_ | refine blk_alloc ?_ _)); exact BK485.out)) : gb485 ≠ gb487)); have n7_ := Aside0.mk ((by rw [hg]; exact Nat.ne_of_gt (blk_lt (g := gb485) (o := .cells #[.string ((rd_T57 l0 x21_1).f0), .slice A484_1 ((rd_T57 l0 x21_1).f1).length c484_1] 57 (0, 0)) (by (with_reducible repeat (first | refine blk_drewN ?_ _ | refine blk_drew ?_ | refine blk_alloc ?_ _)); exact BK485.out)) : gb487 ≠ gb485)); clear HO_7; clear BK485; clear HB; have HO_7 := n0_; have BK485 := n1_; have HB := n2_; have BK487 := n3_; have GW487 := n4_; have GE487 := n5_; have NB485_487 := n6_; have NB487_485 := n7_; clear n0_ n1_ n2_ n3_ n4_ n5_ n6_ n7_; clear hb hbox hg; have hnb39 := NB487_485.out; have hnc39 := NB485_487.out; have hcz40_0 : w38.cell? ⟨gb487, 0, none⟩ = some (.string (⟨#[]⟩ : ByteArray)) := (blk_cell BK487.out 0).trans rfl; have hcz40_1 : w38.cell? ⟨gb487, 1, none⟩ = some (.slice none 0 0) := (blk_cell BK487.out 1).trans rfl; have hfz40_0 := blk_frozen BK487.out 0; have hfz40_1 := blk_frozen BK487.out 1))
             have n0_ : Aside0 (Kd.R (Kd.int .i64) 3 ((w38.setCell ⟨gb487, 0, none⟩ (.string ((rd_T57 l0 x27_2).f0))).setCell ⟨gb487, 1, none⟩ (.slice A486_1 ((rd_T57 l0 x27_2).f1).length c486_1)) w.heap.size (fun _ => True) u7 x7_1) := ⟨by (with_reducible repeat (first | apply Kd.R_alloc | apply Kd.R_drewN | apply Kd.R_drew)); exact Kd.R_mono (Kd.R_far (p := ⟨gb487, 1, none⟩) (Kd.R_far (p := ⟨gb487, 0, none⟩) (Kd.R_types HO_7.out BK487.out (by decide)) (fun _ hk => hk.2) (.string ((rd_T57 l0 x27_2).f0))) (fun _ hk => hk.2) (.slice A486_1 ((rd_T57 l0 x27_2).f1).length c486_1)) (fun _ hk => trivial)⟩
             have n1_ : Aside0 (((w38.setCell ⟨gb487, 0, none⟩ (.string ((rd_T57 l0 x27_2).f0))).setCell ⟨gb487, 1, none⟩ (.slice A486_1 ((rd_T57 l0 x27_2).f1).length c486_1)).heap[gb485]? = some (.cells #[.string ((rd_T57 l0 x21_1).f0), .slice A484_1 ((rd_T57 l0 x21_1).f1).length c484_1] 57 (0, 0))) := ⟨by (with_reducible repeat (first | refine blk_drewN ?_ _ | refine blk_drew ?_ | refine blk_alloc ?_ _)); refine blk_far ?_ NB485_487.out _; (with_reducible repeat (first | refine blk_drewN ?_ _ | refine blk_drew ?_ | refine blk_alloc ?_ _)); refine blk_far ?_ NB485_487.out _; (with_reducible repeat (first | refine blk_drewN ?_ _ | refine blk_drew ?_ | refine blk_alloc ?_ _)); exact BK485.out⟩
             have n2_ : Aside0 (((w38.setCell ⟨gb487, 0, none⟩ (.string ((rd_T57 l0 x27_2).f0))).setCell ⟨gb487, 1, none⟩ (.slice A486_1 ((rd_T57 l0 x27_2).f1).length c486_1)).heap[gb487]? = some (.cells #[.string ((rd_T57 l0 x27_2).f0), .slice A486_1 ((rd_T57 l0 x27_2).f1).length c486_1] 57 (0, 0))) := ⟨by (with_reducible repeat (first | refine blk_drewN ?_ _ | refine blk_drew ?_ | refine blk_alloc ?_ _)); refine blk_put (cs := #[.string ((rd_T57 l0 x27_2).f0), .slice none 0 0]) ?_ 1 _ rfl; (with_reducible repeat (first | refine blk_drewN ?_ _ | refine blk_drew ?_ | refine blk_alloc ?_ _)); refine blk_put (cs := #[.string (⟨#[]⟩ : ByteArray), .slice none 0 0]) ?_ 0 _ rfl; (with_reducible repeat (first | refine blk_drewN ?_ _ | refine blk_drew ?_ | refine blk_alloc ?_ _)); exact BK487.out⟩
             have n3_ : Aside0 (Below w.heap.size w ((w38.setCell ⟨gb487, 0, none⟩ (.string ((rd_T57 l0 x27_2).f0))).setCell ⟨gb487, 1, none⟩ (.slice A486_1 ((rd_T57 l0 x27_2).f1).length c486_1))) := ⟨by repeat (first | (with_reducible first | exact HB.out | apply below_alloc | apply pw_below_drewN | apply below_drew1 | refine below_set ?_ GE485.out | refine below_set ?_ GE487.out) | exact HB.out)⟩
             (try clear HO_7)
             (try clear BK485)
             (try clear BK487)
             (try clear HB)
             generalize ((w38.setCell ⟨gb487, 0, none⟩ (.string ((rd_T57 l0 x27_2).f0))).setCell ⟨gb487, 1, none⟩ (.slice A486_1 ((rd_T57 l0 x27_2).f1).length c486_1)) = w41 at n0_ n1_ n2_ n3_ ⊢
             have HO_7 := n0_
             have BK485 := n1_
             have BK487 := n2_
             have HB := n3_
             clear n0_ n1_ n2_ n3_
             have n0_ := Aside0.mk (Kd.R_drew HO_7.out)
             have n1_ := Aside0.mk (blk_drew BK485.out)
             have n2_ := Aside0.mk (blk_drew BK487.out)
             have n3_ := Aside0.mk (below_drew1 HB.out)
             clear HO_7
             clear BK485
             clear BK487
             clear HB
             have HO_7 := n0_
             have BK485 := n1_
             have BK487 := n2_
             have HB := n3_
             clear n0_ n1_ n2_ n3_
             refine start_ (n := 19) (S := fun w' => w'.cell? ⟨gb485, 0, none⟩ = some (.string ((rd_T57 l0 x21_1).f0)) ∧ w'.cell? ⟨gb485, 1, none⟩ = some (.slice A484_1 ((rd_T57 l0 x21_1).f1).length c484_1) ∧ w'.cell? ⟨gb487, 0, none⟩ = some (.string ((rd_T57 l0 x27_2).f0)) ∧ w'.cell? ⟨gb487, 1, none⟩ = some (.slice A486_1 ((rd_T57 l0 x27_2).f1).length c486_1)) (ds := []) #[false, false, false, false, false, false, false, false, false, false, false, false, false, false, false, false, false, false, false] (by kernel_rfl) rfl rfl ⟨(blk_cell BK485.out 0).trans rfl, (blk_cell BK485.out 1).trans rfl, (blk_cell BK487.out 0).trans rfl, (blk_cell BK487.out 1).trans rfl⟩ (fun hHeld => ?_); refine with_tabW liaison_Parents.tab12 liaison_Parents.bits12 (fun HT_ HW_ => ?_)
             generalize w41.drew = w42 at HO_7 BK485 BK487 HB hHeld ⊢
             refine take_ (i := 0) (N := some 32) (v := ?_) (a' := ?_) #[true, false, false, false, false, false, false, false, false, false, false, false, false, false, false, false, false, false, false] rfl rfl (take_ofW HT_.out HW_.out (by kernel_rfl)) (fun _ _ _ h => h) (Or.inl ⟨by rfl, ?_⟩) hHeld ?_ ?_
             rotate_left
             ·rintro w' ⟨s0, s1, s2, s3⟩
              go_simp
              with_reducible rfl
             rotate_left
             ·simp only [Act.put, List.setIfInBounds_toArray, List.set_cons_zero, List.set_cons_succ, i64_w, i32_w]
              rfl
             refine take_ (i := 1) (N := some 33) (v := ?_) (a' := ?_) #[true, true, false, false, false, false, false, false, false, false, false, false, false, false, false, false, false, false, false] rfl rfl (take_ofW HT_.out HW_.out (by kernel_rfl)) (fun _ _ _ h => h) (Or.inl ⟨by rfl, ?_⟩) hHeld ?_ ?_
             rotate_left
             ·rintro w' ⟨s0, s1, s2, s3⟩
              go_simp
              with_reducible rfl
             rotate_left
             ·simp only [Act.put, List.setIfInBounds_toArray, List.set_cons_zero, List.set_cons_succ, i64_w, i32_w]
              rfl
             refine one_ (i := 2) (N := some 34) #[true, true, true, false, false, false, false, false, false, false, false, false, false, false, false, false, false, false, false] rfl rfl (one_of HT_.out (by kernel_rfl)) (by decide) (fun K hK => ?_)
             refine goes_ Tryd.func52 (by kernel_rfl) rfl #[.agg #[.string ((rd_T57 l0 x21_1).f0), .slice A484_1 ((rd_T57 l0 x21_1).f1).length c484_1], .agg #[.string ((rd_T57 l0 x27_2).f0), .slice A486_1 ((rd_T57 l0 x27_2).f1).length c486_1]] (by rfl) rfl rfl (by (try simp only [List.map_toArray, List.map_cons, List.map_nil]); first | done | rfl | (simp only [List.length_drop, List.length_take]; rfl)) ?_
             with_reducible refine (liaison_inside.calls k2 ((rd_T57 l0 x21_1).f0) _ _ ((rd_T57 l0 x21_1).f1) ((rd_T57 l0 x27_2).f0) _ _ ((rd_T57 l0 x27_2).f1) false _ ?side1 ?side2 ?side3 ?side4 A14.out).mono ?_
             (case side1 => repeat (first | exact (Kd.C_below HR484_1.out HB.out) | (with_reducible refine Kd.C_alloc ?_ _) | (with_reducible refine Kd.C_drewN ?_ _) | (with_reducible refine Kd.C_drew ?_)))
             (case side2 => exact HC484_1.out)
             (case side3 => repeat (first | exact (Kd.C_below HR486_1.out HB.out) | (with_reducible refine Kd.C_alloc ?_ _) | (with_reducible refine Kd.C_drewN ?_ _) | (with_reducible refine Kd.C_drew ?_)))
             (case side4 => exact HC486_1.out)
             rintro e w43 ⟨rfl, hb⟩
             refine ⟨_, rfl, ?_⟩
             have n0_ := Aside0.mk (Kd.R_below (by (with_reducible repeat (first | apply Kd.R_alloc | apply Kd.R_drewN | apply Kd.R_drew)); exact HO_7.out) hb)
             have n1_ := Aside0.mk (blk_below (g := gb485) (o := .cells #[.string ((rd_T57 l0 x21_1).f0), .slice A484_1 ((rd_T57 l0 x21_1).f1).length c484_1] 57 (0, 0)) (by (with_reducible repeat (first | refine blk_drewN ?_ _ | refine blk_drew ?_ | refine blk_alloc ?_ _)); exact BK485.out) hb)
             have n2_ := Aside0.mk (blk_below (g := gb487) (o := .cells #[.string ((rd_T57 l0 x27_2).f0), .slice A486_1 ((rd_T57 l0 x27_2).f1).length c486_1] 57 (0, 0)) (by (with_reducible repeat (first | refine blk_drewN ?_ _ | refine blk_drew ?_ | refine blk_alloc ?_ _)); exact BK487.out) hb)
             have n3_ := Aside0.mk (below_step (by repeat (first | (with_reducible first | exact HB.out | apply below_alloc | apply pw_below_drewN | apply below_drew1 | refine below_set ?_ GE485.out | refine below_set ?_ GE487.out) | exact HB.out)) hb)
             clear HO_7
             clear BK485
             clear BK487
             clear HB
             have HO_7 := n0_
             have BK485 := n1_
             have BK487 := n2_
             have HB := n3_
             clear n0_ n1_ n2_ n3_
             (try clear hb)
             (try clear hb2)
             (try clear hk)
             (try clear hi)
             refine hK.out _ _ ⟨(blk_cell BK485.out 0).trans rfl, (blk_cell BK485.out 1).trans rfl, (blk_cell BK487.out 0).trans rfl, (blk_cell BK487.out 1).trans rfl⟩ (fun hHeld => ?_)
             clear hK K
             refine norm_ (a' := ?_) ?_ ?_
             rotate_left
             ·show Act.put _ (some 34) _ = _
              simp only [Act.put, List.setIfInBounds_toArray, List.set_cons_zero, List.set_cons_succ, i64_w, i32_w]
              rfl
             refine pure_ (i := 3) (N := some 35) (v := ?_) (a' := ?_) #[true, true, true, true, false, false, false, false, false, false, false, false, false, false, false, false, false, false, false] rfl rfl (any_of HT_.out (by kernel_rfl)) (fun _ _ _ h => h) (Or.inl ⟨by rfl, ?_⟩) ?_ ?_
             rotate_left
             ·intro w'
              go_simp
              with_reducible rfl
             rotate_left
             ·simp only [Act.put, List.setIfInBounds_toArray, List.set_cons_zero, List.set_cons_succ, i64_w, i32_w]
              rfl
             refine pure_ (i := 4) (N := some 36) (v := undef) (a' := ?_) #[true, true, true, true, true, false, false, false, false, false, false, false, false, false, false, false, false, false, false] rfl rfl (any_of HT_.out (by kernel_rfl)) (fun _ _ _ h => h) (Or.inr ⟨by rfl, rfl⟩) ?_ ?_
             rotate_left
             ·simp only [Act.put, List.setIfInBounds_toArray, List.set_cons_zero, List.set_cons_succ, i64_w, i32_w]
              rfl
             refine pure_ (i := 5) (N := some 37) (v := undef) (a' := ?_) #[true, true, true, true, true, true, false, false, false, false, false, false, false, false, false, false, false, false, false] rfl rfl (any_of HT_.out (by kernel_rfl)) (fun _ _ _ h => h) (Or.inr ⟨by rfl, rfl⟩) ?_ ?_
             rotate_left
             ·simp only [Act.put, List.setIfInBounds_toArray, List.set_cons_zero, List.set_cons_succ, i64_w, i32_w]
              rfl
             refine pure_ (i := 6) (N := some 38) (v := undef) (a' := ?_) #[true, true, true, true, true, true, true, false, false, false, false, false, false, false, false, false, false, false, false] rfl rfl (any_of HT_.out (by kernel_rfl)) (fun _ _ _ h => h) (Or.inr ⟨by rfl, rfl⟩) ?_ ?_
             rotate_left
             ·simp only [Act.put, List.setIfInBounds_toArray, List.set_cons_zero, List.set_cons_succ, i64_w, i32_w]
              rfl
             refine pure_ (i := 7) (N := some 39) (v := undef) (a' := ?_) #[true, true, true, true, true, true, true, true, false, false, false, false, false, false, false, false, false, false, false] rfl rfl (any_of HT_.out (by kernel_rfl)) (fun _ _ _ h => h) (Or.inr ⟨by rfl, rfl⟩) ?_ ?_
             rotate_left
             ·simp only [Act.put, List.setIfInBounds_toArray, List.set_cons_zero, List.set_cons_succ, i64_w, i32_w]
              rfl
             refine pure_ (i := 8) (N := some 40) (v := undef) (a' := ?_) #[true, true, true, true, true, true, true, true, true, false, false, false, false, false, false, false, false, false, false] rfl rfl (any_of HT_.out (by kernel_rfl)) (fun _ _ _ h => h) (Or.inr ⟨by rfl, rfl⟩) ?_ ?_
             rotate_left
             ·simp only [Act.put, List.setIfInBounds_toArray, List.set_cons_zero, List.set_cons_succ, i64_w, i32_w]
              rfl
             refine pure_ (i := 9) (N := some 41) (v := undef) (a' := ?_) #[true, true, true, true, true, true, true, true, true, true, false, false, false, false, false, false, false, false, false] rfl rfl (any_of HT_.out (by kernel_rfl)) (fun _ _ _ h => h) (Or.inr ⟨by rfl, rfl⟩) ?_ ?_
             rotate_left
             ·simp only [Act.put, List.setIfInBounds_toArray, List.set_cons_zero, List.set_cons_succ, i64_w, i32_w]
              rfl
             refine pure_ (i := 10) (N := some 42) (v := undef) (a' := ?_) #[true, true, true, true, true, true, true, true, true, true, true, false, false, false, false, false, false, false, false] rfl rfl (any_of HT_.out (by kernel_rfl)) (fun _ _ _ h => h) (Or.inr ⟨by rfl, rfl⟩) ?_ ?_
             rotate_left
             ·simp only [Act.put, List.setIfInBounds_toArray, List.set_cons_zero, List.set_cons_succ, i64_w, i32_w]
              rfl
             refine pure_ (i := 11) (N := some 43) (v := undef) (a' := ?_) #[true, true, true, true, true, true, true, true, true, true, true, true, false, false, false, false, false, false, false] rfl rfl (any_of HT_.out (by kernel_rfl)) (fun _ _ _ h => h) (Or.inr ⟨by rfl, rfl⟩) ?_ ?_
             rotate_left
             ·simp only [Act.put, List.setIfInBounds_toArray, List.set_cons_zero, List.set_cons_succ, i64_w, i32_w]
              rfl
             refine pure_ (i := 12) (N := some 44) (v := undef) (a' := ?_) #[true, true, true, true, true, true, true, true, true, true, true, true, true, false, false, false, false, false, false] rfl rfl (any_of HT_.out (by kernel_rfl)) (fun _ _ _ h => h) (Or.inr ⟨by rfl, rfl⟩) ?_ ?_
             rotate_left
             ·simp only [Act.put, List.setIfInBounds_toArray, List.set_cons_zero, List.set_cons_succ, i64_w, i32_w]
              rfl
             refine pure_ (i := 13) (N := some 45) (v := undef) (a' := ?_) #[true, true, true, true, true, true, true, true, true, true, true, true, true, true, false, false, false, false, false] rfl rfl (any_of HT_.out (by kernel_rfl)) (fun _ _ _ h => h) (Or.inr ⟨by rfl, rfl⟩) ?_ ?_
             rotate_left
             ·simp only [Act.put, List.setIfInBounds_toArray, List.set_cons_zero, List.set_cons_succ, i64_w, i32_w]
              rfl
             refine pure_ (i := 14) (N := some 46) (v := undef) (a' := ?_) #[true, true, true, true, true, true, true, true, true, true, true, true, true, true, true, false, false, false, false] rfl rfl (any_of HT_.out (by kernel_rfl)) (fun _ _ _ h => h) (Or.inr ⟨by rfl, rfl⟩) ?_ ?_
             rotate_left
             ·simp only [Act.put, List.setIfInBounds_toArray, List.set_cons_zero, List.set_cons_succ, i64_w, i32_w]
              rfl
             refine pure_ (i := 15) (N := some 47) (v := undef) (a' := ?_) #[true, true, true, true, true, true, true, true, true, true, true, true, true, true, true, true, false, false, false] rfl rfl (any_of HT_.out (by kernel_rfl)) (fun _ _ _ h => h) (Or.inr ⟨by rfl, rfl⟩) ?_ ?_
             rotate_left
             ·simp only [Act.put, List.setIfInBounds_toArray, List.set_cons_zero, List.set_cons_succ, i64_w, i32_w]
              rfl
             refine pure_ (i := 16) (N := some 48) (v := undef) (a' := ?_) #[true, true, true, true, true, true, true, true, true, true, true, true, true, true, true, true, true, false, false] rfl rfl (any_of HT_.out (by kernel_rfl)) (fun _ _ _ h => h) (Or.inr ⟨by rfl, rfl⟩) ?_ ?_
             rotate_left
             ·simp only [Act.put, List.setIfInBounds_toArray, List.set_cons_zero, List.set_cons_succ, i64_w, i32_w]
              rfl
             refine pure_ (i := 17) (N := some 49) (v := undef) (a' := ?_) #[true, true, true, true, true, true, true, true, true, true, true, true, true, true, true, true, true, true, false] rfl rfl (any_of HT_.out (by kernel_rfl)) (fun _ _ _ h => h) (Or.inr ⟨by rfl, rfl⟩) ?_ ?_
             rotate_left
             ·simp only [Act.put, List.setIfInBounds_toArray, List.set_cons_zero, List.set_cons_succ, i64_w, i32_w]
              rfl
             refine pure_ (i := 18) (N := some 50) (v := ?_) (a' := ?_) #[true, true, true, true, true, true, true, true, true, true, true, true, true, true, true, true, true, true, true] rfl rfl (any_of HT_.out (by kernel_rfl)) (fun _ _ _ h => h) (Or.inl ⟨by rfl, ?_⟩) ?_ ?_
             rotate_left
             ·intro w'
              go_simp
              with_reducible rfl
             rotate_left
             ·simp only [Act.put, List.setIfInBounds_toArray, List.set_cons_zero, List.set_cons_succ, i64_w, i32_w]
              rfl
             refine done_ (done_of HT_.out (by kernel_rfl)) ?_
             try go_wp2
             go_roundg k2
             case measure => have := HK1.out; have := HK2.out; omega
             case rel => exact ⟨(x10_2), (wrap64 (x27_2 + 1)), (by first | rfl | (simp; done) | (simp [*]; done)), (by first | rfl | (simp; done) | (simp [*]; done)), H', ⟨by have := HK1.out; have := HK2.out; omega⟩, ⟨by (with_reducible repeat (first | apply Kd.R_alloc | apply Kd.R_drewN | apply Kd.R_drew)); exact HO_7.out⟩, ⟨by (with_reducible repeat (first | refine blk_drewN ?_ _ | refine blk_drew ?_ | refine blk_alloc ?_ _)); exact BK485.out⟩, ⟨by repeat (first | (with_reducible first | exact HB.out | apply below_alloc | apply pw_below_drewN | apply below_drew1 | refine below_set ?_ GE485.out | refine below_set ?_ GE487.out) | exact HB.out)⟩⟩
           ·rw [if_neg c13] at H
            exact absurd H (by simp)
          ·rw [if_neg c12] at H
           exact absurd H (by simp)
         ·rw [if_neg c11] at H
          have c11b0 : decide (x27_2 < (l0.length : Int)) = false := decide_eq_false c11
          clear c11
          by_cases c44 : x7_1.length < 17592186044416
          ·rw [if_pos c44] at H
           have LMc44 := Aside0.mk c44
           clear c44
           obtain ⟨y490, hy490⟩ : ∃ y_ : List Int, y_ = (x7_1 ++ [x10_2]) := ⟨_, rfl⟩
           replace H : (liaison_Parents.l0 k2 l0 y490 l0 (l0.length : Int) (wrap64 (x21_1 + 1))) = some (r1, r2) := by first | (rw [hy490]; with_reducible exact H) | (have H2_ := (Option.bind_some _ _).symm.trans H; rw [hy490]; with_reducible exact H2_) | (have H2_ := (Option.bind_some _ _).symm.trans H; with_reducible exact H2_) | with_reducible exact H | (rw [hy490]; exact H) | exact H
           have Ny490 := Aside0.mk hy490
           clear hy490
           have H' := Aside0.mk H
           clear H
           go_wp2_with (first | ((with_reducible refine gate_builtin (b := .append) (xs := #[.tmp 53, .tmp 55]) rfl ?_); (try (refine gate_guard (by rfl) ?_; dsimp only)); at_builtin; refine Kd.R_append (Kd.int .i64) (w0 := w) w.heap.size rfl (.tmp 53) (.tmp 55) 23 3 (.int .i64 0) 8 rfl Tryd.underlying23 info3 rfl (by decide) (by omega) u7 x7_1 x10_2 [.int .i64 x10_2] (fun _ => True) (fun _ => False) rfl rfl ?aP (fun _ hk => hk.elim) ?aF ?aO ?aB ?aS ?aL ?_; (case aP => exact rfl); (case aB => exact (by repeat (first | (with_reducible first | exact HB.out | apply below_alloc | apply pw_below_drewN | apply below_drew1 | refine below_set ?_ GE485.out) | exact HB.out))); (case aF => exact (fun _ _ => trivial)); (case aO => exact (by (with_reducible repeat (first | apply Kd.R_alloc | apply Kd.R_drewN | apply Kd.R_drew)); exact HO_7.out)); (case aS => exact (below_size (by repeat (first | (with_reducible first | exact HB.out | apply below_alloc | apply pw_below_drewN | apply below_drew1 | refine below_set ?_ GE485.out) | exact HB.out)))); (case aL => have := LMc44.out; omega); intro v491 w45 ho hb hg hat; rw [← Ny490.out] at ho; have n0_ := Aside0.mk (blk_grown (g := gb485) (o := .cells #[.string ((rd_T57 l0 x21_1).f0), .slice A484_1 ((rd_T57 l0 x21_1).f1).length c484_1] 57 (0, 0)) (by (with_reducible repeat (first | refine blk_drewN ?_ _ | refine blk_drew ?_ | refine blk_alloc ?_ _)); exact BK485.out) hg (Kd.R_ne HO_7.out BK485.out (by decide))); have n1_ := Aside0.mk (hb); have n2_ := Aside0.mk (ho); clear BK485; clear HB; clear HO_7; have BK485 := n0_; have HB := n1_; have HO492 := n2_; clear n0_ n1_ n2_; clear ho hb hg hat))
           go_roundg k2
           case measure => have := HK1.out; have := HK2.out; omega
           case rel => exact ⟨(y490), (wrap64 (x21_1 + 1)), (by first | rfl | (simp; done) | (simp [*]; done)), H', ⟨by have := HK1.out; have := HK2.out; omega⟩, ⟨by (with_reducible repeat (first | apply Kd.R_alloc | apply Kd.R_drewN | apply Kd.R_drew)); exact HO492.out⟩, ⟨by repeat (first | (with_reducible first | exact HB.out | apply below_alloc | apply pw_below_drewN | apply below_drew1 | refine below_set ?_ GE485.out) | exact HB.out)⟩⟩
          ·rw [if_neg c44] at H
           exact absurd H (by simp)
      ·rw [if_neg c8] at H
       exact absurd H (by simp)
     ·rw [if_neg c7] at H
      exact absurd H (by simp)
    ·rw [if_neg c6] at H
     have c6b0 : decide (x21_1 < (l0.length : Int)) = false := decide_eq_false c6
     clear c6
     simp only [Option.some.injEq, Prod.mk.injEq] at H
     obtain ⟨rfl, rfl⟩ := H
     go_wp2
     go_ret2
     exact ⟨_, by first | rfl | (simp [errW_none, errW_some] <;> rfl) | (simp [*, errW_none, errW_some] <;> rfl), by (with_reducible repeat (first | apply Kd.R_alloc | apply Kd.R_drewN | apply Kd.R_drew)); exact HO_7.out, by repeat (first | (with_reducible first | exact HB.out | apply below_alloc | apply pw_below_drewN | apply below_drew1) | exact HB.out)⟩
 ·rw [if_neg c4] at H
  have c4b0 : (t483 == 0) = false := beq_eq_false_iff_ne.mpr c4
  have c4b1 : (t483 != 0) = true := bne_iff_ne.mpr c4
  simp only [Option.some.injEq, Prod.mk.injEq] at H
  obtain ⟨rfl, rfl⟩ := H
  go_enter Tryd.func26, Tryd.ntmps26
  go_wp2_with (first | ((with_reducible refine gate_callee (f := 29) rfl ?_); refine goesL_ (some 15) rfl rfl Tryd.func29 (by kernel_rfl) rfl #[.slice A0 l0.length c0, .int .i64 a1] rfl (by (try simp only [List.map_toArray, List.map_cons, List.map_nil]); first | done | rfl | (simp only [List.length_drop, List.length_take]; rfl)) ?_; (with_reducible refine (liaison_CheckGroups.calls _ _ l0 a1 t483 _ ?side1 ?side2 A3.out).mono ?_); (case side1 => repeat (first | exact HR0.out | (with_reducible refine Kd.C_alloc ?_ _) | (with_reducible refine Kd.C_drewN ?_ _) | (with_reducible refine Kd.C_drew ?_))); (case side2 => exact HC0.out); rintro e w46 ⟨rfl, hb⟩; refine ⟨_, rfl, ?_⟩; have n0_ := Aside0.mk (below_step (by repeat (first | (with_reducible first | exact HB.out | apply below_alloc | apply pw_below_drewN | apply below_drew1) | exact HB.out)) hb); clear HB; have HB := n0_; clear n0_; (try clear hb); (try clear hb2); (try clear hk); (try clear hi)))
  go_ret2
  exact ⟨_, by first | rfl | (simp [errW_none, errW_some] <;> rfl) | (simp [*, errW_none, errW_some] <;> rfl), by first | exact Kd.R_nil _ _ _ _ _ | exact Kd.N_nil _ _ _ _ _ | exact Kd.V_nil _ _ _ _ _ | exact Kd.Q_nil _ _ _ _ _ | exact Kd.S_nil _ _ _ _ _, by repeat (first | (with_reducible first | exact HB.out | apply below_alloc | apply pw_below_drewN | apply below_drew1) | exact HB.out)⟩
end
end Go.Proofs.YtbghfbhlbfcloaaDoor.PL
namespace Go.Proofs.YtbghfbhlbfcloaaDoor.PL
section
open Go.RowKit Go.Proofs.YtbghfbhlbfcloaaDoorW.PrintWords Go.Proofs.YtbghfbhlbfcloaaDoorW.PrintLast Go.Proofs.YtbghfbhlbfcloaaDoorW.PrintMore
attribute [local go_sem] max2_int min2_int max_two min_two max_three min_three max_four min_four   -- for this text's walks alone
set_option linter.unusedVariables false
set_option linter.unusedSimpArgs false
attribute [local go_sem high] eqA68
/-! ### liaison_Joints: function 11 -/
def liaison_Joints.l0 : Nat → List Int → List Int → Int → List Int → List Int → Int → Int → Option (List Int × Int)
 | 0, _, _, _, _, _, _, _ => none
 | k + 1, x1, x6, x7, x9, x26, x27, x28 => if x28 < x27 then (if 0 ≤ x28 then (if x28 < (x26.length : Int) then (if (x1.length : Int) > 2 then (if 0 ≤ (rd x26 x28) then ((liaison_links_connected.f k x6 (Go.bits .andNot .u64 x7 (shl .u64 1 (rd x26 x28)))).bind fun t188 => (if t188 = true then (liaison_Joints.l0 k x1 x6 x7 x9 x26 x27 (wrap64 (x28 + 1))) else (if x9.length < 17592186044416 then (liaison_Joints.l0 k x1 x6 x7 (x9 ++ [rd x26 x28]) x26 x27 (wrap64 (x28 + 1))) else (none)))) else (none)) else (liaison_Joints.l0 k x1 x6 x7 x9 x26 x27 (wrap64 (x28 + 1)))) else (none)) else (none)) else (some (x9, 0))
def liaison_Joints.f (k : Nat) (a0_0 : Int) (l0_1 : List (S68)) (l1 : List Int) : Option (List Int × Int) := (liaison_opened.f k a0_0 l0_1 l1).bind fun bt181 => (if bt181.2.2 = 0 then ((liaison_links_connected.f k bt181.1 bt181.2.1).bind fun t186 => (if t186 = true then (liaison_Joints.l0 k l1 bt181.1 bt181.2.1 ([] : List Int) l1 (l1.length : Int) 0) else (some (([] : List Int), 17)))) else (some (([] : List Int), bt181.2.2)))
theorem liaison_Joints.mono_l : ∀ k, (∀ y0 y1 y2 y3 y4 y5 y6, LeO (liaison_Joints.l0 k y0 y1 y2 y3 y4 y5 y6) (liaison_Joints.l0 (k + 1) y0 y1 y2 y3 y4 y5 y6))
 | 0 => fun _ _ _ _ _ _ _ r h => by simp [liaison_Joints.l0] at h
 | k + 1 => by
  have ih0 := liaison_Joints.mono_l k
  ·intro y0 y1 y2 y3 y4 y5 y6
   unfold liaison_Joints.l0
   repeat' first
   | (with_reducible exact ih0 _ _ _ _ _ _ _)
   | (with_reducible exact liaison_links_connected.mono _ _ _)
   | (with_reducible exact liaison_opened.mono _ _ _ _)
   | (with_reducible exact LeO.refl _)
   | (with_reducible exact LeO.none _)
   | (with_reducible refine LeO.ite ?_ ?_)
   | (with_reducible refine LeO.bind ?_ (fun _ => ?_))
   | exact ih0 _ _ _ _ _ _ _
   | exact liaison_links_connected.mono _ _ _
   | exact liaison_opened.mono _ _ _ _
   | exact LeO.none _
   | refine LeO.ite ?_ ?_
   | refine LeO.bind ?_ (fun _ => ?_)
theorem liaison_Joints.mono : ∀ a0 a1 a2 k, LeO (liaison_Joints.f k a0 a1 a2) (liaison_Joints.f (k + 1) a0 a1 a2) := by
 intro a0 a1 a2 k
 have ih0 := liaison_Joints.mono_l k
 unfold liaison_Joints.f
 repeat' first
   | (with_reducible exact ih0 _ _ _ _ _ _ _)
   | (with_reducible exact liaison_links_connected.mono _ _ _)
   | (with_reducible exact liaison_opened.mono _ _ _ _)
   | (with_reducible exact LeO.refl _)
   | (with_reducible exact LeO.none _)
   | (with_reducible refine LeO.ite ?_ ?_)
   | (with_reducible refine LeO.bind ?_ (fun _ => ?_))
   | exact ih0 _ _ _ _ _ _ _
   | exact liaison_links_connected.mono _ _ _
   | exact liaison_opened.mono _ _ _ _
   | exact LeO.none _
   | refine LeO.ite ?_ ?_
   | refine LeO.bind ?_ (fun _ => ?_)
set_option maxHeartbeats 8000000 in
set_option maxRecDepth 100000 in
theorem liaison_Joints.calls (k : Nat) (a0_0 : Int) (A0_1 : Option Addr) (c0_1 : Nat) (l0_1 : List (S68)) (A1 : Option Addr) (c1 : Nat) (l1 : List Int) (r1 : List Int) (r2 : Int) (w : World) (hr0_1 : Kd.C k68 w A0_1 l0_1.length l0_1) (hc0_1 : l0_1.length ≤ c0_1) (hr1 : Kd.C (Kd.int .i64) w A1 l1.length l1) (hc1 : l1.length ≤ c1) (hG : Kd.C (Kd.int .u8) w (some tabA) tabL.length tabL) (h : liaison_Joints.f k a0_0 l0_1 l1 = some (r1, r2)) :
  Calls Tryd.prog 11 #[.agg #[.int .i64 a0_0, .slice A0_1 l0_1.length c0_1], .slice A1 l1.length c1] w fun e w' => ∃ v0_ : Value, e = .returned (.tuple #[v0_, .int .i64 r2]) ∧ Kd.R (Kd.int .i64) 3 w' w.heap.size (fun _ => True) v0_ r1 ∧ Below w.heap.size w w' := by
 have hu28 := Tryd.underlying28
 have HR0_1 := Aside0.mk hr0_1
 have HC0_1 := Aside0.mk hc0_1
 clear hr0_1 hc0_1
 have HR1 := Aside0.mk hr1
 have HC1 := Aside0.mk hc1
 clear hr1 hc1
 have HB := Aside0.mk (Below.refl w.heap.size w)
 have HG := Aside0.mk hG
 clear hG
 have H : ((liaison_opened.f k a0_0 l0_1 l1).bind fun bt181 => (if bt181.2.2 = 0 then ((liaison_links_connected.f k bt181.1 bt181.2.1).bind fun t186 => (if t186 = true then (liaison_Joints.l0 k l1 bt181.1 bt181.2.1 ([] : List Int) l1 (l1.length : Int) 0) else (some (([] : List Int), 17)))) else (some (([] : List Int), bt181.2.2)))) = some (r1, r2) := h
 clear h
 replace H := Option.bind_eq_some_iff.mp H
 obtain ⟨⟨t181, t184, t185⟩, A30, H⟩ := H
 replace H : (if t185 = 0 then ((liaison_links_connected.f k t181 t184).bind fun t186 => (if t186 = true then (liaison_Joints.l0 k l1 t181 t184 ([] : List Int) l1 (l1.length : Int) 0) else (some (([] : List Int), 17)))) else (some (([] : List Int), t185))) = some (r1, r2) := H
 have A3 := Aside0.mk A30
 clear A30
 by_cases c4 : t185 = 0
 ·rw [if_pos c4] at H
  have c4b0 : (t185 == 0) = true := beq_iff_eq.mpr c4
  have c4b1 : (t185 != 0) = false := bne_eq_false_iff_eq.mpr c4
  clear c4
  replace H := Option.bind_eq_some_iff.mp H
  obtain ⟨t186, A50, H⟩ := H
  replace H : (if t186 = true then (liaison_Joints.l0 k l1 t181 t184 ([] : List Int) l1 (l1.length : Int) 0) else (some (([] : List Int), 17))) = some (r1, r2) := H
  have A5 := Aside0.mk A50
  clear A50
  by_cases c6 : t186 = true
  ·subst c6
   have H1 : (liaison_Joints.l0 k l1 t181 t184 ([] : List Int) l1 (l1.length : Int) 0) = some (r1, r2) := by rw [if_pos rfl] at H; exact H
   clear H
   have H := H1
   clear H1
   have H' := Aside0.mk H
   clear H
   go_enter Tryd.func11, Tryd.ntmps11
   go_wp2_with (first | ((with_reducible refine gate_dst (N := 2) rfl ?_); refine box_event ?hg (N := 2) ?hd (cs := #[.int .i64 a0_0, .slice A0_1 l0_1.length c0_1]) (t := 28) ?hr ?_; (case hd => rfl); (case hg => rfl); (case hr => first | (go_simp; done) | (go_simp; rfl)); intro gb180 hg w7 hbox hb; have n0_ := Aside0.mk (below_step (by repeat (first | (with_reducible first | exact HB.out | apply below_alloc | apply pw_below_drewN | apply below_drew1) | exact HB.out)) hb); have n1_ := Aside0.mk (hbox); have n2_ := Aside0.mk ((by rw [hg]; exact (below_size (by repeat (first | (with_reducible first | exact HB.out | apply below_alloc | apply pw_below_drewN | apply below_drew1) | exact HB.out))) : w.heap.size ≤ gb180)); have n3_ := Aside0.mk ((by rw [hg]; exact (below_size (by repeat (first | (with_reducible first | exact HB.out | apply below_alloc | apply pw_below_drewN | apply below_drew1) | exact HB.out))) : w.heap.size ≤ gb180)); clear HB; have HB := n0_; have BK180 := n1_; have GW180 := n2_; have GE180 := n3_; clear n0_ n1_ n2_ n3_; clear hb hbox hg; have hcz8_0 : w7.cell? ⟨gb180, 0, none⟩ = some (.int .i64 a0_0) := (blk_cell BK180.out 0).trans rfl; have hcz8_1 : w7.cell? ⟨gb180, 1, none⟩ = some (.slice A0_1 l0_1.length c0_1) := (blk_cell BK180.out 1).trans rfl; have hfz8_0 := blk_frozen BK180.out 0; have hfz8_1 := blk_frozen BK180.out 1) | ((with_reducible refine gate_callee (f := 34) rfl ?_); refine goesL_ (some 15) rfl rfl Tryd.func34 (by kernel_rfl) rfl #[.agg #[.int .i64 a0_0, .slice A0_1 l0_1.length c0_1], .slice A1 l1.length c1] rfl (by (try simp only [List.map_toArray, List.map_cons, List.map_nil]); first | done | rfl | (simp only [List.length_drop, List.length_take]; rfl)) ?_; (with_reducible refine (liaison_opened.calls k a0_0 _ _ l0_1 _ _ l1 t181 t184 t185 _ ?side1 ?side2 ?side3 ?side4 A3.out).mono ?_); (case side1 => repeat (first | exact (Kd.C_below HR0_1.out HB.out) | (with_reducible refine Kd.C_alloc ?_ _) | (with_reducible refine Kd.C_drewN ?_ _) | (with_reducible refine Kd.C_drew ?_))); (case side2 => exact HC0_1.out); (case side3 => repeat (first | exact (Kd.C_below HR1.out HB.out) | (with_reducible refine Kd.C_alloc ?_ _) | (with_reducible refine Kd.C_drewN ?_ _) | (with_reducible refine Kd.C_drew ?_))); (case side4 => exact HC1.out); rintro e w9 ⟨v182, rfl, ho0, hb⟩; refine ⟨_, rfl, ?_⟩; have n0_ := Aside0.mk (Kd.R_lower ho0 (below_size (by repeat (first | (with_reducible first | exact HB.out | apply below_alloc | apply pw_below_drewN | apply below_drew1 | refine below_set ?_ GE180.out) | exact HB.out)))); have n1_ := Aside0.mk (blk_below (g := gb180) (o := .cells #[.int .i64 a0_0, .slice A0_1 l0_1.length c0_1] 28 (0, 0)) (by (with_reducible repeat (first | refine blk_drewN ?_ _ | refine blk_drew ?_ | refine blk_alloc ?_ _)); exact BK180.out) hb); have n2_ := Aside0.mk (below_step (by repeat (first | (with_reducible first | exact HB.out | apply below_alloc | apply pw_below_drewN | apply below_drew1 | refine below_set ?_ GE180.out) | exact HB.out)) hb); clear BK180; clear HB; have HO183 := n0_; have BK180 := n1_; have HB := n2_; clear n0_ n1_ n2_; (try clear hb); (try clear hb2); (try clear hk); (try clear hi); (try clear ho0); obtain ⟨Ao10, co10, eo10⟩ := Kd.R_slice HO183.out; subst eo10) | ((with_reducible refine gate_callee (f := 35) rfl ?_); refine goesL_ (some 24) rfl rfl Tryd.func35 (by kernel_rfl) rfl #[.slice Ao10 t181.length co10, .int .u64 t184] rfl (by (try simp only [List.map_toArray, List.map_cons, List.map_nil]); first | done | rfl | (simp only [List.length_drop, List.length_take]; rfl)) ?_; (with_reducible refine (liaison_links_connected.calls k _ _ t181 t184 true _ ?side1 ?side2 ?side3 A5.out).mono ?_); (case side1 => repeat (first | exact (Kd.R_reads' HO183.out).2.2 | (with_reducible refine Kd.C_alloc ?_ _) | (with_reducible refine Kd.C_drewN ?_ _) | (with_reducible refine Kd.C_drew ?_))); (case side2 => exact (Kd.R_reads' HO183.out).2.1); (case side3 => repeat (first | exact (Kd.C_below HG.out HB.out) | (with_reducible refine Kd.C_alloc ?_ _) | (with_reducible refine Kd.C_drewN ?_ _) | (with_reducible refine Kd.C_drew ?_))); rintro e w11 ⟨rfl, hb⟩; refine ⟨_, rfl, ?_⟩; have n0_ := Aside0.mk (Kd.R_below (by (with_reducible repeat (first | apply Kd.R_alloc | apply Kd.R_drewN | apply Kd.R_drew)); exact HO183.out) hb); have n1_ := Aside0.mk (blk_below (g := gb180) (o := .cells #[.int .i64 a0_0, .slice A0_1 l0_1.length c0_1] 28 (0, 0)) (by (with_reducible repeat (first | refine blk_drewN ?_ _ | refine blk_drew ?_ | refine blk_alloc ?_ _)); exact BK180.out) hb); have n2_ := Aside0.mk (below_step (by repeat (first | (with_reducible first | exact HB.out | apply below_alloc | apply pw_below_drewN | apply below_drew1 | refine below_set ?_ GE180.out) | exact HB.out)) hb); clear HO183; clear BK180; clear HB; have HO183 := n0_; have BK180 := n1_; have HB := n2_; clear n0_ n1_ n2_; (try clear hb); (try clear hb2); (try clear hk); (try clear hi)))
   go_loopg [9, 28] k (fun kq v9 v28 w' => ∃ (x9_1 : List Int) (x28_1 : Int), v28 = .int .i64 x28_1 ∧ Aside0 (liaison_Joints.l0 kq l1 t181 t184 x9_1 l1 (l1.length : Int) x28_1 = some (r1, r2)) ∧ Aside0 (kq ≤ k) ∧ Aside0 (Kd.R (Kd.int .u64) 71 w' w.heap.size (fun _ => True) (.slice Ao10 t181.length co10) t181) ∧ Aside0 (Kd.R (Kd.int .i64) 3 w' w.heap.size (fun _ => True) v9 x9_1) ∧ Aside0 (w'.heap[gb180]? = some (.cells #[.int .i64 a0_0, (.slice A0_1 l0_1.length c0_1)] 28 (0, 0))) ∧ Aside0 (Below w.heap.size w w'))
   case atStart => exact ⟨(([] : List Int)), (0), (by first | rfl | (simp; done) | (simp [*]; done)), H', ⟨Nat.le_refl _⟩, ⟨by (with_reducible repeat (first | apply Kd.R_alloc | apply Kd.R_drewN | apply Kd.R_drew)); exact HO183.out⟩, ⟨by first | exact Kd.R_nil _ _ _ _ _ | exact Kd.N_nil _ _ _ _ _ | exact Kd.V_nil _ _ _ _ _ | exact Kd.Q_nil _ _ _ _ _ | exact Kd.S_nil _ _ _ _ _⟩, ⟨by (with_reducible repeat (first | refine blk_drewN ?_ _ | refine blk_drew ?_ | refine blk_alloc ?_ _)); exact BK180.out⟩, ⟨by repeat (first | (with_reducible first | exact HB.out | apply below_alloc | apply pw_below_drewN | apply below_drew1 | refine below_set ?_ GE180.out) | exact HB.out)⟩⟩
   case round =>
    clear H'
    try clear c1
    try clear p2
    try clear c3
    try clear c4
    try clear c4b0
    try clear c4b1
    try clear c6
    try clear c11
    try clear hcz8_0
    try clear hcz8_1
    try clear hfz8_0
    try clear hfz8_1
    obtain ⟨x9_1, x28_1, rfl, HA, HK1, HO_6, HO_9, BK180, HB⟩ := hrel
    cases gk with
    | zero => exact absurd HA.out (by simp [liaison_Joints.l0])
    | succ k1 =>
     have H := HA.out
     clear HA
     simp only [liaison_Joints.l0] at H
     by_cases c12 : x28_1 < (l1.length : Int)
     ·rw [if_pos c12] at H
      have c12b0 : decide (x28_1 < (l1.length : Int)) = true := decide_eq_true c12
      clear c12
      by_cases c13 : 0 ≤ x28_1
      ·rw [if_pos c13] at H
       have c13b0 : decide (0 ≤ x28_1) = true := decide_eq_true c13
       clear c13
       by_cases c14 : x28_1 < (l1.length : Int)
       ·rw [if_pos c14] at H
        have c14b0 : decide (x28_1 < (l1.length : Int)) = true := decide_eq_true c14
        clear c14
        by_cases c15 : (l1.length : Int) > 2
        ·rw [if_pos c15] at H
         have c15b0 : decide (2 < (l1.length : Int)) = true := decide_eq_true c15
         have c15b1 : decide (2 < l1.length) = true := decide_eq_true (by omega)
         clear c15
         by_cases c16 : 0 ≤ (rd l1 x28_1)
         ·rw [if_pos c16] at H
          have c16b0 := eq_true c16
          have c16b1 : decide (0 ≤ (rd l1 x28_1)) = true := decide_eq_true c16
          clear c16
          obtain ⟨ji17, hji17⟩ : ∃ j_ : Int, (shl .u64 1 (rd l1 x28_1)) = j_ := ⟨_, rfl⟩
          replace H : ((liaison_links_connected.f k1 t181 (Go.bits .andNot .u64 t184 (ji17))).bind fun t188 => (if t188 = true then (liaison_Joints.l0 k1 l1 t181 t184 x9_1 l1 (l1.length : Int) (wrap64 (x28_1 + 1))) else (if x9_1.length < 17592186044416 then (liaison_Joints.l0 k1 l1 t181 t184 (x9_1 ++ [rd l1 x28_1]) l1 (l1.length : Int) (wrap64 (x28_1 + 1))) else (none)))) = some (r1, r2) := by first | (rw [hji17] at H; exact H) | (simp only [hji17] at H ⊢; exact H)
          have hji17_ : (IntKind.u64.wrap (1 * 2 ^ min (rd l1 x28_1).toNat 64)) = ji17 := hji17
          have hji17z : (rd l1 x28_1) ≤ 64 → (IntKind.u64.wrap (1 * 2 ^ (rd l1 x28_1).toNat)) = ji17 := shl_small hji17
          have hji17u : (IntKind.u64.wrap (2 ^ min (rd l1 x28_1).toNat 64)) = ji17 := by have h_ := hji17_; rw [Int.one_mul] at h_; exact h_
          have hji17v : (rd l1 x28_1) ≤ 64 → (IntKind.u64.wrap (2 ^ (rd l1 x28_1).toNat)) = ji17 := fun hle_ => by have h_ := hji17z hle_; rw [Int.one_mul] at h_; exact h_
          replace H := Option.bind_eq_some_iff.mp H
          obtain ⟨t188, A180, H⟩ := H
          replace H : (if t188 = true then (liaison_Joints.l0 k1 l1 t181 t184 x9_1 l1 (l1.length : Int) (wrap64 (x28_1 + 1))) else (if x9_1.length < 17592186044416 then (liaison_Joints.l0 k1 l1 t181 t184 (x9_1 ++ [rd l1 x28_1]) l1 (l1.length : Int) (wrap64 (x28_1 + 1))) else (none))) = some (r1, r2) := H
          have A18 := Aside0.mk A180
          clear A180
          by_cases c19 : t188 = true
          ·subst c19
           have H1 : (liaison_Joints.l0 k1 l1 t181 t184 x9_1 l1 (l1.length : Int) (wrap64 (x28_1 + 1))) = some (r1, r2) := by rw [if_pos rfl] at H; exact H
           clear H
           have H := H1
           clear H1
           have H' := Aside0.mk H
           clear H
           have p187 : 0 ≤ (x28_1 : Int) := of_decide_eq_true (by first | (with_reducible assumption) | assumption)
           have q187 : x28_1 < (l1.length : Int) := of_decide_eq_true (by first | (with_reducible assumption) | assumption)
           obtain ⟨ad187, e187, hx187_0⟩ := Kd.at_int HR1.out x28_1 p187 q187
           cases e187
           replace hx187_0 := (HB.out.cell (World.block_lt_of_cell? w _ hx187_0)).trans hx187_0
           replace p187 := eq_true p187
           replace q187 := eq_true q187
           go_wp2_with (first | (go_at_call 35; (with_reducible refine (liaison_links_connected.calls k1 _ _ t181 (Go.bits .andNot .u64 t184 (ji17)) true _ ?side1 ?side2 ?side3 A18.out).mono ?_); (case side1 => repeat (first | exact (Kd.R_reads' HO_6.out).2.2 | (with_reducible refine Kd.C_alloc ?_ _) | (with_reducible refine Kd.C_drewN ?_ _) | (with_reducible refine Kd.C_drew ?_))); (case side2 => exact (Kd.R_reads' HO_6.out).2.1); (case side3 => repeat (first | exact (Kd.C_below HG.out HB.out) | (with_reducible refine Kd.C_alloc ?_ _) | (with_reducible refine Kd.C_drewN ?_ _) | (with_reducible refine Kd.C_drew ?_))); rintro e w20 ⟨rfl, hb⟩; have n0_ := Aside0.mk (Kd.R_below (by (with_reducible repeat (first | apply Kd.R_alloc | apply Kd.R_drewN | apply Kd.R_drew)); exact HO_6.out) hb); have n1_ := Aside0.mk (Kd.R_below (by (with_reducible repeat (first | apply Kd.R_alloc | apply Kd.R_drewN | apply Kd.R_drew)); exact HO_9.out) hb); have n2_ := Aside0.mk (blk_below (g := gb180) (o := .cells #[.int .i64 a0_0, .slice A0_1 l0_1.length c0_1] 28 (0, 0)) (by (with_reducible repeat (first | refine blk_drewN ?_ _ | refine blk_drew ?_ | refine blk_alloc ?_ _)); exact BK180.out) hb); have n3_ := Aside0.mk (below_step (by repeat (first | (with_reducible first | exact HB.out | apply below_alloc | apply pw_below_drewN | apply below_drew1 | refine below_set ?_ GE180.out) | exact HB.out)) hb); clear HO_6; clear HO_9; clear BK180; clear HB; have HO_6 := n0_; have HO_9 := n1_; have BK180 := n2_; have HB := n3_; clear n0_ n1_ n2_ n3_; (try clear hb); (try clear hb2); (try clear hk); (try clear hi)))
           go_roundg k1
           case measure => have := HK1.out; omega
           case rel => exact ⟨(x9_1), (wrap64 (x28_1 + 1)), (by first | rfl | (simp; done) | (simp [*]; done)), H', ⟨by have := HK1.out; omega⟩, ⟨by (with_reducible repeat (first | apply Kd.R_alloc | apply Kd.R_drewN | apply Kd.R_drew)); exact HO_6.out⟩, ⟨by (with_reducible repeat (first | apply Kd.R_alloc | apply Kd.R_drewN | apply Kd.R_drew)); exact HO_9.out⟩, ⟨by (with_reducible repeat (first | refine blk_drewN ?_ _ | refine blk_drew ?_ | refine blk_alloc ?_ _)); exact BK180.out⟩, ⟨by repeat (first | (with_reducible first | exact HB.out | apply below_alloc | apply pw_below_drewN | apply below_drew1 | refine below_set ?_ GE180.out) | exact HB.out)⟩⟩
          ·replace c19 := Bool.eq_false_iff.mpr c19
           subst c19
           have H1 : (if x9_1.length < 17592186044416 then (liaison_Joints.l0 k1 l1 t181 t184 (x9_1 ++ [rd l1 x28_1]) l1 (l1.length : Int) (wrap64 (x28_1 + 1))) else (none)) = some (r1, r2) := by rw [if_neg (show ¬ (false = true) by decide)] at H; exact H
           clear H
           have H := H1
           clear H1
           by_cases c21 : x9_1.length < 17592186044416
           ·rw [if_pos c21] at H
            have LMc21 := Aside0.mk c21
            clear c21
            obtain ⟨y189, hy189⟩ : ∃ y_ : List Int, y_ = (x9_1 ++ [rd l1 x28_1]) := ⟨_, rfl⟩
            replace H : (liaison_Joints.l0 k1 l1 t181 t184 y189 l1 (l1.length : Int) (wrap64 (x28_1 + 1))) = some (r1, r2) := by first | (rw [hy189]; with_reducible exact H) | (have H2_ := (Option.bind_some _ _).symm.trans H; rw [hy189]; with_reducible exact H2_) | (have H2_ := (Option.bind_some _ _).symm.trans H; with_reducible exact H2_) | with_reducible exact H | (rw [hy189]; exact H) | exact H
            have Ny189 := Aside0.mk hy189
            clear hy189
            have H' := Aside0.mk H
            clear H
            have p187 : 0 ≤ (x28_1 : Int) := of_decide_eq_true (by first | (with_reducible assumption) | assumption)
            have q187 : x28_1 < (l1.length : Int) := of_decide_eq_true (by first | (with_reducible assumption) | assumption)
            obtain ⟨ad187, e187, hx187_0⟩ := Kd.at_int HR1.out x28_1 p187 q187
            cases e187
            replace hx187_0 := (HB.out.cell (World.block_lt_of_cell? w _ hx187_0)).trans hx187_0
            replace p187 := eq_true p187
            replace q187 := eq_true q187
            go_wp2_with (first | (go_at_call 35; (with_reducible refine (liaison_links_connected.calls k1 _ _ t181 (Go.bits .andNot .u64 t184 (ji17)) false _ ?side1 ?side2 ?side3 A18.out).mono ?_); (case side1 => repeat (first | exact (Kd.R_reads' HO_6.out).2.2 | (with_reducible refine Kd.C_alloc ?_ _) | (with_reducible refine Kd.C_drewN ?_ _) | (with_reducible refine Kd.C_drew ?_))); (case side2 => exact (Kd.R_reads' HO_6.out).2.1); (case side3 => repeat (first | exact (Kd.C_below HG.out HB.out) | (with_reducible refine Kd.C_alloc ?_ _) | (with_reducible refine Kd.C_drewN ?_ _) | (with_reducible refine Kd.C_drew ?_))); rintro e w22 ⟨rfl, hb⟩; have n0_ := Aside0.mk (Kd.R_below (by (with_reducible repeat (first | apply Kd.R_alloc | apply Kd.R_drewN | apply Kd.R_drew)); exact HO_6.out) hb); have n1_ := Aside0.mk (Kd.R_below (by (with_reducible repeat (first | apply Kd.R_alloc | apply Kd.R_drewN | apply Kd.R_drew)); exact HO_9.out) hb); have n2_ := Aside0.mk (blk_below (g := gb180) (o := .cells #[.int .i64 a0_0, .slice A0_1 l0_1.length c0_1] 28 (0, 0)) (by (with_reducible repeat (first | refine blk_drewN ?_ _ | refine blk_drew ?_ | refine blk_alloc ?_ _)); exact BK180.out) hb); have n3_ := Aside0.mk (below_step (by repeat (first | (with_reducible first | exact HB.out | apply below_alloc | apply pw_below_drewN | apply below_drew1 | refine below_set ?_ GE180.out) | exact HB.out)) hb); clear HO_6; clear HO_9; clear BK180; clear HB; have HO_6 := n0_; have HO_9 := n1_; have BK180 := n2_; have HB := n3_; clear n0_ n1_ n2_ n3_; (try clear hb); (try clear hb2); (try clear hk); (try clear hi)) | ((with_reducible refine gate_builtin (b := .append) (xs := #[.tmp 44, .tmp 46]) rfl ?_); at_builtin; refine Kd.R_append (Kd.int .i64) (w0 := w) w.heap.size rfl (.tmp 44) (.tmp 46) 23 3 (.int .i64 0) 8 rfl Tryd.underlying23 info3 rfl (by decide) (by omega) u9 x9_1 (rd l1 x28_1) [.int .i64 (rd l1 x28_1)] (fun _ => True) (fun _ => False) rfl rfl ?aP (fun _ hk => hk.elim) ?aF ?aO ?aB ?aS ?aL ?_; (case aP => exact rfl); (case aB => exact (by repeat (first | (with_reducible first | exact HB.out | apply below_alloc | apply pw_below_drewN | apply below_drew1 | refine below_set ?_ GE180.out) | exact HB.out))); (case aF => exact (fun _ _ => trivial)); (case aO => exact (by (with_reducible repeat (first | apply Kd.R_alloc | apply Kd.R_drewN | apply Kd.R_drew)); exact HO_9.out)); (case aS => exact (below_size (by repeat (first | (with_reducible first | exact HB.out | apply below_alloc | apply pw_below_drewN | apply below_drew1 | refine below_set ?_ GE180.out) | exact HB.out)))); (case aL => have := LMc21.out; omega); intro v190 w23 ho hb hg hat; rw [← Ny189.out] at ho; have n0_ := Aside0.mk (Kd.R_over' (by (with_reducible repeat (first | apply Kd.R_alloc | apply Kd.R_drewN | apply Kd.R_drew)); exact HO_6.out) (Kd.R_typed (by (with_reducible repeat (first | apply Kd.R_alloc | apply Kd.R_drewN | apply Kd.R_drew)); exact HO_9.out)) (by decide) hg); have n1_ := Aside0.mk (blk_grown (g := gb180) (o := .cells #[.int .i64 a0_0, .slice A0_1 l0_1.length c0_1] 28 (0, 0)) (by (with_reducible repeat (first | refine blk_drewN ?_ _ | refine blk_drew ?_ | refine blk_alloc ?_ _)); exact BK180.out) hg (Kd.R_ne HO_9.out BK180.out (by decide))); have n2_ := Aside0.mk (hb); have n3_ := Aside0.mk (ho); clear HO_6; clear BK180; clear HB; clear HO_9; have HO_6 := n0_; have BK180 := n1_; have HB := n2_; have HO191 := n3_; clear n0_ n1_ n2_ n3_; clear ho hb hg hat))
            go_roundg k1
            case measure => have := HK1.out; omega
            case rel => exact ⟨(y189), (wrap64 (x28_1 + 1)), (by first | rfl | (simp; done) | (simp [*]; done)), H', ⟨by have := HK1.out; omega⟩, ⟨by (with_reducible repeat (first | apply Kd.R_alloc | apply Kd.R_drewN | apply Kd.R_drew)); exact HO_6.out⟩, ⟨by (with_reducible repeat (first | apply Kd.R_alloc | apply Kd.R_drewN | apply Kd.R_drew)); exact HO191.out⟩, ⟨by (with_reducible repeat (first | refine blk_drewN ?_ _ | refine blk_drew ?_ | refine blk_alloc ?_ _)); exact BK180.out⟩, ⟨by repeat (first | (with_reducible first | exact HB.out | apply below_alloc | apply pw_below_drewN | apply below_drew1 | refine below_set ?_ GE180.out) | exact HB.out)⟩⟩
           ·rw [if_neg c21] at H
            exact absurd H (by simp)
         ·rw [if_neg c16] at H
          exact absurd H (by simp)
        ·rw [if_neg c15] at H
         have c15b0 : decide (2 < (l1.length : Int)) = false := decide_eq_false c15
         have c15b1 : decide (2 < l1.length) = false := decide_eq_false (by omega)
         clear c15
         have H' := Aside0.mk H
         clear H
         have p187 : 0 ≤ (x28_1 : Int) := of_decide_eq_true (by first | (with_reducible assumption) | assumption)
         have q187 : x28_1 < (l1.length : Int) := of_decide_eq_true (by first | (with_reducible assumption) | assumption)
         obtain ⟨ad187, e187, hx187_0⟩ := Kd.at_int HR1.out x28_1 p187 q187
         cases e187
         replace hx187_0 := (HB.out.cell (World.block_lt_of_cell? w _ hx187_0)).trans hx187_0
         replace p187 := eq_true p187
         replace q187 := eq_true q187
         go_wp2
         go_roundg k1
         case measure => have := HK1.out; omega
         case rel => exact ⟨(x9_1), (wrap64 (x28_1 + 1)), (by first | rfl | (simp; done) | (simp [*]; done)), H', ⟨by have := HK1.out; omega⟩, ⟨by (with_reducible repeat (first | apply Kd.R_alloc | apply Kd.R_drewN | apply Kd.R_drew)); exact HO_6.out⟩, ⟨by (with_reducible repeat (first | apply Kd.R_alloc | apply Kd.R_drewN | apply Kd.R_drew)); exact HO_9.out⟩, ⟨by (with_reducible repeat (first | refine blk_drewN ?_ _ | refine blk_drew ?_ | refine blk_alloc ?_ _)); exact BK180.out⟩, ⟨by repeat (first | (with_reducible first | exact HB.out | apply below_alloc | apply pw_below_drewN | apply below_drew1 | refine below_set ?_ GE180.out) | exact HB.out)⟩⟩
       ·rw [if_neg c14] at H
        exact absurd H (by simp)
      ·rw [if_neg c13] at H
       exact absurd H (by simp)
     ·rw [if_neg c12] at H
      have c12b0 : decide (x28_1 < (l1.length : Int)) = false := decide_eq_false c12
      clear c12
      simp only [Option.some.injEq, Prod.mk.injEq] at H
      obtain ⟨rfl, rfl⟩ := H
      go_wp2
      go_ret2
      exact ⟨_, by first | rfl | (simp [errW_none, errW_some] <;> rfl) | (simp [*, errW_none, errW_some] <;> rfl), by (with_reducible repeat (first | apply Kd.R_alloc | apply Kd.R_drewN | apply Kd.R_drew)); exact HO_9.out, by repeat (first | (with_reducible first | exact HB.out | apply below_alloc | apply pw_below_drewN | apply below_drew1 | refine below_set ?_ GE180.out) | exact HB.out)⟩
  ·replace c6 := Bool.eq_false_iff.mpr c6
   subst c6
   have H1 : (some (([] : List Int), 17)) = some (r1, r2) := by rw [if_neg (show ¬ (false = true) by decide)] at H; exact H
   clear H
   have H := H1
   clear H1
   simp only [Option.some.injEq, Prod.mk.injEq] at H
   obtain ⟨rfl, rfl⟩ := H
   go_enter Tryd.func11, Tryd.ntmps11
   go_wp2_with (first | ((with_reducible refine gate_dst (N := 2) rfl ?_); refine box_event ?hg (N := 2) ?hd (cs := #[.int .i64 a0_0, .slice A0_1 l0_1.length c0_1]) (t := 28) ?hr ?_; (case hd => rfl); (case hg => rfl); (case hr => first | (go_simp; done) | (go_simp; rfl)); intro gb180 hg w24 hbox hb; have n0_ := Aside0.mk (below_step (by repeat (first | (with_reducible first | exact HB.out | apply below_alloc | apply pw_below_drewN | apply below_drew1) | exact HB.out)) hb); have n1_ := Aside0.mk (hbox); have n2_ := Aside0.mk ((by rw [hg]; exact (below_size (by repeat (first | (with_reducible first | exact HB.out | apply below_alloc | apply pw_below_drewN | apply below_drew1) | exact HB.out))) : w.heap.size ≤ gb180)); have n3_ := Aside0.mk ((by rw [hg]; exact (below_size (by repeat (first | (with_reducible first | exact HB.out | apply below_alloc | apply pw_below_drewN | apply below_drew1) | exact HB.out))) : w.heap.size ≤ gb180)); clear HB; have HB := n0_; have BK180 := n1_; have GW180 := n2_; have GE180 := n3_; clear n0_ n1_ n2_ n3_; clear hb hbox hg; have hcz25_0 : w24.cell? ⟨gb180, 0, none⟩ = some (.int .i64 a0_0) := (blk_cell BK180.out 0).trans rfl; have hcz25_1 : w24.cell? ⟨gb180, 1, none⟩ = some (.slice A0_1 l0_1.length c0_1) := (blk_cell BK180.out 1).trans rfl; have hfz25_0 := blk_frozen BK180.out 0; have hfz25_1 := blk_frozen BK180.out 1) | ((with_reducible refine gate_callee (f := 34) rfl ?_); refine goesL_ (some 15) rfl rfl Tryd.func34 (by kernel_rfl) rfl #[.agg #[.int .i64 a0_0, .slice A0_1 l0_1.length c0_1], .slice A1 l1.length c1] rfl (by (try simp only [List.map_toArray, List.map_cons, List.map_nil]); first | done | rfl | (simp only [List.length_drop, List.length_take]; rfl)) ?_; (with_reducible refine (liaison_opened.calls k a0_0 _ _ l0_1 _ _ l1 t181 t184 t185 _ ?side1 ?side2 ?side3 ?side4 A3.out).mono ?_); (case side1 => repeat (first | exact (Kd.C_below HR0_1.out HB.out) | (with_reducible refine Kd.C_alloc ?_ _) | (with_reducible refine Kd.C_drewN ?_ _) | (with_reducible refine Kd.C_drew ?_))); (case side2 => exact HC0_1.out); (case side3 => repeat (first | exact (Kd.C_below HR1.out HB.out) | (with_reducible refine Kd.C_alloc ?_ _) | (with_reducible refine Kd.C_drewN ?_ _) | (with_reducible refine Kd.C_drew ?_))); (case side4 => exact HC1.out); rintro e w26 ⟨v182, rfl, ho0, hb⟩; refine ⟨_, rfl, ?_⟩; have n0_ := Aside0.mk (Kd.R_lower ho0 (below_size (by repeat (first | (with_reducible first | exact HB.out | apply below_alloc | apply pw_below_drewN | apply below_drew1 | refine below_set ?_ GE180.out) | exact HB.out)))); have n1_ := Aside0.mk (blk_below (g := gb180) (o := .cells #[.int .i64 a0_0, .slice A0_1 l0_1.length c0_1] 28 (0, 0)) (by (with_reducible repeat (first | refine blk_drewN ?_ _ | refine blk_drew ?_ | refine blk_alloc ?_ _)); exact BK180.out) hb); have n2_ := Aside0.mk (below_step (by repeat (first | (with_reducible first | exact HB.out | apply below_alloc | apply pw_below_drewN | apply below_drew1 | refine below_set ?_ GE180.out) | exact HB.out)) hb); clear BK180; clear HB; have HO183 := n0_; have BK180 := n1_; have HB := n2_; clear n0_ n1_ n2_; (try clear hb); (try clear hb2); (try clear hk); (try clear hi); (try clear ho0); obtain ⟨Ao27, co27, eo27⟩ := Kd.R_slice HO183.out; subst eo27) | ((with_reducible refine gate_callee (f := 35) rfl ?_); refine goesL_ (some 24) rfl rfl Tryd.func35 (by kernel_rfl) rfl #[.slice Ao27 t181.length co27, .int .u64 t184] rfl (by (try simp only [List.map_toArray, List.map_cons, List.map_nil]); first | done | rfl | (simp only [List.length_drop, List.length_take]; rfl)) ?_; (with_reducible refine (liaison_links_connected.calls k _ _ t181 t184 false _ ?side1 ?side2 ?side3 A5.out).mono ?_); (case side1 => repeat (first | exact (Kd.R_reads' HO183.out).2.2 | (with_reducible refine Kd.C_alloc ?_ _) | (with_reducible refine Kd.C_drewN ?_ _) | (with_reducible refine Kd.C_drew ?_))); (case side2 => exact (Kd.R_reads' HO183.out).2.1); (case side3 => repeat (first | exact (Kd.C_below HG.out HB.out) | (with_reducible refine Kd.C_alloc ?_ _) | (with_reducible refine Kd.C_drewN ?_ _) | (with_reducible refine Kd.C_drew ?_))); rintro e w28 ⟨rfl, hb⟩; refine ⟨_, rfl, ?_⟩; have n0_ := Aside0.mk (Kd.R_below (by (with_reducible repeat (first | apply Kd.R_alloc | apply Kd.R_drewN | apply Kd.R_drew)); exact HO183.out) hb); have n1_ := Aside0.mk (blk_below (g := gb180) (o := .cells #[.int .i64 a0_0, .slice A0_1 l0_1.length c0_1] 28 (0, 0)) (by (with_reducible repeat (first | refine blk_drewN ?_ _ | refine blk_drew ?_ | refine blk_alloc ?_ _)); exact BK180.out) hb); have n2_ := Aside0.mk (below_step (by repeat (first | (with_reducible first | exact HB.out | apply below_alloc | apply pw_below_drewN | apply below_drew1 | refine below_set ?_ GE180.out) | exact HB.out)) hb); clear HO183; clear BK180; clear HB; have HO183 := n0_; have BK180 := n1_; have HB := n2_; clear n0_ n1_ n2_; (try clear hb); (try clear hb2); (try clear hk); (try clear hi)))
   go_ret2
   exact ⟨_, by first | rfl | (simp [errW_none, errW_some] <;> rfl) | (simp [*, errW_none, errW_some] <;> rfl), by first | exact Kd.R_nil _ _ _ _ _ | exact Kd.N_nil _ _ _ _ _ | exact Kd.V_nil _ _ _ _ _ | exact Kd.Q_nil _ _ _ _ _ | exact Kd.S_nil _ _ _ _ _, by repeat (first | (with_reducible first | exact HB.out | apply below_alloc | apply pw_below_drewN | apply below_drew1 | refine below_set ?_ GE180.out) | exact HB.out)⟩
 ·rw [if_neg c4] at H
  have c4b0 : (t185 == 0) = false := beq_eq_false_iff_ne.mpr c4
  have c4b1 : (t185 != 0) = true := bne_iff_ne.mpr c4
  simp only [Option.some.injEq, Prod.mk.injEq] at H
  obtain ⟨rfl, rfl⟩ := H
  go_enter Tryd.func11, Tryd.ntmps11
  go_wp2_with (first | ((with_reducible refine gate_dst (N := 2) rfl ?_); refine box_event ?hg (N := 2) ?hd (cs := #[.int .i64 a0_0, .slice A0_1 l0_1.length c0_1]) (t := 28) ?hr ?_; (case hd => rfl); (case hg => rfl); (case hr => first | (go_simp; done) | (go_simp; rfl)); intro gb180 hg w29 hbox hb; have n0_ := Aside0.mk (below_step (by repeat (first | (with_reducible first | exact HB.out | apply below_alloc | apply pw_below_drewN | apply below_drew1) | exact HB.out)) hb); have n1_ := Aside0.mk (hbox); have n2_ := Aside0.mk ((by rw [hg]; exact (below_size (by repeat (first | (with_reducible first | exact HB.out | apply below_alloc | apply pw_below_drewN | apply below_drew1) | exact HB.out))) : w.heap.size ≤ gb180)); have n3_ := Aside0.mk ((by rw [hg]; exact (below_size (by repeat (first | (with_reducible first | exact HB.out | apply below_alloc | apply pw_below_drewN | apply below_drew1) | exact HB.out))) : w.heap.size ≤ gb180)); clear HB; have HB := n0_; have BK180 := n1_; have GW180 := n2_; have GE180 := n3_; clear n0_ n1_ n2_ n3_; clear hb hbox hg; have hcz30_0 : w29.cell? ⟨gb180, 0, none⟩ = some (.int .i64 a0_0) := (blk_cell BK180.out 0).trans rfl; have hcz30_1 : w29.cell? ⟨gb180, 1, none⟩ = some (.slice A0_1 l0_1.length c0_1) := (blk_cell BK180.out 1).trans rfl; have hfz30_0 := blk_frozen BK180.out 0; have hfz30_1 := blk_frozen BK180.out 1) | ((with_reducible refine gate_callee (f := 34) rfl ?_); refine goesL_ (some 15) rfl rfl Tryd.func34 (by kernel_rfl) rfl #[.agg #[.int .i64 a0_0, .slice A0_1 l0_1.length c0_1], .slice A1 l1.length c1] rfl (by (try simp only [List.map_toArray, List.map_cons, List.map_nil]); first | done | rfl | (simp only [List.length_drop, List.length_take]; rfl)) ?_; (with_reducible refine (liaison_opened.calls k a0_0 _ _ l0_1 _ _ l1 t181 t184 t185 _ ?side1 ?side2 ?side3 ?side4 A3.out).mono ?_); (case side1 => repeat (first | exact (Kd.C_below HR0_1.out HB.out) | (with_reducible refine Kd.C_alloc ?_ _) | (with_reducible refine Kd.C_drewN ?_ _) | (with_reducible refine Kd.C_drew ?_))); (case side2 => exact HC0_1.out); (case side3 => repeat (first | exact (Kd.C_below HR1.out HB.out) | (with_reducible refine Kd.C_alloc ?_ _) | (with_reducible refine Kd.C_drewN ?_ _) | (with_reducible refine Kd.C_drew ?_))); (case side4 => exact HC1.out); rintro e w31 ⟨v182, rfl, ho0, hb⟩; refine ⟨_, rfl, ?_⟩; have n0_ := Aside0.mk (Kd.R_lower ho0 (below_size (by repeat (first | (with_reducible first | exact HB.out | apply below_alloc | apply pw_below_drewN | apply below_drew1 | refine below_set ?_ GE180.out) | exact HB.out)))); have n1_ := Aside0.mk (blk_below (g := gb180) (o := .cells #[.int .i64 a0_0, .slice A0_1 l0_1.length c0_1] 28 (0, 0)) (by (with_reducible repeat (first | refine blk_drewN ?_ _ | refine blk_drew ?_ | refine blk_alloc ?_ _)); exact BK180.out) hb); have n2_ := Aside0.mk (below_step (by repeat (first | (with_reducible first | exact HB.out | apply below_alloc | apply pw_below_drewN | apply below_drew1 | refine below_set ?_ GE180.out) | exact HB.out)) hb); clear BK180; clear HB; have HO183 := n0_; have BK180 := n1_; have HB := n2_; clear n0_ n1_ n2_; (try clear hb); (try clear hb2); (try clear hk); (try clear hi); (try clear ho0)))
  go_ret2
  exact ⟨_, by first | rfl | (simp [errW_none, errW_some] <;> rfl) | (simp [*, errW_none, errW_some] <;> rfl), by first | exact Kd.R_nil _ _ _ _ _ | exact Kd.N_nil _ _ _ _ _ | exact Kd.V_nil _ _ _ _ _ | exact Kd.Q_nil _ _ _ _ _ | exact Kd.S_nil _ _ _ _ _, by repeat (first | (with_reducible first | exact HB.out | apply below_alloc | apply pw_below_drewN | apply below_drew1 | refine below_set ?_ GE180.out) | exact HB.out)⟩
end
end Go.Proofs.YtbghfbhlbfcloaaDoor.PL
