/- Put together by this session's program pack.py. -/
import Derived.Below
import Derived.Deep.Draws
import Derived.Deep.AppendLies
import Derived.Maps.AppendAt
import Derived.OwnWalk
import Derived.Laws.BytesArg
import Derived.Laws.MakeOwn
import Derived.Laws.OwnMore
import Derived.Deep.OwnRows
import Derived.Tactics
import Derived.Lib.ConvBytes
import Derived.Laws.Slices
import Derived.WalkKit
import Derived.KernelRfl
import Derived.RowKit3
import Derived.Deep.LoopGhost
import Derived.Deep.QuietTactic
import Derived.BigQuiet
import Derived.WideLaws
import Derived.Deep.DeepCutAuto
import Derived.Deep.CutBlock
import Derived.Deep.RegionHeld3
import Derived.Laws.Rows
import Derived.Lib.AppendStr
import Derived.ArgAppend
import Derived.Laws.IdiomCopy
import Derived.OrdersHeld
import Derived.Laws.BitsLemmas
import Derived.RowKit
import Derived.Sort.Grow
import Derived.Shelf.SlSortCmp.InsertionK
import Derived.Shelf.SlSortCmp.NoneTotal
import Derived.Shelf.SlGeneric
import Derived.Ground.SlsfProg
import Derived.WalkSpells
import Derived.Shelf.SlicesQ.IndexFunc
import Derived.Shelf.GgClosure.StringsIndexFuncTop
import Derived.Ground.SlgfProg
import Derived.Ground.GgwProg
import Derived.RangeFuncNested
import Derived.RangeFuncBound
import Derived.RangeFuncCalls
import Derived.RangeFuncLeaves
import Derived.Shelf.Abstract
import Derived.Shelf.RegionOpen
import Derived.OwnWalkIn
import Derived.TacticsInMore
import Derived.LoopNIn
import Derived.LoopIn
import Derived.OrdersIn
import Derived.RangeFuncKeeps
import Derived.RangeFuncWrites
import Derived.Test.YtbghfbhlbfcloaaDoorCw0
import Derived.Test.YtbghfbhlbfcloaaDoorCp0
import Derived.Test.YtbghfbhlbfcloaaDoorCp1
import Derived.Test.YtbghfbhlbfcloaaDoorCp2
import Derived.Test.YtbghfbhlbfcloaaDoorCp3
namespace Go.Proofs.YtbghfbhlbfcloaaDoor.PL
section
open Go.RowKit Go.Proofs.YtbghfbhlbfcloaaDoorW.PrintWords Go.Proofs.YtbghfbhlbfcloaaDoorW.PrintLast Go.Proofs.YtbghfbhlbfcloaaDoorW.PrintMore
attribute [local go_sem] max2_int min2_int max_two min_two max_three min_three max_four min_four   -- for this text's walks alone
set_option linter.unusedVariables false
set_option linter.unusedSimpArgs false
/-! ### dowellaw29_LiaisonConnects: function 4 -/
mutual
def dowellaw29_LiaisonConnects.j0 : Nat → Int → List Int → Bool → Option (Bool)
  | 0, _, _, _ => none
  | k + 1, x0, x5, x25 => if x25 = true then ((dowellaw29_known.f).bind fun t392 => (some t392)) else ((dowellaw29_pairs.f k x0).bind fun bt393 => ((liaison_Connected.f k bt393.1 bt393.2 x5).bind fun bt398 => ((liaison_Pieces.f k bt393.1 bt393.2 x5).bind fun bt400 => ((liaison_Neighbours.f k bt393.1 bt393.2 x5).bind fun bt404 => (dowellaw29_LiaisonConnects.l0 k x5 bt398.1 bt398.2 bt400.1 bt400.2 bt404.1 bt404.2 ([] : List Int) 0 bt393.1 bt393.2)))))
def dowellaw29_LiaisonConnects.l0 : Nat → List Int → Bool → Int → List (List Int) → Int → List Int → Int → List Int → Int → Int → List (S68) → Option (Bool)
  | 0, _, _, _, _, _, _, _, _, _, _, _ => none
  | k + 1, x5, x7, x8, x9, x10, x11, x12, x13, x14, x398000, x398001 => if x14 < 6 then (dowellaw29_LiaisonConnects.l1 k x5 x7 x8 x9 x10 x11 x12 x13 x14 false 0 x398000 x398001) else (if x8 = 0 then (if x10 = 0 then (if x12 = 0 then ((dowellaw29_connected.f k x398000 x398001 x5).bind fun t414 => (if (x7 == t414) = true then ((dowellaw29_pieces.f k x398000 x398001 x5).bind fun t415 => ((dowellaw29_sameLists.f k x9 t415).bind fun t418 => (if t418 = true then ((dowellaw29_same.f k x11 x13).bind fun t419 => (some t419)) else (some false)))) else (some false))) else (some false)) else (some false)) else (some false))
def dowellaw29_LiaisonConnects.l1 : Nat → List Int → Bool → Int → List (List Int) → Int → List Int → Int → List Int → Int → Bool → Int → Int → List (S68) → Option (Bool)
  | 0, _, _, _, _, _, _, _, _, _, _, _, _, _ => none
  | k + 1, x5, x7, x8, x9, x10, x11, x12, x13, x14, x15, x16, x398000, x398001 => if x16 < (x5.length : Int) then (if x15 = true then (dowellaw29_LiaisonConnects.l1 k x5 x7 x8 x9 x10 x11 x12 x13 x14 true (wrap64 (x16 + 1)) x398000 x398001) else (if 0 ≤ x16 then ((dowellaw29_touch.f k x398000 x398001 (rd x5 x16) x14).bind fun t409 => (dowellaw29_LiaisonConnects.l1 k x5 x7 x8 x9 x10 x11 x12 x13 x14 t409 (wrap64 (x16 + 1)) x398000 x398001)) else (none))) else (if x15 = true then ((dowellaw29_has.f k x5 x14).bind fun t410 => (if t410 = true then (dowellaw29_LiaisonConnects.l0 k x5 x7 x8 x9 x10 x11 x12 x13 (wrap64 (x14 + 1)) x398000 x398001) else (if x13.length < 17592186044416 then (dowellaw29_LiaisonConnects.l0 k x5 x7 x8 x9 x10 x11 x12 (x13 ++ [x14]) (wrap64 (x14 + 1)) x398000 x398001) else (none)))) else (dowellaw29_LiaisonConnects.l0 k x5 x7 x8 x9 x10 x11 x12 x13 (wrap64 (x14 + 1)) x398000 x398001))
end
def dowellaw29_LiaisonConnects.f (k : Nat) (a0 : Int) (a1 : Int) : Option (Bool) := (dowellaw29_chosen.f k a1).bind fun t388 => ((dowellaw29_known.f).bind fun t391 => (if t391 = true then (dowellaw29_LiaisonConnects.j0 k a0 t388 ((t388.length : Int) == 0)) else (dowellaw29_LiaisonConnects.j0 k a0 t388 true)))
theorem dowellaw29_LiaisonConnects.mono_l : ∀ k, (∀ y0 y1 y2, LeO (dowellaw29_LiaisonConnects.j0 k y0 y1 y2) (dowellaw29_LiaisonConnects.j0 (k + 1) y0 y1 y2)) ∧ (∀ y0 y1 y2 y3 y4 y5 y6 y7 y8 y9 y10, LeO (dowellaw29_LiaisonConnects.l0 k y0 y1 y2 y3 y4 y5 y6 y7 y8 y9 y10) (dowellaw29_LiaisonConnects.l0 (k + 1) y0 y1 y2 y3 y4 y5 y6 y7 y8 y9 y10)) ∧ (∀ y0 y1 y2 y3 y4 y5 y6 y7 y8 y9 y10 y11 y12, LeO (dowellaw29_LiaisonConnects.l1 k y0 y1 y2 y3 y4 y5 y6 y7 y8 y9 y10 y11 y12) (dowellaw29_LiaisonConnects.l1 (k + 1) y0 y1 y2 y3 y4 y5 y6 y7 y8 y9 y10 y11 y12))
  | 0 => ⟨fun _ _ _ r h => by simp [dowellaw29_LiaisonConnects.j0] at h, fun _ _ _ _ _ _ _ _ _ _ _ r h => by simp [dowellaw29_LiaisonConnects.l0] at h, fun _ _ _ _ _ _ _ _ _ _ _ _ _ r h => by simp [dowellaw29_LiaisonConnects.l1] at h⟩
  | k + 1 => by
    obtain ⟨ih0, ih1, ih2⟩ := dowellaw29_LiaisonConnects.mono_l k
    refine ⟨?_, ?_, ?_⟩
    · intro y0 y1 y2
      unfold dowellaw29_LiaisonConnects.j0
      repeat' first
      | (with_reducible exact ih0 _ _ _)
      | (with_reducible exact ih1 _ _ _ _ _ _ _ _ _ _ _)
      | (with_reducible exact ih2 _ _ _ _ _ _ _ _ _ _ _ _ _)
      | (with_reducible exact dowellaw29_chosen.mono _ _)
      | (with_reducible exact dowellaw29_connected.mono _ _ _ _)
      | (with_reducible exact dowellaw29_has.mono _ _ _)
      | (with_reducible exact dowellaw29_pairs.mono _ _)
      | (with_reducible exact dowellaw29_pieces.mono _ _ _ _)
      | (with_reducible exact dowellaw29_same.mono _ _ _)
      | (with_reducible exact dowellaw29_sameLists.mono _ _ _)
      | (with_reducible exact dowellaw29_touch.mono _ _ _ _ _)
      | (with_reducible exact liaison_Connected.mono _ _ _ _)
      | (with_reducible exact liaison_Neighbours.mono _ _ _ _)
      | (with_reducible exact liaison_Pieces.mono _ _ _ _)
      | (with_reducible exact LeO.refl _)
      | (with_reducible exact LeO.none _)
      | (with_reducible refine LeO.ite ?_ ?_)
      | (with_reducible refine LeO.bind ?_ (fun _ => ?_))
      | exact ih0 _ _ _
      | exact ih1 _ _ _ _ _ _ _ _ _ _ _
      | exact ih2 _ _ _ _ _ _ _ _ _ _ _ _ _
      | exact dowellaw29_chosen.mono _ _
      | exact dowellaw29_connected.mono _ _ _ _
      | exact dowellaw29_has.mono _ _ _
      | exact dowellaw29_pairs.mono _ _
      | exact dowellaw29_pieces.mono _ _ _ _
      | exact dowellaw29_same.mono _ _ _
      | exact dowellaw29_sameLists.mono _ _ _
      | exact dowellaw29_touch.mono _ _ _ _ _
      | exact liaison_Connected.mono _ _ _ _
      | exact liaison_Neighbours.mono _ _ _ _
      | exact liaison_Pieces.mono _ _ _ _
      | exact LeO.none _
      | refine LeO.ite ?_ ?_
      | refine LeO.bind ?_ (fun _ => ?_)
    · intro y0 y1 y2 y3 y4 y5 y6 y7 y8 y9 y10
      unfold dowellaw29_LiaisonConnects.l0
      repeat' first
      | (with_reducible exact ih0 _ _ _)
      | (with_reducible exact ih1 _ _ _ _ _ _ _ _ _ _ _)
      | (with_reducible exact ih2 _ _ _ _ _ _ _ _ _ _ _ _ _)
      | (with_reducible exact dowellaw29_chosen.mono _ _)
      | (with_reducible exact dowellaw29_connected.mono _ _ _ _)
      | (with_reducible exact dowellaw29_has.mono _ _ _)
      | (with_reducible exact dowellaw29_pairs.mono _ _)
      | (with_reducible exact dowellaw29_pieces.mono _ _ _ _)
      | (with_reducible exact dowellaw29_same.mono _ _ _)
      | (with_reducible exact dowellaw29_sameLists.mono _ _ _)
      | (with_reducible exact dowellaw29_touch.mono _ _ _ _ _)
      | (with_reducible exact liaison_Connected.mono _ _ _ _)
      | (with_reducible exact liaison_Neighbours.mono _ _ _ _)
      | (with_reducible exact liaison_Pieces.mono _ _ _ _)
      | (with_reducible exact LeO.refl _)
      | (with_reducible exact LeO.none _)
      | (with_reducible refine LeO.ite ?_ ?_)
      | (with_reducible refine LeO.bind ?_ (fun _ => ?_))
      | exact ih0 _ _ _
      | exact ih1 _ _ _ _ _ _ _ _ _ _ _
      | exact ih2 _ _ _ _ _ _ _ _ _ _ _ _ _
      | exact dowellaw29_chosen.mono _ _
      | exact dowellaw29_connected.mono _ _ _ _
      | exact dowellaw29_has.mono _ _ _
      | exact dowellaw29_pairs.mono _ _
      | exact dowellaw29_pieces.mono _ _ _ _
      | exact dowellaw29_same.mono _ _ _
      | exact dowellaw29_sameLists.mono _ _ _
      | exact dowellaw29_touch.mono _ _ _ _ _
      | exact liaison_Connected.mono _ _ _ _
      | exact liaison_Neighbours.mono _ _ _ _
      | exact liaison_Pieces.mono _ _ _ _
      | exact LeO.none _
      | refine LeO.ite ?_ ?_
      | refine LeO.bind ?_ (fun _ => ?_)
    · intro y0 y1 y2 y3 y4 y5 y6 y7 y8 y9 y10 y11 y12
      unfold dowellaw29_LiaisonConnects.l1
      repeat' first
      | (with_reducible exact ih0 _ _ _)
      | (with_reducible exact ih1 _ _ _ _ _ _ _ _ _ _ _)
      | (with_reducible exact ih2 _ _ _ _ _ _ _ _ _ _ _ _ _)
      | (with_reducible exact dowellaw29_chosen.mono _ _)
      | (with_reducible exact dowellaw29_connected.mono _ _ _ _)
      | (with_reducible exact dowellaw29_has.mono _ _ _)
      | (with_reducible exact dowellaw29_pairs.mono _ _)
      | (with_reducible exact dowellaw29_pieces.mono _ _ _ _)
      | (with_reducible exact dowellaw29_same.mono _ _ _)
      | (with_reducible exact dowellaw29_sameLists.mono _ _ _)
      | (with_reducible exact dowellaw29_touch.mono _ _ _ _ _)
      | (with_reducible exact liaison_Connected.mono _ _ _ _)
      | (with_reducible exact liaison_Neighbours.mono _ _ _ _)
      | (with_reducible exact liaison_Pieces.mono _ _ _ _)
      | (with_reducible exact LeO.refl _)
      | (with_reducible exact LeO.none _)
      | (with_reducible refine LeO.ite ?_ ?_)
      | (with_reducible refine LeO.bind ?_ (fun _ => ?_))
      | exact ih0 _ _ _
      | exact ih1 _ _ _ _ _ _ _ _ _ _ _
      | exact ih2 _ _ _ _ _ _ _ _ _ _ _ _ _
      | exact dowellaw29_chosen.mono _ _
      | exact dowellaw29_connected.mono _ _ _ _
      | exact dowellaw29_has.mono _ _ _
      | exact dowellaw29_pairs.mono _ _
      | exact dowellaw29_pieces.mono _ _ _ _
      | exact dowellaw29_same.mono _ _ _
      | exact dowellaw29_sameLists.mono _ _ _
      | exact dowellaw29_touch.mono _ _ _ _ _
      | exact liaison_Connected.mono _ _ _ _
      | exact liaison_Neighbours.mono _ _ _ _
      | exact liaison_Pieces.mono _ _ _ _
      | exact LeO.none _
      | refine LeO.ite ?_ ?_
      | refine LeO.bind ?_ (fun _ => ?_)
theorem dowellaw29_LiaisonConnects.mono : ∀ a0 a1 k, LeO (dowellaw29_LiaisonConnects.f k a0 a1) (dowellaw29_LiaisonConnects.f (k + 1) a0 a1) := by
  intro a0 a1 k
  obtain ⟨ih0, ih1, ih2⟩ := dowellaw29_LiaisonConnects.mono_l k
  unfold dowellaw29_LiaisonConnects.f
  repeat' first
      | (with_reducible exact ih0 _ _ _)
      | (with_reducible exact ih1 _ _ _ _ _ _ _ _ _ _ _)
      | (with_reducible exact ih2 _ _ _ _ _ _ _ _ _ _ _ _ _)
      | (with_reducible exact dowellaw29_chosen.mono _ _)
      | (with_reducible exact dowellaw29_connected.mono _ _ _ _)
      | (with_reducible exact dowellaw29_has.mono _ _ _)
      | (with_reducible exact dowellaw29_pairs.mono _ _)
      | (with_reducible exact dowellaw29_pieces.mono _ _ _ _)
      | (with_reducible exact dowellaw29_same.mono _ _ _)
      | (with_reducible exact dowellaw29_sameLists.mono _ _ _)
      | (with_reducible exact dowellaw29_touch.mono _ _ _ _ _)
      | (with_reducible exact liaison_Connected.mono _ _ _ _)
      | (with_reducible exact liaison_Neighbours.mono _ _ _ _)
      | (with_reducible exact liaison_Pieces.mono _ _ _ _)
      | (with_reducible exact LeO.refl _)
      | (with_reducible exact LeO.none _)
      | (with_reducible refine LeO.ite ?_ ?_)
      | (with_reducible refine LeO.bind ?_ (fun _ => ?_))
      | exact ih0 _ _ _
      | exact ih1 _ _ _ _ _ _ _ _ _ _ _
      | exact ih2 _ _ _ _ _ _ _ _ _ _ _ _ _
      | exact dowellaw29_chosen.mono _ _
      | exact dowellaw29_connected.mono _ _ _ _
      | exact dowellaw29_has.mono _ _ _
      | exact dowellaw29_pairs.mono _ _
      | exact dowellaw29_pieces.mono _ _ _ _
      | exact dowellaw29_same.mono _ _ _
      | exact dowellaw29_sameLists.mono _ _ _
      | exact dowellaw29_touch.mono _ _ _ _ _
      | exact liaison_Connected.mono _ _ _ _
      | exact liaison_Neighbours.mono _ _ _ _
      | exact liaison_Pieces.mono _ _ _ _
      | exact LeO.none _
      | refine LeO.ite ?_ ?_
      | refine LeO.bind ?_ (fun _ => ?_)
def dowellaw29_LiaisonConnects.T16 : Bool × List (List Nat × List Nat) := (true, [([], []), ([0], [0]), ([1], [1]), ([1], [1]), ([1], [1]), ([3, 4, 1], [1, 3, 4]), ([5, 1], [1, 5]), ([1], [1]), ([2, 6, 7, 1, 1], [1, 2, 6, 7]), ([1, 8], [1, 8]), ([9, 8, 0, 1, 2, 3, 4, 5, 6, 7, 8, 9], [0, 9])])
def dowellaw29_LiaisonConnects.B16 : List Nat := [0, 1, 3, 3, 3, 27, 59, 3, 255, 511, 1023]
theorem dowellaw29_LiaisonConnects.tab16 : rtab .any (opsOf Tryd.f4 16) = dowellaw29_LiaisonConnects.T16 := by kernel_rfl
theorem dowellaw29_LiaisonConnects.bits16 : waitsOk dowellaw29_LiaisonConnects.T16.2 dowellaw29_LiaisonConnects.B16 = true := by kernel_rfl
set_option maxHeartbeats 8000000 in
set_option maxRecDepth 100000 in
theorem dowellaw29_LiaisonConnects.calls (k : Nat) (a0 : Int) (a1 : Int) (r : Bool) (w : World) (hG : Kd.C (Kd.int .u8) w (some tabA) tabL.length tabL) (h : dowellaw29_LiaisonConnects.f k a0 a1 = some r) :
    Calls Tryd.prog 4 #[.int .u16 a0, .int .u8 a1] w fun e w' => e = .returned (.bool r) ∧ Below w.heap.size w w' := by
  have hu28 := Tryd.underlying28
  have HB := Aside0.mk (Below.refl w.heap.size w)
  have HG := Aside0.mk hG
  clear hG
  have H : ((dowellaw29_chosen.f k a1).bind fun t388 => ((dowellaw29_known.f).bind fun t391 => (if t391 = true then (dowellaw29_LiaisonConnects.j0 k a0 t388 ((t388.length : Int) == 0)) else (dowellaw29_LiaisonConnects.j0 k a0 t388 true)))) = some r := h
  clear h
  replace H := Option.bind_eq_some_iff.mp H
  obtain ⟨t388, A30, H⟩ := H
  replace H : ((dowellaw29_known.f).bind fun t391 => (if t391 = true then (dowellaw29_LiaisonConnects.j0 k a0 t388 ((t388.length : Int) == 0)) else (dowellaw29_LiaisonConnects.j0 k a0 t388 true))) = some r := H
  have A3 := Aside0.mk A30
  clear A30
  have HC4 := Aside0.mk H
  clear H
  go_enter Tryd.func4, Tryd.ntmps4
  go_upto_region 2 with (first | ((with_reducible refine gate_callee (f := 7) rfl ?_); refine goesL_ (some 18) rfl rfl Tryd.func7 (by kernel_rfl) rfl #[.int .u8 a1] rfl (by (try simp only [List.map_toArray, List.map_cons, List.map_nil]); first | done | rfl | (simp only [List.length_drop, List.length_take]; rfl)) ?_; (with_reducible refine (dowellaw29_chosen.calls k a1 t388 _ A3.out).mono ?_); rintro e w5 ⟨v389, rfl, ho0, hb⟩; refine ⟨_, rfl, ?_⟩; have n0_ := Aside0.mk (Kd.R_lower ho0 (below_size (by repeat (first | (with_reducible first | exact HB.out | apply below_alloc | apply pw_below_drewN | apply below_drew1) | exact HB.out)))); have n1_ := Aside0.mk (below_step (by repeat (first | (with_reducible first | exact HB.out | apply below_alloc | apply pw_below_drewN | apply below_drew1) | exact HB.out)) hb); clear HB; have HO390 := n0_; have HB := n1_; clear n0_ n1_; (try clear hb); (try clear hb2); (try clear hk); (try clear hi); (try clear ho0)))
  (try simp only [Act.put, List.setIfInBounds_toArray, List.set_cons_zero, List.set_cons_succ])
  go_cut [25] (fun v25 wc => ∃ (kq : Nat) (x25_3 : Bool), v25 = .bool x25_3 ∧ Aside0 (dowellaw29_LiaisonConnects.j0 kq a0 t388 x25_3 = some r) ∧ Aside0 (kq ≤ k) ∧ Aside0 (Kd.R (Kd.int .i64) 3 wc w.heap.size (fun _ => True) v389 t388) ∧ Aside0 (Below w.heap.size w wc))
  case first =>
    have H := HC4.out
    clear HC4
    replace H := Option.bind_eq_some_iff.mp H
    obtain ⟨t391, A60, H⟩ := H
    replace H : (if t391 = true then (dowellaw29_LiaisonConnects.j0 k a0 t388 ((t388.length : Int) == 0)) else (dowellaw29_LiaisonConnects.j0 k a0 t388 true)) = some r := H
    have A6 := Aside0.mk A60
    clear A60
    by_cases c7 : t391 = true
    · subst c7
      have H1 : (dowellaw29_LiaisonConnects.j0 k a0 t388 ((t388.length : Int) == 0)) = some r := by rw [if_pos rfl] at H; exact H
      clear H
      have H := H1
      clear H1
      have H' := Aside0.mk H
      clear H
      go_wp2_with (first | ((with_reducible refine gate_callee (f := 8) rfl ?_); refine goesL_ (some 19) rfl rfl Tryd.func8 (by kernel_rfl) rfl #[] rfl (by (try simp only [List.map_toArray, List.map_cons, List.map_nil]); first | done | rfl | (simp only [List.length_drop, List.length_take]; rfl)) ?_; (with_reducible refine (dowellaw29_known.calls  true _ ?side1 A6.out).mono ?_); (case side1 => repeat (first | exact (Kd.C_below HG.out HB.out) | (with_reducible refine Kd.C_alloc ?_ _) | (with_reducible refine Kd.C_drewN ?_ _) | (with_reducible refine Kd.C_drew ?_))); rintro e w8 ⟨rfl, hb⟩; refine ⟨_, rfl, ?_⟩; have n0_ := Aside0.mk (Kd.R_below (by (with_reducible repeat (first | apply Kd.R_alloc | apply Kd.R_drewN | apply Kd.R_drew)); exact HO390.out) hb); have n1_ := Aside0.mk (below_step (by repeat (first | (with_reducible first | exact HB.out | apply below_alloc | apply pw_below_drewN | apply below_drew1) | exact HB.out)) hb); clear HO390; clear HB; have HO390 := n0_; have HB := n1_; clear n0_ n1_; (try clear hb); (try clear hb2); (try clear hk); (try clear hi); obtain ⟨Ao9, co9, eo9⟩ := Kd.R_slice HO390.out; subst eo9))
      go_meet
      case rel => exact ⟨_, (((t388.length : Int) == 0)), (by first | rfl | (simp; done) | (simp [*]; done)), H', ⟨by first | omega | exact Nat.le_refl _⟩, ⟨by (with_reducible repeat (first | apply Kd.R_alloc | apply Kd.R_drewN | apply Kd.R_drew)); exact HO390.out⟩, ⟨by repeat (first | (with_reducible first | exact HB.out | apply below_alloc | apply pw_below_drewN | apply below_drew1) | exact HB.out)⟩⟩
    · replace c7 := Bool.eq_false_iff.mpr c7
      subst c7
      have H1 : (dowellaw29_LiaisonConnects.j0 k a0 t388 true) = some r := by rw [if_neg (show ¬ (false = true) by decide)] at H; exact H
      clear H
      have H := H1
      clear H1
      have H' := Aside0.mk H
      clear H
      go_wp2_with (first | ((with_reducible refine gate_callee (f := 8) rfl ?_); refine goesL_ (some 19) rfl rfl Tryd.func8 (by kernel_rfl) rfl #[] rfl (by (try simp only [List.map_toArray, List.map_cons, List.map_nil]); first | done | rfl | (simp only [List.length_drop, List.length_take]; rfl)) ?_; (with_reducible refine (dowellaw29_known.calls  false _ ?side1 A6.out).mono ?_); (case side1 => repeat (first | exact (Kd.C_below HG.out HB.out) | (with_reducible refine Kd.C_alloc ?_ _) | (with_reducible refine Kd.C_drewN ?_ _) | (with_reducible refine Kd.C_drew ?_))); rintro e w10 ⟨rfl, hb⟩; refine ⟨_, rfl, ?_⟩; have n0_ := Aside0.mk (Kd.R_below (by (with_reducible repeat (first | apply Kd.R_alloc | apply Kd.R_drewN | apply Kd.R_drew)); exact HO390.out) hb); have n1_ := Aside0.mk (below_step (by repeat (first | (with_reducible first | exact HB.out | apply below_alloc | apply pw_below_drewN | apply below_drew1) | exact HB.out)) hb); clear HO390; clear HB; have HO390 := n0_; have HB := n1_; clear n0_ n1_; (try clear hb); (try clear hb2); (try clear hk); (try clear hi)))
      go_meet
      case rel => exact ⟨_, (true), (by first | rfl | (simp; done) | (simp [*]; done)), H', ⟨by first | omega | exact Nat.le_refl _⟩, ⟨by (with_reducible repeat (first | apply Kd.R_alloc | apply Kd.R_drewN | apply Kd.R_drew)); exact HO390.out⟩, ⟨by repeat (first | (with_reducible first | exact HB.out | apply below_alloc | apply pw_below_drewN | apply below_drew1) | exact HB.out)⟩⟩
  case rest =>
    clear HC4
    try clear p2
    try clear c4
    try clear c7
    try clear c8
    obtain ⟨kq, x25_3, rfl, HA, HJ3, HO_5, HB⟩ := hcut
    cases kq with
    | zero => exact absurd HA.out (by simp [dowellaw29_LiaisonConnects.j0])
    | succ kj3 =>
      have H := HA.out
      clear HA
      simp only [dowellaw29_LiaisonConnects.j0] at H
      by_cases c11 : x25_3 = true
      · subst c11
        have H1 : ((dowellaw29_known.f).bind fun t392 => (some t392)) = some r := by rw [if_pos rfl] at H; exact H
        clear H
        have H := H1
        clear H1
        replace H := Option.bind_eq_some_iff.mp H
        obtain ⟨t392, A120, H⟩ := H
        replace H : (some t392) = some r := H
        have A12 := Aside0.mk A120
        clear A120
        obtain rfl := Option.some.inj H
        go_wp2_with (first | ((with_reducible refine gate_callee (f := 8) rfl ?_); refine goesL_ (some 26) rfl rfl Tryd.func8 (by kernel_rfl) rfl #[] rfl (by (try simp only [List.map_toArray, List.map_cons, List.map_nil]); first | done | rfl | (simp only [List.length_drop, List.length_take]; rfl)) ?_; (with_reducible refine (dowellaw29_known.calls  t392 _ ?side1 A12.out).mono ?_); (case side1 => repeat (first | exact (Kd.C_below HG.out HB.out) | (with_reducible refine Kd.C_alloc ?_ _) | (with_reducible refine Kd.C_drewN ?_ _) | (with_reducible refine Kd.C_drew ?_))); rintro e w13 ⟨rfl, hb⟩; refine ⟨_, rfl, ?_⟩; have n0_ := Aside0.mk (Kd.R_below (by (with_reducible repeat (first | apply Kd.R_alloc | apply Kd.R_drewN | apply Kd.R_drew)); exact HO_5.out) hb); have n1_ := Aside0.mk (below_step (by repeat (first | (with_reducible first | exact HB.out | apply below_alloc | apply pw_below_drewN | apply below_drew1) | exact HB.out)) hb); clear HO_5; clear HB; have HO_5 := n0_; have HB := n1_; clear n0_ n1_; (try clear hb); (try clear hb2); (try clear hk); (try clear hi)))
        go_ret
        exact ⟨by first | rfl | (simp [errW_none, errW_some] <;> rfl) | (simp [*, errW_none, errW_some] <;> rfl), by repeat (first | (with_reducible first | exact HB.out | apply below_alloc | apply pw_below_drewN | apply below_drew1) | exact HB.out)⟩
      · replace c11 := Bool.eq_false_iff.mpr c11
        subst c11
        have H1 : ((dowellaw29_pairs.f kj3 a0).bind fun bt393 => ((liaison_Connected.f kj3 bt393.1 bt393.2 t388).bind fun bt398 => ((liaison_Pieces.f kj3 bt393.1 bt393.2 t388).bind fun bt400 => ((liaison_Neighbours.f kj3 bt393.1 bt393.2 t388).bind fun bt404 => (dowellaw29_LiaisonConnects.l0 kj3 t388 bt398.1 bt398.2 bt400.1 bt400.2 bt404.1 bt404.2 ([] : List Int) 0 bt393.1 bt393.2))))) = some r := by rw [if_neg (show ¬ (false = true) by decide)] at H; exact H
        clear H
        have H := H1
        clear H1
        replace H := Option.bind_eq_some_iff.mp H
        obtain ⟨⟨t393, t394⟩, A140, H⟩ := H
        replace H : ((liaison_Connected.f kj3 t393 t394 t388).bind fun bt398 => ((liaison_Pieces.f kj3 t393 t394 t388).bind fun bt400 => ((liaison_Neighbours.f kj3 t393 t394 t388).bind fun bt404 => (dowellaw29_LiaisonConnects.l0 kj3 t388 bt398.1 bt398.2 bt400.1 bt400.2 bt404.1 bt404.2 ([] : List Int) 0 t393 t394)))) = some r := H
        have A14 := Aside0.mk A140
        clear A140
        replace H := Option.bind_eq_some_iff.mp H
        obtain ⟨⟨t398, t399⟩, A150, H⟩ := H
        replace H : ((liaison_Pieces.f kj3 t393 t394 t388).bind fun bt400 => ((liaison_Neighbours.f kj3 t393 t394 t388).bind fun bt404 => (dowellaw29_LiaisonConnects.l0 kj3 t388 t398 t399 bt400.1 bt400.2 bt404.1 bt404.2 ([] : List Int) 0 t393 t394))) = some r := H
        have A15 := Aside0.mk A150
        clear A150
        replace H := Option.bind_eq_some_iff.mp H
        obtain ⟨⟨t400, t403⟩, A160, H⟩ := H
        replace H : ((liaison_Neighbours.f kj3 t393 t394 t388).bind fun bt404 => (dowellaw29_LiaisonConnects.l0 kj3 t388 t398 t399 t400 t403 bt404.1 bt404.2 ([] : List Int) 0 t393 t394)) = some r := H
        have A16 := Aside0.mk A160
        clear A160
        replace H := Option.bind_eq_some_iff.mp H
        obtain ⟨⟨t404, t407⟩, A170, H⟩ := H
        replace H : (dowellaw29_LiaisonConnects.l0 kj3 t388 t398 t399 t400 t403 t404 t407 ([] : List Int) 0 t393 t394) = some r := H
        have A17 := Aside0.mk A170
        clear A170
        have H' := Aside0.mk H
        clear H
        go_wp2_with (first | ((with_reducible refine gate_callee (f := 9) rfl ?_); refine goesL_ (some 28) rfl rfl Tryd.func9 (by kernel_rfl) rfl #[.int .u16 a0] rfl (by (try simp only [List.map_toArray, List.map_cons, List.map_nil]); first | done | rfl | (simp only [List.length_drop, List.length_take]; rfl)) ?_; (with_reducible refine (dowellaw29_pairs.calls kj3 a0 t393 t394 _ A14.out).mono ?_); rintro e w18 ⟨v395, rfl, ho0, hb⟩; refine ⟨_, rfl, ?_⟩; have n0_ := Aside0.mk (Kd.R_below (by (with_reducible repeat (first | apply Kd.R_alloc | apply Kd.R_drewN | apply Kd.R_drew)); exact HO_5.out) hb); have n1_ := Aside0.mk (Kd.R_lower ho0 (below_size (by repeat (first | (with_reducible first | exact HB.out | apply below_alloc | apply pw_below_drewN | apply below_drew1) | exact HB.out)))); have n2_ := Aside0.mk (below_step (by repeat (first | (with_reducible first | exact HB.out | apply below_alloc | apply pw_below_drewN | apply below_drew1) | exact HB.out)) hb); clear HO_5; clear HB; have HO_5 := n0_; have HO396 := n1_; have HB := n2_; clear n0_ n1_ n2_; (try clear hb); (try clear hb2); (try clear hk); (try clear hi); (try clear ho0)) | ((with_reducible refine gate_dst (N := 6) rfl ?_); (try (refine gate_guard (by rfl) ?_; dsimp only)); refine box_event ?hg (N := 6) ?hd (cs := #[.int .i64 0, .slice none 0 0]) (t := 28) ?hr ?_; (case hd => rfl); (case hg => rfl); (case hr => first | (go_simp; done) | (go_simp; rfl)); intro gb397 hg w19 hbox hb; have n0_ := Aside0.mk (Kd.R_below (by (with_reducible repeat (first | apply Kd.R_alloc | apply Kd.R_drewN | apply Kd.R_drew)); exact HO_5.out) hb); have n1_ := Aside0.mk (Kd.R_below (by (with_reducible repeat (first | apply Kd.R_alloc | apply Kd.R_drewN | apply Kd.R_drew)); exact HO396.out) hb); have n2_ := Aside0.mk (below_step (by repeat (first | (with_reducible first | exact HB.out | apply below_alloc | apply pw_below_drewN | apply below_drew1) | exact HB.out)) hb); have n3_ := Aside0.mk (hbox); have n4_ := Aside0.mk ((by rw [hg]; exact (below_size (by repeat (first | (with_reducible first | exact HB.out | apply below_alloc | apply pw_below_drewN | apply below_drew1) | exact HB.out))) : w.heap.size ≤ gb397)); have n5_ := Aside0.mk ((by rw [hg]; exact (below_size (by repeat (first | (with_reducible first | exact HB.out | apply below_alloc | apply pw_below_drewN | apply below_drew1) | exact HB.out))) : w.heap.size ≤ gb397)); clear HO_5; clear HO396; clear HB; have HO_5 := n0_; have HO396 := n1_; have HB := n2_; have BK397 := n3_; have GW397 := n4_; have GE397 := n5_; clear n0_ n1_ n2_ n3_ n4_ n5_; clear hb hbox hg; have hcz20_0 : w19.cell? ⟨gb397, 0, none⟩ = some (.int .i64 0) := (blk_cell BK397.out 0).trans rfl; have hcz20_1 : w19.cell? ⟨gb397, 1, none⟩ = some (.slice none 0 0) := (blk_cell BK397.out 1).trans rfl; have hfz20_0 := blk_frozen BK397.out 0; have hfz20_1 := blk_frozen BK397.out 1; obtain ⟨Ao21, co21, eo21⟩ := Kd.R_slice HO396.out; subst eo21; obtain ⟨Ao22, co22, eo22⟩ := Kd.R_slice HO_5.out; subst eo22) | ((with_reducible refine gate_callee (f := 16) rfl ?_); refine goesL_ (some 32) rfl rfl Tryd.func16 (by kernel_rfl) rfl #[.agg #[.int .i64 t393, .slice Ao21 t394.length co21], .slice Ao22 t388.length co22] rfl (by (try simp only [List.map_toArray, List.map_cons, List.map_nil]); first | done | rfl | (simp only [List.length_drop, List.length_take]; rfl)) ?_; (with_reducible refine (liaison_Connected.calls kj3 t393 _ _ t394 _ _ t388 t398 t399 _ ?side1 ?side2 ?side3 ?side4 ?side5 A15.out).mono ?_); (case side1 => refine (Kd.R_reads' (e := 68) (base := w.heap.size) (ok := fun k_ => True) (n := t394.length) (c := co21) ?_).2.2; exact (by (with_reducible repeat (first | apply Kd.R_alloc | apply Kd.R_drewN | apply Kd.R_drew)); exact (Kd.R_mono (Kd.R_far (p := ⟨gb397, 1, none⟩) (Kd.R_far (p := ⟨gb397, 0, none⟩) (Kd.R_types HO396.out BK397.out (by decide)) (fun _ hk => hk.2) (.int .i64 t393)) (fun _ hk => hk.2) (.slice Ao21 t394.length co21)) (fun _ h_ => h_.1)))); (case side2 => exact (Kd.R_reads' HO396.out).2.1); (case side3 => refine (Kd.R_reads' (e := 3) (base := w.heap.size) (ok := fun k_ => True) (n := t388.length) (c := co22) ?_).2.2; exact (by (with_reducible repeat (first | apply Kd.R_alloc | apply Kd.R_drewN | apply Kd.R_drew)); exact (Kd.R_mono (Kd.R_far (p := ⟨gb397, 1, none⟩) (Kd.R_far (p := ⟨gb397, 0, none⟩) (Kd.R_types HO_5.out BK397.out (by decide)) (fun _ hk => hk.2) (.int .i64 t393)) (fun _ hk => hk.2) (.slice Ao21 t394.length co21)) (fun _ h_ => h_.1)))); (case side4 => exact (Kd.R_reads' HO_5.out).2.1); (case side5 => exact Kd.C_below HG.out (by repeat (first | (with_reducible first | exact HB.out | apply below_alloc | apply pw_below_drewN | apply below_drew1 | refine below_set ?_ GE397.out) | exact HB.out))); rintro e w23 ⟨rfl, hb⟩; refine ⟨_, rfl, ?_⟩; have n0_ := Aside0.mk (Kd.R_below (by (with_reducible repeat (first | apply Kd.R_alloc | apply Kd.R_drewN | apply Kd.R_drew)); exact (Kd.R_mono (Kd.R_far (p := ⟨gb397, 1, none⟩) (Kd.R_far (p := ⟨gb397, 0, none⟩) (Kd.R_types HO_5.out BK397.out (by decide)) (fun _ hk => hk.2) (.int .i64 t393)) (fun _ hk => hk.2) (.slice Ao21 t394.length co21)) (fun _ h_ => h_.1))) hb); have n1_ := Aside0.mk (Kd.R_below (by (with_reducible repeat (first | apply Kd.R_alloc | apply Kd.R_drewN | apply Kd.R_drew)); exact (Kd.R_mono (Kd.R_far (p := ⟨gb397, 1, none⟩) (Kd.R_far (p := ⟨gb397, 0, none⟩) (Kd.R_types HO396.out BK397.out (by decide)) (fun _ hk => hk.2) (.int .i64 t393)) (fun _ hk => hk.2) (.slice Ao21 t394.length co21)) (fun _ h_ => h_.1))) hb); have n2_ := Aside0.mk (blk_below (g := gb397) (o := .cells #[.int .i64 t393, .slice Ao21 t394.length co21] 28 (0, 0)) (by (with_reducible repeat (first | refine blk_drewN ?_ _ | refine blk_drew ?_ | refine blk_alloc ?_ _)); refine blk_put (cs := #[.int .i64 t393, .slice none 0 0]) ?_ 1 _ rfl; (with_reducible repeat (first | refine blk_drewN ?_ _ | refine blk_drew ?_ | refine blk_alloc ?_ _)); refine blk_put (cs := #[.int .i64 0, .slice none 0 0]) ?_ 0 _ rfl; (with_reducible repeat (first | refine blk_drewN ?_ _ | refine blk_drew ?_ | refine blk_alloc ?_ _)); exact BK397.out) hb); have n3_ := Aside0.mk (below_step (by repeat (first | (with_reducible first | exact HB.out | apply below_alloc | apply pw_below_drewN | apply below_drew1 | refine below_set ?_ GE397.out) | exact HB.out)) hb); clear HO_5; clear HO396; clear BK397; clear HB; have HO_5 := n0_; have HO396 := n1_; have BK397 := n2_; have HB := n3_; clear n0_ n1_ n2_ n3_; (try clear hb); (try clear hb2); (try clear hk); (try clear hi); have hcz24_0 : w23.cell? ⟨gb397, 0, none⟩ = some (.int .i64 t393) := (blk_cell BK397.out 0).trans rfl; have hcz24_1 : w23.cell? ⟨gb397, 1, none⟩ = some (.slice Ao21 t394.length co21) := (blk_cell BK397.out 1).trans rfl; have hfz24_0 := blk_frozen BK397.out 0; have hfz24_1 := blk_frozen BK397.out 1) | ((with_reducible refine gate_callee (f := 17) rfl ?_); refine goesL_ (some 38) rfl rfl Tryd.func17 (by kernel_rfl) rfl #[.agg #[.int .i64 t393, .slice Ao21 t394.length co21], .slice Ao22 t388.length co22] rfl (by (try simp only [List.map_toArray, List.map_cons, List.map_nil]); first | done | rfl | (simp only [List.length_drop, List.length_take]; rfl)) ?_; (with_reducible refine (liaison_Pieces.calls kj3 t393 _ _ t394 _ _ t388 t400 t403 _ ?side1 ?side2 ?side3 ?side4 ?side5 A16.out).mono ?_); (case side1 => repeat (first | exact (Kd.R_reads' HO396.out).2.2 | (with_reducible refine Kd.C_alloc ?_ _) | (with_reducible refine Kd.C_drewN ?_ _) | (with_reducible refine Kd.C_drew ?_))); (case side2 => exact (Kd.R_reads' HO396.out).2.1); (case side3 => repeat (first | exact (Kd.R_reads' HO_5.out).2.2 | (with_reducible refine Kd.C_alloc ?_ _) | (with_reducible refine Kd.C_drewN ?_ _) | (with_reducible refine Kd.C_drew ?_))); (case side4 => exact (Kd.R_reads' HO_5.out).2.1); (case side5 => repeat (first | exact (Kd.C_below HG.out HB.out) | (with_reducible refine Kd.C_alloc ?_ _) | (with_reducible refine Kd.C_drewN ?_ _) | (with_reducible refine Kd.C_drew ?_))); rintro e w25 ⟨v401, rfl, ho0, hb⟩; refine ⟨_, rfl, ?_⟩; have n0_ := Aside0.mk (Kd.R_below (by (with_reducible repeat (first | apply Kd.R_alloc | apply Kd.R_drewN | apply Kd.R_drew)); exact HO_5.out) hb); have n1_ := Aside0.mk (Kd.R_below (by (with_reducible repeat (first | apply Kd.R_alloc | apply Kd.R_drewN | apply Kd.R_drew)); exact HO396.out) hb); have n2_ := Aside0.mk (Kd.S_lower (Kd.S_new' ho0 (Kd.R_lt (by (with_reducible repeat (first | apply Kd.R_alloc | apply Kd.R_drewN | apply Kd.R_drew)); exact HO_5.out))) (below_size (by repeat (first | (with_reducible first | exact HB.out | apply below_alloc | apply pw_below_drewN | apply below_drew1 | refine below_set ?_ GE397.out) | exact HB.out)))); have n3_ := Aside0.mk (blk_below (g := gb397) (o := .cells #[.int .i64 t393, .slice Ao21 t394.length co21] 28 (0, 0)) (by (with_reducible repeat (first | refine blk_drewN ?_ _ | refine blk_drew ?_ | refine blk_alloc ?_ _)); exact BK397.out) hb); have n4_ := Aside0.mk (below_step (by repeat (first | (with_reducible first | exact HB.out | apply below_alloc | apply pw_below_drewN | apply below_drew1 | refine below_set ?_ GE397.out) | exact HB.out)) hb); clear HO_5; clear HO396; clear BK397; clear HB; have HO_5 := n0_; have HO396 := n1_; have HO402 := n2_; have BK397 := n3_; have HB := n4_; clear n0_ n1_ n2_ n3_ n4_; (try clear hb); (try clear hb2); (try clear hk); (try clear hi); (try clear ho0); have hcz26_0 : w25.cell? ⟨gb397, 0, none⟩ = some (.int .i64 t393) := (blk_cell BK397.out 0).trans rfl; have hcz26_1 : w25.cell? ⟨gb397, 1, none⟩ = some (.slice Ao21 t394.length co21) := (blk_cell BK397.out 1).trans rfl; have hfz26_0 := blk_frozen BK397.out 0; have hfz26_1 := blk_frozen BK397.out 1) | ((with_reducible refine gate_callee (f := 18) rfl ?_); refine goesL_ (some 44) rfl rfl Tryd.func18 (by kernel_rfl) rfl #[.agg #[.int .i64 t393, .slice Ao21 t394.length co21], .slice Ao22 t388.length co22] rfl (by (try simp only [List.map_toArray, List.map_cons, List.map_nil]); first | done | rfl | (simp only [List.length_drop, List.length_take]; rfl)) ?_; (with_reducible refine (liaison_Neighbours.calls kj3 t393 _ _ t394 _ _ t388 t404 t407 _ ?side1 ?side2 ?side3 ?side4 ?side5 A17.out).mono ?_); (case side1 => repeat (first | exact (Kd.R_reads' HO396.out).2.2 | (with_reducible refine Kd.C_alloc ?_ _) | (with_reducible refine Kd.C_drewN ?_ _) | (with_reducible refine Kd.C_drew ?_))); (case side2 => exact (Kd.R_reads' HO396.out).2.1); (case side3 => repeat (first | exact (Kd.R_reads' HO_5.out).2.2 | (with_reducible refine Kd.C_alloc ?_ _) | (with_reducible refine Kd.C_drewN ?_ _) | (with_reducible refine Kd.C_drew ?_))); (case side4 => exact (Kd.R_reads' HO_5.out).2.1); (case side5 => repeat (first | exact (Kd.C_below HG.out HB.out) | (with_reducible refine Kd.C_alloc ?_ _) | (with_reducible refine Kd.C_drewN ?_ _) | (with_reducible refine Kd.C_drew ?_))); rintro e w27 ⟨v405, rfl, ho0, hb⟩; refine ⟨_, rfl, ?_⟩; have n0_ := Aside0.mk (Kd.R_elder' (by (with_reducible repeat (first | apply Kd.R_alloc | apply Kd.R_drewN | apply Kd.R_drew)); exact HO_5.out) (Kd.R_base ho0) hb); have n1_ := Aside0.mk (Kd.R_below (by (with_reducible repeat (first | apply Kd.R_alloc | apply Kd.R_drewN | apply Kd.R_drew)); exact HO396.out) hb); have n2_ := Aside0.mk (Kd.S_elder' (by (with_reducible repeat (first | apply Kd.S_alloc | apply Kd.S_drewN | apply Kd.S_drew)); exact HO402.out) (Kd.R_base ho0) hb); have n3_ := Aside0.mk (Kd.R_lower (Kd.R_new' ho0 (Kd.R_lt (by (with_reducible repeat (first | apply Kd.R_alloc | apply Kd.R_drewN | apply Kd.R_drew)); exact HO_5.out))) (below_size (by repeat (first | (with_reducible first | exact HB.out | apply below_alloc | apply pw_below_drewN | apply below_drew1 | refine below_set ?_ GE397.out) | exact HB.out)))); have n4_ := Aside0.mk (blk_below (g := gb397) (o := .cells #[.int .i64 t393, .slice Ao21 t394.length co21] 28 (0, 0)) (by (with_reducible repeat (first | refine blk_drewN ?_ _ | refine blk_drew ?_ | refine blk_alloc ?_ _)); exact BK397.out) hb); have n5_ := Aside0.mk (below_step (by repeat (first | (with_reducible first | exact HB.out | apply below_alloc | apply pw_below_drewN | apply below_drew1 | refine below_set ?_ GE397.out) | exact HB.out)) hb); clear HO_5; clear HO396; clear HO402; clear BK397; clear HB; have HO_5 := n0_; have HO396 := n1_; have HO402 := n2_; have HO406 := n3_; have BK397 := n4_; have HB := n5_; clear n0_ n1_ n2_ n3_ n4_ n5_; (try clear hb); (try clear hb2); (try clear hk); (try clear hi); (try clear ho0)))
        go_loopg [13, 14] kj3 (fun kq v13 v14 w' => ∃ (x13_2 : List Int) (x14_2 : Int), v14 = .int .i64 x14_2 ∧ Aside0 (dowellaw29_LiaisonConnects.l0 kq t388 t398 t399 t400 t403 t404 t407 x13_2 x14_2 t393 t394 = some r) ∧ Aside0 (kq ≤ kj3) ∧ Aside0 (Kd.R (Kd.int .i64) 3 w' w.heap.size (fun k_ => some k_ ≠ (v405 : Value).ownBlock ∧ some k_ ≠ (v13 : Value).ownBlock) (.slice Ao22 t388.length co22) t388) ∧ Aside0 (Kd.S (Kd.slice 3 (Kd.int .i64)) 23 w' w.heap.size (fun k_ => some k_ ≠ ((.slice Ao22 t388.length co22) : Value).ownBlock ∧ some k_ ≠ (v405 : Value).ownBlock ∧ some k_ ≠ (v13 : Value).ownBlock) v401 t400) ∧ Aside0 (Kd.R (Kd.int .i64) 3 w' w.heap.size (fun k_ => some k_ ≠ ((.slice Ao22 t388.length co22) : Value).ownBlock ∧ some k_ ≠ (v13 : Value).ownBlock) v405 t404) ∧ Aside0 (Kd.R (Kd.int .i64) 3 w' w.heap.size (fun k_ => some k_ ≠ ((.slice Ao22 t388.length co22) : Value).ownBlock ∧ some k_ ≠ (v405 : Value).ownBlock) v13 x13_2) ∧ Aside0 (Kd.R k68 68 w' w.heap.size (fun _ => True) (.slice Ao21 t394.length co21) t394) ∧ Aside0 (w'.heap[gb397]? = some (.cells #[.int .i64 t393, (.slice Ao21 t394.length co21)] 28 (0, 0))) ∧ Aside0 (Below w.heap.size w w'))
        case atStart => exact ⟨(([] : List Int)), (0), (by first | rfl | (simp; done) | (simp [*]; done)), H', ⟨Nat.le_refl _⟩, ⟨by (with_reducible repeat (first | apply Kd.R_alloc | apply Kd.R_drewN | apply Kd.R_drew)); exact Kd.R_mono HO_5.out (fun _ hk => ⟨hk.2, (by simp [Value.ownBlock])⟩)⟩, ⟨by (with_reducible repeat (first | apply Kd.S_alloc | apply Kd.S_drewN | apply Kd.S_drew)); exact Kd.S_mono HO402.out (fun _ hk => ⟨hk.1.2, ⟨hk.2, (by simp [Value.ownBlock])⟩⟩)⟩, ⟨by (with_reducible repeat (first | apply Kd.R_alloc | apply Kd.R_drewN | apply Kd.R_drew)); exact Kd.R_mono HO406.out (fun _ hk => ⟨hk.2, (by simp [Value.ownBlock])⟩)⟩, ⟨by first | exact Kd.R_nil _ _ _ _ _ | exact Kd.N_nil _ _ _ _ _ | exact Kd.V_nil _ _ _ _ _ | exact Kd.Q_nil _ _ _ _ _ | exact Kd.S_nil _ _ _ _ _⟩, ⟨by (with_reducible repeat (first | apply Kd.R_alloc | apply Kd.R_drewN | apply Kd.R_drew)); exact HO396.out⟩, ⟨by (with_reducible repeat (first | refine blk_drewN ?_ _ | refine blk_drew ?_ | refine blk_alloc ?_ _)); exact BK397.out⟩, ⟨by repeat (first | (with_reducible first | exact HB.out | apply below_alloc | apply pw_below_drewN | apply below_drew1 | refine below_set ?_ GE397.out) | exact HB.out)⟩⟩
        case round =>
          clear H'
          try clear c1
          try clear p2
          try clear c4
          try clear c7
          try clear c8
          try clear c9
          try clear c11
          try clear c16
          try clear c17
          try clear c18
          try clear hcz20_0
          try clear hcz20_1
          try clear hcz24_0
          try clear hcz24_1
          try clear hcz26_0
          try clear hcz26_1
          try clear hfz20_0
          try clear hfz20_1
          try clear hfz24_0
          try clear hfz24_1
          try clear hfz26_0
          try clear hfz26_1
          try clear p2
          obtain ⟨x13_2, x14_2, rfl, HA, HK2, HO_5, HO_9, HO_11, HO_13, HO_398001, BK397, HB⟩ := hrel
          cases gk with
          | zero => exact absurd HA.out (by simp [dowellaw29_LiaisonConnects.l0])
          | succ k2 =>
            have H := HA.out
            clear HA
            simp only [dowellaw29_LiaisonConnects.l0] at H
            by_cases c28 : x14_2 < 6
            · rw [if_pos c28] at H
              have c28b0 : decide (x14_2 < 6) = true := decide_eq_true c28
              clear c28
              have H' := Aside0.mk H
              clear H
              go_wp2
              go_loopg [15, 16] k2 (fun kq v15 v16 w' => ∃ (x15_3 : Bool) (x16_3 : Int), v15 = .bool x15_3 ∧ v16 = .int .i64 x16_3 ∧ Aside0 (dowellaw29_LiaisonConnects.l1 kq t388 t398 t399 t400 t403 t404 t407 x13_2 x14_2 x15_3 x16_3 t393 t394 = some r) ∧ Aside0 (kq ≤ k2) ∧ Aside0 (Kd.R (Kd.int .i64) 3 w' w.heap.size (fun k_ => some k_ ≠ (v405 : Value).ownBlock ∧ some k_ ≠ (u13 : Value).ownBlock) (.slice Ao22 t388.length co22) t388) ∧ Aside0 (Kd.S (Kd.slice 3 (Kd.int .i64)) 23 w' w.heap.size (fun k_ => some k_ ≠ ((.slice Ao22 t388.length co22) : Value).ownBlock ∧ some k_ ≠ (v405 : Value).ownBlock ∧ some k_ ≠ (u13 : Value).ownBlock) v401 t400) ∧ Aside0 (Kd.R (Kd.int .i64) 3 w' w.heap.size (fun k_ => some k_ ≠ ((.slice Ao22 t388.length co22) : Value).ownBlock ∧ some k_ ≠ (u13 : Value).ownBlock) v405 t404) ∧ Aside0 (Kd.R (Kd.int .i64) 3 w' w.heap.size (fun k_ => some k_ ≠ ((.slice Ao22 t388.length co22) : Value).ownBlock ∧ some k_ ≠ (v405 : Value).ownBlock) u13 x13_2) ∧ Aside0 (Kd.R k68 68 w' w.heap.size (fun _ => True) (.slice Ao21 t394.length co21) t394) ∧ Aside0 (w'.heap[gb397]? = some (.cells #[.int .i64 t393, (.slice Ao21 t394.length co21)] 28 (0, 0))) ∧ Aside0 (Below w.heap.size w w'))
              case atStart => exact ⟨(false), (0), (by first | rfl | (simp; done) | (simp [*]; done)), (by first | rfl | (simp; done) | (simp [*]; done)), H', ⟨Nat.le_refl _⟩, ⟨by (with_reducible repeat (first | apply Kd.R_alloc | apply Kd.R_drewN | apply Kd.R_drew)); exact HO_5.out⟩, ⟨by (with_reducible repeat (first | apply Kd.S_alloc | apply Kd.S_drewN | apply Kd.S_drew)); exact HO_9.out⟩, ⟨by (with_reducible repeat (first | apply Kd.R_alloc | apply Kd.R_drewN | apply Kd.R_drew)); exact HO_11.out⟩, ⟨by (with_reducible repeat (first | apply Kd.R_alloc | apply Kd.R_drewN | apply Kd.R_drew)); exact HO_13.out⟩, ⟨by (with_reducible repeat (first | apply Kd.R_alloc | apply Kd.R_drewN | apply Kd.R_drew)); exact HO_398001.out⟩, ⟨by (with_reducible repeat (first | refine blk_drewN ?_ _ | refine blk_drew ?_ | refine blk_alloc ?_ _)); exact BK397.out⟩, ⟨by repeat (first | (with_reducible first | exact HB.out | apply below_alloc | apply pw_below_drewN | apply below_drew1 | refine below_set ?_ GE397.out) | exact HB.out)⟩⟩
              case round =>
                clear H'
                try clear c1
                try clear c2
                try clear p2
                try clear c4
                try clear c7
                try clear c8
                try clear c9
                try clear c11
                try clear c16
                try clear c17
                try clear c18
                try clear c28
                try clear c28b0
                try clear hcz20_0
                try clear hcz20_1
                try clear hcz24_0
                try clear hcz24_1
                try clear hcz26_0
                try clear hcz26_1
                try clear hfz20_0
                try clear hfz20_1
                try clear hfz24_0
                try clear hfz24_1
                try clear hfz26_0
                try clear hfz26_1
                try clear p2
                obtain ⟨x15_3, x16_3, rfl, rfl, HA, HK3, HO_5, HO_9, HO_11, HO_13, HO_398001, BK397, HB⟩ := hrel
                cases gk with
                | zero => exact absurd HA.out (by simp [dowellaw29_LiaisonConnects.l1])
                | succ k3 =>
                  have H := HA.out
                  clear HA
                  simp only [dowellaw29_LiaisonConnects.l1] at H
                  by_cases c29 : x16_3 < (t388.length : Int)
                  · rw [if_pos c29] at H
                    have c29b0 : decide (x16_3 < (t388.length : Int)) = true := decide_eq_true c29
                    clear c29
                    by_cases c30 : x15_3 = true
                    · subst c30
                      have H1 : (dowellaw29_LiaisonConnects.l1 k3 t388 t398 t399 t400 t403 t404 t407 x13_2 x14_2 true (wrap64 (x16_3 + 1)) t393 t394) = some r := by rw [if_pos rfl] at H; exact H
                      clear H
                      have H := H1
                      clear H1
                      have H' := Aside0.mk H
                      clear H
                      try go_wp2
                      have n0_ := Aside0.mk (Kd.R_drew HO_5.out)
                      have n1_ := Aside0.mk (Kd.S_drew HO_9.out)
                      have n2_ := Aside0.mk (Kd.R_drew HO_11.out)
                      have n3_ := Aside0.mk (Kd.R_drew HO_13.out)
                      have n4_ := Aside0.mk (Kd.R_drew HO_398001.out)
                      have n5_ := Aside0.mk (blk_drew BK397.out)
                      have n6_ := Aside0.mk (below_drew1 HB.out)
                      clear HO_5
                      clear HO_9
                      clear HO_11
                      clear HO_13
                      clear HO_398001
                      clear BK397
                      clear HB
                      have HO_5 := n0_
                      have HO_9 := n1_
                      have HO_11 := n2_
                      have HO_13 := n3_
                      have HO_398001 := n4_
                      have BK397 := n5_
                      have HB := n6_
                      clear n0_ n1_ n2_ n3_ n4_ n5_ n6_
                      refine start_ (n := 11) (S := fun w' => True) (ds := []) #[false, false, false, false, false, false, false, false, false, false, false] (by kernel_rfl) rfl rfl trivial (fun hHeld => ?_); refine with_tabW dowellaw29_LiaisonConnects.tab16 dowellaw29_LiaisonConnects.bits16 (fun HT_ HW_ => ?_)
                      generalize wr.drew = w31 at HO_5 HO_9 HO_11 HO_13 HO_398001 BK397 HB hHeld ⊢
                      refine pure_ (i := 0) (N := some 57) (v := ?_) (a' := ?_) #[true, false, false, false, false, false, false, false, false, false, false] rfl rfl (any_of HT_.out (by kernel_rfl)) (fun _ _ _ h => h) (Or.inl ⟨by rfl, ?_⟩) ?_ ?_
                      rotate_left
                      · intro w'
                        go_simp
                        with_reducible rfl
                      rotate_left
                      · simp only [Act.put, List.setIfInBounds_toArray, List.set_cons_zero, List.set_cons_succ, i64_w, i32_w]
                        rfl
                      refine pure_ (i := 1) (N := some 58) (v := ?_) (a' := ?_) #[true, true, false, false, false, false, false, false, false, false, false] rfl rfl (any_of HT_.out (by kernel_rfl)) (fun _ _ _ h => h) (Or.inl ⟨by rfl, ?_⟩) ?_ ?_
                      rotate_left
                      · intro w'
                        go_simp
                        with_reducible rfl
                      rotate_left
                      · simp only [Act.put, List.setIfInBounds_toArray, List.set_cons_zero, List.set_cons_succ, i64_w, i32_w]
                        rfl
                      refine pure_ (i := 2) (N := some 59) (v := undef) (a' := ?_) #[true, true, true, false, false, false, false, false, false, false, false] rfl rfl (any_of HT_.out (by kernel_rfl)) (fun _ _ _ h => h) (Or.inr ⟨by rfl, rfl⟩) ?_ ?_
                      rotate_left
                      · simp only [Act.put, List.setIfInBounds_toArray, List.set_cons_zero, List.set_cons_succ, i64_w, i32_w]
                        rfl
                      refine pure_ (i := 3) (N := some 60) (v := undef) (a' := ?_) #[true, true, true, true, false, false, false, false, false, false, false] rfl rfl (any_of HT_.out (by kernel_rfl)) (fun _ _ _ h => h) (Or.inr ⟨by rfl, rfl⟩) ?_ ?_
                      rotate_left
                      · simp only [Act.put, List.setIfInBounds_toArray, List.set_cons_zero, List.set_cons_succ, i64_w, i32_w]
                        rfl
                      refine pure_ (i := 4) (N := some 61) (v := undef) (a' := ?_) #[true, true, true, true, true, false, false, false, false, false, false] rfl rfl (any_of HT_.out (by kernel_rfl)) (fun _ _ _ h => h) (Or.inr ⟨by rfl, rfl⟩) ?_ ?_
                      rotate_left
                      · simp only [Act.put, List.setIfInBounds_toArray, List.set_cons_zero, List.set_cons_succ, i64_w, i32_w]
                        rfl
                      refine pure_ (i := 5) (N := some 62) (v := undef) (a' := ?_) #[true, true, true, true, true, true, false, false, false, false, false] rfl rfl (any_of HT_.out (by kernel_rfl)) (fun _ _ _ h => h) (Or.inr ⟨by rfl, rfl⟩) ?_ ?_
                      rotate_left
                      · simp only [Act.put, List.setIfInBounds_toArray, List.set_cons_zero, List.set_cons_succ, i64_w, i32_w]
                        rfl
                      refine pure_ (i := 6) (N := some 63) (v := undef) (a' := ?_) #[true, true, true, true, true, true, true, false, false, false, false] rfl rfl (any_of HT_.out (by kernel_rfl)) (fun _ _ _ h => h) (Or.inr ⟨by rfl, rfl⟩) ?_ ?_
                      rotate_left
                      · simp only [Act.put, List.setIfInBounds_toArray, List.set_cons_zero, List.set_cons_succ, i64_w, i32_w]
                        rfl
                      refine pure_ (i := 7) (N := some 64) (v := undef) (a' := ?_) #[true, true, true, true, true, true, true, true, false, false, false] rfl rfl (any_of HT_.out (by kernel_rfl)) (fun _ _ _ h => h) (Or.inr ⟨by rfl, rfl⟩) ?_ ?_
                      rotate_left
                      · simp only [Act.put, List.setIfInBounds_toArray, List.set_cons_zero, List.set_cons_succ, i64_w, i32_w]
                        rfl
                      refine pure_ (i := 8) (N := some 65) (v := undef) (a' := ?_) #[true, true, true, true, true, true, true, true, true, false, false] rfl rfl (any_of HT_.out (by kernel_rfl)) (fun _ _ _ h => h) (Or.inr ⟨by rfl, rfl⟩) ?_ ?_
                      rotate_left
                      · simp only [Act.put, List.setIfInBounds_toArray, List.set_cons_zero, List.set_cons_succ, i64_w, i32_w]
                        rfl
                      refine pure_ (i := 9) (N := some 66) (v := ?_) (a' := ?_) #[true, true, true, true, true, true, true, true, true, true, false] rfl rfl (any_of HT_.out (by kernel_rfl)) (fun _ _ _ h => h) (Or.inl ⟨by rfl, ?_⟩) ?_ ?_
                      rotate_left
                      · intro w'
                        go_simp
                        with_reducible rfl
                      rotate_left
                      · simp only [Act.put, List.setIfInBounds_toArray, List.set_cons_zero, List.set_cons_succ, i64_w, i32_w]
                        rfl
                      refine pure_ (i := 10) (N := some 15) (v := ?_) (a' := ?_) #[true, true, true, true, true, true, true, true, true, true, true] rfl rfl (any_of HT_.out (by kernel_rfl)) (fun _ _ _ h => h) (Or.inl ⟨by rfl, ?_⟩) ?_ ?_
                      rotate_left
                      · intro w'
                        go_simp
                        with_reducible rfl
                      rotate_left
                      · simp only [Act.put, List.setIfInBounds_toArray, List.set_cons_zero, List.set_cons_succ, i64_w, i32_w]
                        rfl
                      refine done_ (done_of HT_.out (by kernel_rfl)) ?_
                      try go_wp2
                      go_roundg k3
                      case measure => have := HJ3.out; have := HK2.out; have := HK3.out; omega
                      case rel => exact ⟨(true), (wrap64 (x16_3 + 1)), (by first | rfl | (simp; done) | (simp [*]; done)), (by first | rfl | (simp; done) | (simp [*]; done)), H', ⟨by have := HJ3.out; have := HK2.out; have := HK3.out; omega⟩, ⟨by (with_reducible repeat (first | apply Kd.R_alloc | apply Kd.R_drewN | apply Kd.R_drew)); exact HO_5.out⟩, ⟨by (with_reducible repeat (first | apply Kd.S_alloc | apply Kd.S_drewN | apply Kd.S_drew)); exact HO_9.out⟩, ⟨by (with_reducible repeat (first | apply Kd.R_alloc | apply Kd.R_drewN | apply Kd.R_drew)); exact HO_11.out⟩, ⟨by (with_reducible repeat (first | apply Kd.R_alloc | apply Kd.R_drewN | apply Kd.R_drew)); exact HO_13.out⟩, ⟨by (with_reducible repeat (first | apply Kd.R_alloc | apply Kd.R_drewN | apply Kd.R_drew)); exact HO_398001.out⟩, ⟨by (with_reducible repeat (first | refine blk_drewN ?_ _ | refine blk_drew ?_ | refine blk_alloc ?_ _)); exact BK397.out⟩, ⟨by repeat (first | (with_reducible first | exact HB.out | apply below_alloc | apply pw_below_drewN | apply below_drew1 | refine below_set ?_ GE397.out) | exact HB.out)⟩⟩
                    · replace c30 := Bool.eq_false_iff.mpr c30
                      subst c30
                      have H1 : (if 0 ≤ x16_3 then ((dowellaw29_touch.f k3 t393 t394 (rd t388 x16_3) x14_2).bind fun t409 => (dowellaw29_LiaisonConnects.l1 k3 t388 t398 t399 t400 t403 t404 t407 x13_2 x14_2 t409 (wrap64 (x16_3 + 1)) t393 t394)) else (none)) = some r := by rw [if_neg (show ¬ (false = true) by decide)] at H; exact H
                      clear H
                      have H := H1
                      clear H1
                      by_cases c32 : 0 ≤ x16_3
                      · rw [if_pos c32] at H
                        have c32b0 : decide (0 ≤ x16_3) = true := decide_eq_true c32
                        clear c32
                        replace H := Option.bind_eq_some_iff.mp H
                        obtain ⟨t409, A330, H⟩ := H
                        replace H : (dowellaw29_LiaisonConnects.l1 k3 t388 t398 t399 t400 t403 t404 t407 x13_2 x14_2 t409 (wrap64 (x16_3 + 1)) t393 t394) = some r := H
                        have A33 := Aside0.mk A330
                        clear A330
                        have H' := Aside0.mk H
                        clear H
                        try go_wp2
                        have n0_ := Aside0.mk (Kd.R_drew HO_5.out)
                        have n1_ := Aside0.mk (Kd.S_drew HO_9.out)
                        have n2_ := Aside0.mk (Kd.R_drew HO_11.out)
                        have n3_ := Aside0.mk (Kd.R_drew HO_13.out)
                        have n4_ := Aside0.mk (Kd.R_drew HO_398001.out)
                        have n5_ := Aside0.mk (blk_drew BK397.out)
                        have n6_ := Aside0.mk (below_drew1 HB.out)
                        clear HO_5
                        clear HO_9
                        clear HO_11
                        clear HO_13
                        clear HO_398001
                        clear BK397
                        clear HB
                        have HO_5 := n0_
                        have HO_9 := n1_
                        have HO_11 := n2_
                        have HO_13 := n3_
                        have HO_398001 := n4_
                        have BK397 := n5_
                        have HB := n6_
                        clear n0_ n1_ n2_ n3_ n4_ n5_ n6_
                        have p408 : 0 ≤ (x16_3 : Int) := of_decide_eq_true (by first | (with_reducible assumption) | assumption)
                        have q408 : x16_3 < (t388.length : Int) := of_decide_eq_true (by first | (with_reducible assumption) | assumption)
                        obtain ⟨ad408, e408, hx408_0⟩ := Kd.at_int (Kd.R_reads' HO_5.out).2.2 x16_3 p408 q408
                        cases e408
                        replace p408 := eq_true p408
                        replace q408 := eq_true q408
                        refine start_ (n := 11) (S := fun w' => w'.cell? ⟨gb397, 0, none⟩ = some (.int .i64 t393) ∧ w'.cell? ⟨gb397, 1, none⟩ = some (.slice Ao21 t394.length co21) ∧ w'.cell? (ad408.add (x16_3).toNat) = some (.int .i64 (rd t388 x16_3))) (ds := []) #[false, false, false, false, false, false, false, false, false, false, false] (by kernel_rfl) rfl rfl ⟨(blk_cell BK397.out 0).trans rfl, (blk_cell BK397.out 1).trans rfl, hx408_0⟩ (fun hHeld => ?_); refine with_tabW dowellaw29_LiaisonConnects.tab16 dowellaw29_LiaisonConnects.bits16 (fun HT_ HW_ => ?_)
                        generalize wr.drew = w34 at HO_5 HO_9 HO_11 HO_13 HO_398001 BK397 HB hx408_0 hHeld ⊢
                        refine pure_ (i := 0) (N := some 57) (v := ?_) (a' := ?_) #[true, false, false, false, false, false, false, false, false, false, false] rfl rfl (any_of HT_.out (by kernel_rfl)) (fun _ _ _ h => h) (Or.inl ⟨by rfl, ?_⟩) ?_ ?_
                        rotate_left
                        · intro w'
                          go_simp
                          with_reducible rfl
                        rotate_left
                        · simp only [Act.put, List.setIfInBounds_toArray, List.set_cons_zero, List.set_cons_succ, i64_w, i32_w]
                          rfl
                        refine pure_ (i := 1) (N := some 58) (v := ?_) (a' := ?_) #[true, true, false, false, false, false, false, false, false, false, false] rfl rfl (any_of HT_.out (by kernel_rfl)) (fun _ _ _ h => h) (Or.inl ⟨by rfl, ?_⟩) ?_ ?_
                        rotate_left
                        · intro w'
                          go_simp
                          with_reducible rfl
                        rotate_left
                        · simp only [Act.put, List.setIfInBounds_toArray, List.set_cons_zero, List.set_cons_succ, i64_w, i32_w]
                          rfl
                        refine pure_ (i := 3) (N := some 60) (v := ?_) (a' := ?_) #[true, true, false, true, false, false, false, false, false, false, false] rfl rfl (any_of HT_.out (by kernel_rfl)) (fun _ _ _ h => h) (Or.inl ⟨by rfl, ?_⟩) ?_ ?_
                        rotate_left
                        · intro w'
                          go_simp
                          with_reducible rfl
                        rotate_left
                        · simp only [Act.put, List.setIfInBounds_toArray, List.set_cons_zero, List.set_cons_succ, i64_w, i32_w]
                          rfl
                        refine pure_ (i := 4) (N := some 61) (v := ?_) (a' := ?_) #[true, true, false, true, true, false, false, false, false, false, false] rfl rfl (any_of HT_.out (by kernel_rfl)) (fun _ _ _ h => h) (Or.inl ⟨by rfl, ?_⟩) ?_ ?_
                        rotate_left
                        · intro w'
                          go_simp
                          with_reducible rfl
                        rotate_left
                        · simp only [Act.put, List.setIfInBounds_toArray, List.set_cons_zero, List.set_cons_succ, i64_w, i32_w]
                          rfl
                        refine pure_ (i := 5) (N := some 62) (v := ?_) (a' := ?_) #[true, true, false, true, true, true, false, false, false, false, false] rfl rfl (any_of HT_.out (by kernel_rfl)) (fun _ _ _ h => h) (Or.inl ⟨by rfl, ?_⟩) ?_ ?_
                        rotate_left
                        · intro w'
                          go_simp
                          with_reducible rfl
                        rotate_left
                        · simp only [Act.put, List.setIfInBounds_toArray, List.set_cons_zero, List.set_cons_succ, i64_w, i32_w]
                          rfl
                        refine pure_ (i := 7) (N := some 64) (v := ?_) (a' := ?_) #[true, true, false, true, true, true, false, true, false, false, false] rfl rfl (any_of HT_.out (by kernel_rfl)) (fun _ _ _ h => h) (Or.inl ⟨by rfl, ?_⟩) ?_ ?_
                        rotate_left
                        · intro w'
                          go_simp
                          with_reducible rfl
                        rotate_left
                        · simp only [Act.put, List.setIfInBounds_toArray, List.set_cons_zero, List.set_cons_succ, i64_w, i32_w]
                          rfl
                        refine take_ (i := 2) (N := some 59) (v := ?_) (a' := ?_) #[true, true, true, true, true, true, false, true, false, false, false] rfl rfl (take_ofW HT_.out HW_.out (by kernel_rfl)) (fun _ _ _ h => h) (Or.inl ⟨by rfl, ?_⟩) hHeld ?_ ?_
                        rotate_left
                        · rintro w' ⟨s0, s1, s2⟩
                          go_simp
                          with_reducible rfl
                        rotate_left
                        · simp only [Act.put, List.setIfInBounds_toArray, List.set_cons_zero, List.set_cons_succ, i64_w, i32_w]
                          rfl
                        refine take_ (i := 6) (N := some 63) (v := ?_) (a' := ?_) #[true, true, true, true, true, true, true, true, false, false, false] rfl rfl (take_ofW HT_.out HW_.out (by kernel_rfl)) (fun _ _ _ h => h) (Or.inl ⟨by rfl, ?_⟩) hHeld ?_ ?_
                        rotate_left
                        · rintro w' ⟨s0, s1, s2⟩
                          go_simp
                          with_reducible rfl
                        rotate_left
                        · simp only [Act.put, List.setIfInBounds_toArray, List.set_cons_zero, List.set_cons_succ, i64_w, i32_w]
                          rfl
                        refine one_ (i := 8) (N := some 65) #[true, true, true, true, true, true, true, true, true, false, false] rfl rfl (one_of HT_.out (by kernel_rfl)) (by decide) (fun K hK => ?_)
                        refine goes_ Tryd.func19 (by kernel_rfl) rfl #[.agg #[.int .i64 t393, .slice Ao21 t394.length co21], .int .i64 (rd t388 x16_3), .int .i64 x14_2] (by rfl) rfl rfl (by (try simp only [List.map_toArray, List.map_cons, List.map_nil]); first | done | rfl | (simp only [List.length_drop, List.length_take]; rfl)) ?_
                        with_reducible refine (dowellaw29_touch.calls k3 t393 _ _ t394 (rd t388 x16_3) x14_2 t409 _ ?side1 ?side2 A33.out).mono ?_
                        (case side1 => repeat (first | exact (Kd.R_reads' HO_398001.out).2.2 | (with_reducible refine Kd.C_alloc ?_ _) | (with_reducible refine Kd.C_drewN ?_ _) | (with_reducible refine Kd.C_drew ?_)))
                        (case side2 => exact (Kd.R_reads' HO_398001.out).2.1)
                        rintro e w35 ⟨rfl, hb⟩
                        have HS2_ := (hb.cell (World.block_lt_of_cell? _ _ (hHeld.2.2))).trans (hHeld.2.2)
                        refine ⟨_, rfl, ?_⟩
                        have n0_ := Aside0.mk (Kd.R_below (by (with_reducible repeat (first | apply Kd.R_alloc | apply Kd.R_drewN | apply Kd.R_drew)); exact HO_5.out) hb)
                        have n1_ := Aside0.mk (Kd.S_below (by (with_reducible repeat (first | apply Kd.S_alloc | apply Kd.S_drewN | apply Kd.S_drew)); exact HO_9.out) hb)
                        have n2_ := Aside0.mk (Kd.R_below (by (with_reducible repeat (first | apply Kd.R_alloc | apply Kd.R_drewN | apply Kd.R_drew)); exact HO_11.out) hb)
                        have n3_ := Aside0.mk (Kd.R_below (by (with_reducible repeat (first | apply Kd.R_alloc | apply Kd.R_drewN | apply Kd.R_drew)); exact HO_13.out) hb)
                        have n4_ := Aside0.mk (Kd.R_below (by (with_reducible repeat (first | apply Kd.R_alloc | apply Kd.R_drewN | apply Kd.R_drew)); exact HO_398001.out) hb)
                        have n5_ := Aside0.mk (blk_below (g := gb397) (o := .cells #[.int .i64 t393, .slice Ao21 t394.length co21] 28 (0, 0)) (by (with_reducible repeat (first | refine blk_drewN ?_ _ | refine blk_drew ?_ | refine blk_alloc ?_ _)); exact BK397.out) hb)
                        have n6_ := Aside0.mk (below_step (by repeat (first | (with_reducible first | exact HB.out | apply below_alloc | apply pw_below_drewN | apply below_drew1 | refine below_set ?_ GE397.out) | exact HB.out)) hb)
                        clear HO_5
                        clear HO_9
                        clear HO_11
                        clear HO_13
                        clear HO_398001
                        clear BK397
                        clear HB
                        have HO_5 := n0_
                        have HO_9 := n1_
                        have HO_11 := n2_
                        have HO_13 := n3_
                        have HO_398001 := n4_
                        have BK397 := n5_
                        have HB := n6_
                        clear n0_ n1_ n2_ n3_ n4_ n5_ n6_
                        (try clear hb)
                        (try clear hb2)
                        (try clear hk)
                        (try clear hi)
                        refine hK.out _ _ ⟨(blk_cell BK397.out 0).trans rfl, (blk_cell BK397.out 1).trans rfl, HS2_⟩ (fun hHeld => ?_)
                        clear hK K
                        refine norm_ (a' := ?_) ?_ ?_
                        rotate_left
                        · show Act.put _ (some 65) _ = _
                          simp only [Act.put, List.setIfInBounds_toArray, List.set_cons_zero, List.set_cons_succ, i64_w, i32_w]
                          rfl
                        refine pure_ (i := 9) (N := some 66) (v := ?_) (a' := ?_) #[true, true, true, true, true, true, true, true, true, true, false] rfl rfl (any_of HT_.out (by kernel_rfl)) (fun _ _ _ h => h) (Or.inl ⟨by rfl, ?_⟩) ?_ ?_
                        rotate_left
                        · intro w'
                          go_simp
                          with_reducible rfl
                        rotate_left
                        · simp only [Act.put, List.setIfInBounds_toArray, List.set_cons_zero, List.set_cons_succ, i64_w, i32_w]
                          rfl
                        refine pure_ (i := 10) (N := some 15) (v := ?_) (a' := ?_) #[true, true, true, true, true, true, true, true, true, true, true] rfl rfl (any_of HT_.out (by kernel_rfl)) (fun _ _ _ h => h) (Or.inl ⟨by rfl, ?_⟩) ?_ ?_
                        rotate_left
                        · intro w'
                          go_simp
                          with_reducible rfl
                        rotate_left
                        · simp only [Act.put, List.setIfInBounds_toArray, List.set_cons_zero, List.set_cons_succ, i64_w, i32_w]
                          rfl
                        refine done_ (done_of HT_.out (by kernel_rfl)) ?_
                        try go_wp2
                        go_roundg k3
                        case measure => have := HJ3.out; have := HK2.out; have := HK3.out; omega
                        case rel => exact ⟨(t409), (wrap64 (x16_3 + 1)), (by first | rfl | (simp; done) | (simp [*]; done)), (by first | rfl | (simp; done) | (simp [*]; done)), H', ⟨by have := HJ3.out; have := HK2.out; have := HK3.out; omega⟩, ⟨by (with_reducible repeat (first | apply Kd.R_alloc | apply Kd.R_drewN | apply Kd.R_drew)); exact HO_5.out⟩, ⟨by (with_reducible repeat (first | apply Kd.S_alloc | apply Kd.S_drewN | apply Kd.S_drew)); exact HO_9.out⟩, ⟨by (with_reducible repeat (first | apply Kd.R_alloc | apply Kd.R_drewN | apply Kd.R_drew)); exact HO_11.out⟩, ⟨by (with_reducible repeat (first | apply Kd.R_alloc | apply Kd.R_drewN | apply Kd.R_drew)); exact HO_13.out⟩, ⟨by (with_reducible repeat (first | apply Kd.R_alloc | apply Kd.R_drewN | apply Kd.R_drew)); exact HO_398001.out⟩, ⟨by (with_reducible repeat (first | refine blk_drewN ?_ _ | refine blk_drew ?_ | refine blk_alloc ?_ _)); exact BK397.out⟩, ⟨by repeat (first | (with_reducible first | exact HB.out | apply below_alloc | apply pw_below_drewN | apply below_drew1 | refine below_set ?_ GE397.out) | exact HB.out)⟩⟩
                      · rw [if_neg c32] at H
                        exact absurd H (by simp)
                  · rw [if_neg c29] at H
                    have c29b0 : decide (x16_3 < (t388.length : Int)) = false := decide_eq_false c29
                    clear c29
                    by_cases c36 : x15_3 = true
                    · subst c36
                      have H1 : ((dowellaw29_has.f k3 t388 x14_2).bind fun t410 => (if t410 = true then (dowellaw29_LiaisonConnects.l0 k3 t388 t398 t399 t400 t403 t404 t407 x13_2 (wrap64 (x14_2 + 1)) t393 t394) else (if x13_2.length < 17592186044416 then (dowellaw29_LiaisonConnects.l0 k3 t388 t398 t399 t400 t403 t404 t407 (x13_2 ++ [x14_2]) (wrap64 (x14_2 + 1)) t393 t394) else (none)))) = some r := by rw [if_pos rfl] at H; exact H
                      clear H
                      have H := H1
                      clear H1
                      replace H := Option.bind_eq_some_iff.mp H
                      obtain ⟨t410, A370, H⟩ := H
                      replace H : (if t410 = true then (dowellaw29_LiaisonConnects.l0 k3 t388 t398 t399 t400 t403 t404 t407 x13_2 (wrap64 (x14_2 + 1)) t393 t394) else (if x13_2.length < 17592186044416 then (dowellaw29_LiaisonConnects.l0 k3 t388 t398 t399 t400 t403 t404 t407 (x13_2 ++ [x14_2]) (wrap64 (x14_2 + 1)) t393 t394) else (none))) = some r := H
                      have A37 := Aside0.mk A370
                      clear A370
                      by_cases c38 : t410 = true
                      · subst c38
                        have H1 : (dowellaw29_LiaisonConnects.l0 k3 t388 t398 t399 t400 t403 t404 t407 x13_2 (wrap64 (x14_2 + 1)) t393 t394) = some r := by rw [if_pos rfl] at H; exact H
                        clear H
                        have H := H1
                        clear H1
                        have H' := Aside0.mk H
                        clear H
                        go_wp2_with (first | (go_at_call 20; (with_reducible refine (dowellaw29_has.calls k3 _ _ t388 x14_2 true _ ?side1 ?side2 A37.out).mono ?_); (case side1 => repeat (first | exact (Kd.R_reads' HO_5.out).2.2 | (with_reducible refine Kd.C_alloc ?_ _) | (with_reducible refine Kd.C_drewN ?_ _) | (with_reducible refine Kd.C_drew ?_))); (case side2 => exact (Kd.R_reads' HO_5.out).2.1); rintro e w' ⟨rfl, ⟨nd, rfl⟩⟩))
                        go_roundg k3
                        case measure => have := HJ3.out; have := HK2.out; have := HK3.out; omega
                        case rel => exact ⟨(x13_2), (wrap64 (x14_2 + 1)), (by first | rfl | (simp; done) | (simp [*]; done)), H', ⟨by have := HJ3.out; have := HK2.out; have := HK3.out; omega⟩, ⟨by (with_reducible repeat (first | apply Kd.R_alloc | apply Kd.R_drewN | apply Kd.R_drew)); exact HO_5.out⟩, ⟨by (with_reducible repeat (first | apply Kd.S_alloc | apply Kd.S_drewN | apply Kd.S_drew)); exact HO_9.out⟩, ⟨by (with_reducible repeat (first | apply Kd.R_alloc | apply Kd.R_drewN | apply Kd.R_drew)); exact HO_11.out⟩, ⟨by (with_reducible repeat (first | apply Kd.R_alloc | apply Kd.R_drewN | apply Kd.R_drew)); exact HO_13.out⟩, ⟨by (with_reducible repeat (first | apply Kd.R_alloc | apply Kd.R_drewN | apply Kd.R_drew)); exact HO_398001.out⟩, ⟨by (with_reducible repeat (first | refine blk_drewN ?_ _ | refine blk_drew ?_ | refine blk_alloc ?_ _)); exact BK397.out⟩, ⟨by repeat (first | (with_reducible first | exact HB.out | apply below_alloc | apply pw_below_drewN | apply below_drew1 | refine below_set ?_ GE397.out) | exact HB.out)⟩⟩
                      · replace c38 := Bool.eq_false_iff.mpr c38
                        subst c38
                        have H1 : (if x13_2.length < 17592186044416 then (dowellaw29_LiaisonConnects.l0 k3 t388 t398 t399 t400 t403 t404 t407 (x13_2 ++ [x14_2]) (wrap64 (x14_2 + 1)) t393 t394) else (none)) = some r := by rw [if_neg (show ¬ (false = true) by decide)] at H; exact H
                        clear H
                        have H := H1
                        clear H1
                        by_cases c39 : x13_2.length < 17592186044416
                        · rw [if_pos c39] at H
                          have LMc39 := Aside0.mk c39
                          clear c39
                          obtain ⟨y411, hy411⟩ : ∃ y_ : List Int, y_ = (x13_2 ++ [x14_2]) := ⟨_, rfl⟩
                          replace H : (dowellaw29_LiaisonConnects.l0 k3 t388 t398 t399 t400 t403 t404 t407 y411 (wrap64 (x14_2 + 1)) t393 t394) = some r := by first | (rw [hy411]; with_reducible exact H) | (have H2_ := (Option.bind_some _ _).symm.trans H; rw [hy411]; with_reducible exact H2_) | (have H2_ := (Option.bind_some _ _).symm.trans H; with_reducible exact H2_) | with_reducible exact H | (rw [hy411]; exact H) | exact H
                          have Ny411 := Aside0.mk hy411
                          clear hy411
                          have H' := Aside0.mk H
                          clear H
                          go_wp2_with (first | (go_at_call 20; (with_reducible refine (dowellaw29_has.calls k3 _ _ t388 x14_2 false _ ?side1 ?side2 A37.out).mono ?_); (case side1 => repeat (first | exact (Kd.R_reads' HO_5.out).2.2 | (with_reducible refine Kd.C_alloc ?_ _) | (with_reducible refine Kd.C_drewN ?_ _) | (with_reducible refine Kd.C_drew ?_))); (case side2 => exact (Kd.R_reads' HO_5.out).2.1); rintro e w' ⟨rfl, ⟨nd, rfl⟩⟩) | ((with_reducible refine gate_builtin (b := .append) (xs := #[.tmp 74, .tmp 76]) rfl ?_); (try (refine gate_guard (by rfl) ?_; dsimp only)); at_builtin; refine Kd.R_append (Kd.int .i64) (w0 := w) w.heap.size rfl (.tmp 74) (.tmp 76) 23 3 (.int .i64 0) 8 rfl Tryd.underlying23 info3 rfl (by decide) (by omega) u13 x13_2 x14_2 [.int .i64 x14_2] (fun k_ => some k_ ≠ (.slice Ao22 t388.length co22 : Value).ownBlock ∧ some k_ ≠ (v405 : Value).ownBlock) (fun _ => False) rfl rfl ?aP (fun _ hk => hk.elim) ?aF ?aO ?aB ?aS ?aL ?_; (case aP => exact rfl); (case aB => exact (by repeat (first | (with_reducible first | exact HB.out | apply below_alloc | apply pw_below_drewN | apply below_drew1 | refine below_set ?_ GE397.out) | exact HB.out))); (case aF => exact (fun k_ hk => ⟨Kd.fresh' (Kd.R_lt (by (with_reducible repeat (first | apply Kd.R_alloc | apply Kd.R_drewN | apply Kd.R_drew)); exact HO_5.out)) k_ hk, Kd.fresh' (Kd.R_lt (by (with_reducible repeat (first | apply Kd.R_alloc | apply Kd.R_drewN | apply Kd.R_drew)); exact HO_11.out)) k_ hk⟩)); (case aO => exact (by (with_reducible repeat (first | apply Kd.R_alloc | apply Kd.R_drewN | apply Kd.R_drew)); exact HO_13.out)); (case aS => exact (below_size (by repeat (first | (with_reducible first | exact HB.out | apply below_alloc | apply pw_below_drewN | apply below_drew1 | refine below_set ?_ GE397.out) | exact HB.out)))); (case aL => have := LMc39.out; omega); intro v412 w40 ho hb hg hat; rw [← Ny411.out] at ho; have n0_ := Aside0.mk (Kd.R_after (ok := (fun k_ => some k_ ≠ (v405 : Value).ownBlock)) (by (with_reducible repeat (first | apply Kd.R_alloc | apply Kd.R_drewN | apply Kd.R_drew)); exact HO_5.out) hg hat); have n1_ := Aside0.mk (Kd.S_after (ok := (fun k_ => some k_ ≠ (.slice Ao22 t388.length co22 : Value).ownBlock ∧ some k_ ≠ (v405 : Value).ownBlock)) (by (with_reducible repeat (first | apply Kd.S_alloc | apply Kd.S_drewN | apply Kd.S_drew)); exact Kd.S_mono HO_9.out (fun _ hk => ⟨⟨hk.1, hk.2.1⟩, hk.2.2⟩)) hg hat); have n2_ := Aside0.mk (Kd.R_after (ok := (fun k_ => some k_ ≠ (.slice Ao22 t388.length co22 : Value).ownBlock)) (by (with_reducible repeat (first | apply Kd.R_alloc | apply Kd.R_drewN | apply Kd.R_drew)); exact HO_11.out) hg hat); have n3_ := Aside0.mk (Kd.R_over' (by (with_reducible repeat (first | apply Kd.R_alloc | apply Kd.R_drewN | apply Kd.R_drew)); exact HO_398001.out) (Kd.R_typed (by (with_reducible repeat (first | apply Kd.R_alloc | apply Kd.R_drewN | apply Kd.R_drew)); exact HO_13.out)) (by decide) hg); have n4_ := Aside0.mk (blk_grown (g := gb397) (o := .cells #[.int .i64 t393, .slice Ao21 t394.length co21] 28 (0, 0)) (by (with_reducible repeat (first | refine blk_drewN ?_ _ | refine blk_drew ?_ | refine blk_alloc ?_ _)); exact BK397.out) hg (Kd.R_ne HO_13.out BK397.out (by decide))); have n5_ := Aside0.mk (hb); have n6_ := Aside0.mk (ho); clear HO_5; clear HO_9; clear HO_11; clear HO_398001; clear BK397; clear HB; clear HO_13; have HO_5 := n0_; have HO_9 := n1_; have HO_11 := n2_; have HO_398001 := n3_; have BK397 := n4_; have HB := n5_; have HO413 := n6_; clear n0_ n1_ n2_ n3_ n4_ n5_ n6_; clear ho hb hg hat))
                          go_roundg k3
                          case measure => have := HJ3.out; have := HK2.out; have := HK3.out; omega
                          case rel => exact ⟨(y411), (wrap64 (x14_2 + 1)), (by first | rfl | (simp; done) | (simp [*]; done)), H', ⟨by have := HJ3.out; have := HK2.out; have := HK3.out; omega⟩, ⟨by (with_reducible repeat (first | apply Kd.R_alloc | apply Kd.R_drewN | apply Kd.R_drew)); exact HO_5.out⟩, ⟨by (with_reducible repeat (first | apply Kd.S_alloc | apply Kd.S_drewN | apply Kd.S_drew)); exact Kd.S_mono HO_9.out (fun _ hk => ⟨hk.1.1, ⟨hk.1.2, hk.2⟩⟩)⟩, ⟨by (with_reducible repeat (first | apply Kd.R_alloc | apply Kd.R_drewN | apply Kd.R_drew)); exact HO_11.out⟩, ⟨by (with_reducible repeat (first | apply Kd.R_alloc | apply Kd.R_drewN | apply Kd.R_drew)); exact HO413.out⟩, ⟨by (with_reducible repeat (first | apply Kd.R_alloc | apply Kd.R_drewN | apply Kd.R_drew)); exact HO_398001.out⟩, ⟨by (with_reducible repeat (first | refine blk_drewN ?_ _ | refine blk_drew ?_ | refine blk_alloc ?_ _)); exact BK397.out⟩, ⟨by repeat (first | (with_reducible first | exact HB.out | apply below_alloc | apply pw_below_drewN | apply below_drew1 | refine below_set ?_ GE397.out) | exact HB.out)⟩⟩
                        · rw [if_neg c39] at H
                          exact absurd H (by simp)
                    · replace c36 := Bool.eq_false_iff.mpr c36
                      subst c36
                      have H1 : (dowellaw29_LiaisonConnects.l0 k3 t388 t398 t399 t400 t403 t404 t407 x13_2 (wrap64 (x14_2 + 1)) t393 t394) = some r := by rw [if_neg (show ¬ (false = true) by decide)] at H; exact H
                      clear H
                      have H := H1
                      clear H1
                      have H' := Aside0.mk H
                      clear H
                      go_wp2
                      go_roundg k3
                      case measure => have := HJ3.out; have := HK2.out; have := HK3.out; omega
                      case rel => exact ⟨(x13_2), (wrap64 (x14_2 + 1)), (by first | rfl | (simp; done) | (simp [*]; done)), H', ⟨by have := HJ3.out; have := HK2.out; have := HK3.out; omega⟩, ⟨by (with_reducible repeat (first | apply Kd.R_alloc | apply Kd.R_drewN | apply Kd.R_drew)); exact HO_5.out⟩, ⟨by (with_reducible repeat (first | apply Kd.S_alloc | apply Kd.S_drewN | apply Kd.S_drew)); exact HO_9.out⟩, ⟨by (with_reducible repeat (first | apply Kd.R_alloc | apply Kd.R_drewN | apply Kd.R_drew)); exact HO_11.out⟩, ⟨by (with_reducible repeat (first | apply Kd.R_alloc | apply Kd.R_drewN | apply Kd.R_drew)); exact HO_13.out⟩, ⟨by (with_reducible repeat (first | apply Kd.R_alloc | apply Kd.R_drewN | apply Kd.R_drew)); exact HO_398001.out⟩, ⟨by (with_reducible repeat (first | refine blk_drewN ?_ _ | refine blk_drew ?_ | refine blk_alloc ?_ _)); exact BK397.out⟩, ⟨by repeat (first | (with_reducible first | exact HB.out | apply below_alloc | apply pw_below_drewN | apply below_drew1 | refine below_set ?_ GE397.out) | exact HB.out)⟩⟩
            · rw [if_neg c28] at H
              have c28b0 : decide (x14_2 < 6) = false := decide_eq_false c28
              clear c28
              by_cases c41 : t399 = 0
              · rw [if_pos c41] at H
                have c41b0 : (t399 == 0) = true := beq_iff_eq.mpr c41
                have c41b1 : (t399 != 0) = false := bne_eq_false_iff_eq.mpr c41
                clear c41
                by_cases c42 : t403 = 0
                · rw [if_pos c42] at H
                  have c42b0 : (t403 == 0) = true := beq_iff_eq.mpr c42
                  have c42b1 : (t403 != 0) = false := bne_eq_false_iff_eq.mpr c42
                  clear c42
                  by_cases c43 : t407 = 0
                  · rw [if_pos c43] at H
                    have c43b0 : (t407 == 0) = true := beq_iff_eq.mpr c43
                    have c43b1 : (t407 != 0) = false := bne_eq_false_iff_eq.mpr c43
                    clear c43
                    replace H := Option.bind_eq_some_iff.mp H
                    obtain ⟨t414, A440, H⟩ := H
                    replace H : (if (t398 == t414) = true then ((dowellaw29_pieces.f k2 t393 t394 t388).bind fun t415 => ((dowellaw29_sameLists.f k2 t400 t415).bind fun t418 => (if t418 = true then ((dowellaw29_same.f k2 t404 x13_2).bind fun t419 => (some t419)) else (some false)))) else (some false)) = some r := H
                    have A44 := Aside0.mk A440
                    clear A440
                    by_cases c45 : (t398 == t414) = true
                    · rw [if_pos c45] at H
                      have c45b0 : (t398 == t414) = true := c45
                      (try (have c45b1 : decide (t398 = t414) = true := by simpa using c45))
                      (try (have c45b2 : (t398 == t414) = true := by simpa using c45))
                      clear c45
                      replace H := Option.bind_eq_some_iff.mp H
                      obtain ⟨t415, A460, H⟩ := H
                      replace H : ((dowellaw29_sameLists.f k2 t400 t415).bind fun t418 => (if t418 = true then ((dowellaw29_same.f k2 t404 x13_2).bind fun t419 => (some t419)) else (some false))) = some r := H
                      have A46 := Aside0.mk A460
                      clear A460
                      replace H := Option.bind_eq_some_iff.mp H
                      obtain ⟨t418, A470, H⟩ := H
                      replace H : (if t418 = true then ((dowellaw29_same.f k2 t404 x13_2).bind fun t419 => (some t419)) else (some false)) = some r := H
                      have A47 := Aside0.mk A470
                      clear A470
                      by_cases c48 : t418 = true
                      · subst c48
                        have H1 : ((dowellaw29_same.f k2 t404 x13_2).bind fun t419 => (some t419)) = some r := by rw [if_pos rfl] at H; exact H
                        clear H
                        have H := H1
                        clear H1
                        replace H := Option.bind_eq_some_iff.mp H
                        obtain ⟨t419, A490, H⟩ := H
                        replace H : (some t419) = some r := H
                        have A49 := Aside0.mk A490
                        clear A490
                        obtain rfl := Option.some.inj H
                        have hcz50_0 : wr.cell? ⟨gb397, 0, none⟩ = some (.int .i64 t393) := (blk_cell BK397.out 0).trans rfl
                        have hcz50_1 : wr.cell? ⟨gb397, 1, none⟩ = some (.slice Ao21 t394.length co21) := (blk_cell BK397.out 1).trans rfl
                        have hfz50_0 := blk_frozen BK397.out 0
                        have hfz50_1 := blk_frozen BK397.out 1
                        go_wp2_with (first | (go_at_call 12; (with_reducible refine (dowellaw29_connected.calls k2 t393 _ _ t394 _ _ t388 t414 _ ?side1 ?side2 ?side3 ?side4 A44.out).mono ?_); (case side1 => repeat (first | exact (Kd.R_reads' HO_398001.out).2.2 | (with_reducible refine Kd.C_alloc ?_ _) | (with_reducible refine Kd.C_drewN ?_ _) | (with_reducible refine Kd.C_drew ?_))); (case side2 => exact (Kd.R_reads' HO_398001.out).2.1); (case side3 => repeat (first | exact (Kd.R_reads' HO_5.out).2.2 | (with_reducible refine Kd.C_alloc ?_ _) | (with_reducible refine Kd.C_drewN ?_ _) | (with_reducible refine Kd.C_drew ?_))); (case side4 => exact (Kd.R_reads' HO_5.out).2.1); rintro e w51 ⟨rfl, hb⟩; have n0_ := Aside0.mk (Kd.R_below (by (with_reducible repeat (first | apply Kd.R_alloc | apply Kd.R_drewN | apply Kd.R_drew)); exact HO_5.out) hb); have n1_ := Aside0.mk (Kd.S_below (by (with_reducible repeat (first | apply Kd.S_alloc | apply Kd.S_drewN | apply Kd.S_drew)); exact HO_9.out) hb); have n2_ := Aside0.mk (Kd.R_below (by (with_reducible repeat (first | apply Kd.R_alloc | apply Kd.R_drewN | apply Kd.R_drew)); exact HO_11.out) hb); have n3_ := Aside0.mk (Kd.R_below (by (with_reducible repeat (first | apply Kd.R_alloc | apply Kd.R_drewN | apply Kd.R_drew)); exact HO_13.out) hb); have n4_ := Aside0.mk (Kd.R_below (by (with_reducible repeat (first | apply Kd.R_alloc | apply Kd.R_drewN | apply Kd.R_drew)); exact HO_398001.out) hb); have n5_ := Aside0.mk (blk_below (g := gb397) (o := .cells #[.int .i64 t393, .slice Ao21 t394.length co21] 28 (0, 0)) (by (with_reducible repeat (first | refine blk_drewN ?_ _ | refine blk_drew ?_ | refine blk_alloc ?_ _)); exact BK397.out) hb); have n6_ := Aside0.mk (below_step (by repeat (first | (with_reducible first | exact HB.out | apply below_alloc | apply pw_below_drewN | apply below_drew1 | refine below_set ?_ GE397.out) | exact HB.out)) hb); clear HO_5; clear HO_9; clear HO_11; clear HO_13; clear HO_398001; clear BK397; clear HB; have HO_5 := n0_; have HO_9 := n1_; have HO_11 := n2_; have HO_13 := n3_; have HO_398001 := n4_; have BK397 := n5_; have HB := n6_; clear n0_ n1_ n2_ n3_ n4_ n5_ n6_; (try clear hb); (try clear hb2); (try clear hk); (try clear hi); have hcz52_0 : w51.cell? ⟨gb397, 0, none⟩ = some (.int .i64 t393) := (blk_cell BK397.out 0).trans rfl; have hcz52_1 : w51.cell? ⟨gb397, 1, none⟩ = some (.slice Ao21 t394.length co21) := (blk_cell BK397.out 1).trans rfl; have hfz52_0 := blk_frozen BK397.out 0; have hfz52_1 := blk_frozen BK397.out 1) | (go_at_call 22; (with_reducible refine (dowellaw29_pieces.calls k2 t393 _ _ t394 (fun k_ => some k_ = (.slice Ao22 t388.length co22 : Value).ownBlock) _ _ t388 t415 _ ?side1 ?side2 ?side3 A46.out).mono ?_); (case side1 => repeat (first | exact (Kd.R_reads' HO_398001.out).2.2 | (with_reducible refine Kd.C_alloc ?_ _) | (with_reducible refine Kd.C_drewN ?_ _) | (with_reducible refine Kd.C_drew ?_))); (case side2 => exact (Kd.R_reads' HO_398001.out).2.1); (case side3 => exact Kd.R_V (Kd.R_tight rfl (Kd.R_types (Kd.R_apart' (Kd.R_apart' (HO_5.out) (Kd.S_typed HO_9.out) (by decide)) (Kd.R_typed HO_398001.out) (by decide)) BK397.out (by decide)))); rintro e w53 ⟨v416, rfl, ho0, hb⟩; have n0_ := Aside0.mk (Kd.R_below (by (with_reducible repeat (first | apply Kd.R_alloc | apply Kd.R_drewN | apply Kd.R_drew)); exact HO_5.out) hb); have n1_ := Aside0.mk (Kd.S_elder' (by (with_reducible repeat (first | apply Kd.S_alloc | apply Kd.S_drewN | apply Kd.S_drew)); exact HO_9.out) (Kd.S_base ho0) hb); have n2_ := Aside0.mk (Kd.R_below (by (with_reducible repeat (first | apply Kd.R_alloc | apply Kd.R_drewN | apply Kd.R_drew)); exact HO_11.out) hb); have n3_ := Aside0.mk (Kd.R_below (by (with_reducible repeat (first | apply Kd.R_alloc | apply Kd.R_drewN | apply Kd.R_drew)); exact HO_13.out) hb); have n4_ := Aside0.mk (Kd.R_below (by (with_reducible repeat (first | apply Kd.R_alloc | apply Kd.R_drewN | apply Kd.R_drew)); exact HO_398001.out) hb); have n5_ := Aside0.mk (Kd.S_lower (Kd.S_new' (Kd.S_new' (Kd.S_new' (Kd.S_new' (Kd.S_mono (ok' := fun k_ => True) ho0 (fun _ hk_ => trivial)) (Kd.R_lt (by (with_reducible repeat (first | apply Kd.R_alloc | apply Kd.R_drewN | apply Kd.R_drew)); exact HO_5.out))) (Kd.S_lt (by (with_reducible repeat (first | apply Kd.S_alloc | apply Kd.S_drewN | apply Kd.S_drew)); exact HO_9.out))) (Kd.R_lt (by (with_reducible repeat (first | apply Kd.R_alloc | apply Kd.R_drewN | apply Kd.R_drew)); exact HO_11.out))) (Kd.R_lt (by (with_reducible repeat (first | apply Kd.R_alloc | apply Kd.R_drewN | apply Kd.R_drew)); exact HO_13.out))) (below_size (by repeat (first | (with_reducible first | exact HB.out | apply below_alloc | apply pw_below_drewN | apply below_drew1 | refine below_set ?_ GE397.out) | exact HB.out)))); have n6_ := Aside0.mk (blk_below (g := gb397) (o := .cells #[.int .i64 t393, .slice Ao21 t394.length co21] 28 (0, 0)) (by (with_reducible repeat (first | refine blk_drewN ?_ _ | refine blk_drew ?_ | refine blk_alloc ?_ _)); exact BK397.out) hb); have n7_ := Aside0.mk (below_step (by repeat (first | (with_reducible first | exact HB.out | apply below_alloc | apply pw_below_drewN | apply below_drew1 | refine below_set ?_ GE397.out) | exact HB.out)) hb); clear HO_5; clear HO_9; clear HO_11; clear HO_13; clear HO_398001; clear BK397; clear HB; have HO_5 := n0_; have HO_9 := n1_; have HO_11 := n2_; have HO_13 := n3_; have HO_398001 := n4_; have HO417 := n5_; have BK397 := n6_; have HB := n7_; clear n0_ n1_ n2_ n3_ n4_ n5_ n6_ n7_; (try clear hb); (try clear hb2); (try clear hk); (try clear hi); (try clear ho0); obtain ⟨Ao54, co54, eo54⟩ := Kd.S_slice HO_9.out; subst eo54; obtain ⟨Ao55, co55, eo55⟩ := Kd.S_slice HO417.out; subst eo55) | (go_at_call 21; (with_reducible refine (dowellaw29_sameLists.calls k2 _ _ t400 _ _ t415 true _ ?side1 ?side2 ?side3 ?side4 A47.out).mono ?_); (case side1 => repeat (first | exact (Kd.S_reads' HO_9.out).2.2 | (with_reducible refine Kd.C_alloc ?_ _) | (with_reducible refine Kd.C_drewN ?_ _) | (with_reducible refine Kd.C_drew ?_))); (case side2 => exact (Kd.S_reads' HO_9.out).2.1); (case side3 => repeat (first | exact (Kd.S_reads' HO417.out).2.2 | (with_reducible refine Kd.C_alloc ?_ _) | (with_reducible refine Kd.C_drewN ?_ _) | (with_reducible refine Kd.C_drew ?_))); (case side4 => exact (Kd.S_reads' HO417.out).2.1); rintro e w' ⟨rfl, ⟨nd, rfl⟩⟩; obtain ⟨Ao56, co56, eo56⟩ := Kd.R_slice HO_11.out; subst eo56; obtain ⟨Ao57, co57, eo57⟩ := Kd.R_slice HO_13.out; subst eo57) | (go_at_call 14; (with_reducible refine (dowellaw29_same.calls k2 _ _ t404 _ _ x13_2 t419 _ ?side1 ?side2 ?side3 ?side4 A49.out).mono ?_); (case side1 => repeat (first | exact (Kd.R_reads' HO_11.out).2.2 | (with_reducible refine Kd.C_alloc ?_ _) | (with_reducible refine Kd.C_drewN ?_ _) | (with_reducible refine Kd.C_drew ?_))); (case side2 => exact (Kd.R_reads' HO_11.out).2.1); (case side3 => repeat (first | exact (Kd.R_reads' HO_13.out).2.2 | (with_reducible refine Kd.C_alloc ?_ _) | (with_reducible refine Kd.C_drewN ?_ _) | (with_reducible refine Kd.C_drew ?_))); (case side4 => exact (Kd.R_reads' HO_13.out).2.1); rintro e w' ⟨rfl, ⟨nd, rfl⟩⟩))
                        go_ret
                        exact ⟨by first | rfl | (simp [errW_none, errW_some] <;> rfl) | (simp [*, errW_none, errW_some] <;> rfl), by repeat (first | (with_reducible first | exact HB.out | apply below_alloc | apply pw_below_drewN | apply below_drew1 | refine below_set ?_ GE397.out) | exact HB.out)⟩
                      · replace c48 := Bool.eq_false_iff.mpr c48
                        subst c48
                        have H1 : (some false) = some r := by rw [if_neg (show ¬ (false = true) by decide)] at H; exact H
                        clear H
                        have H := H1
                        clear H1
                        obtain rfl := Option.some.inj H
                        have hcz58_0 : wr.cell? ⟨gb397, 0, none⟩ = some (.int .i64 t393) := (blk_cell BK397.out 0).trans rfl
                        have hcz58_1 : wr.cell? ⟨gb397, 1, none⟩ = some (.slice Ao21 t394.length co21) := (blk_cell BK397.out 1).trans rfl
                        have hfz58_0 := blk_frozen BK397.out 0
                        have hfz58_1 := blk_frozen BK397.out 1
                        go_wp2_with (first | (go_at_call 12; (with_reducible refine (dowellaw29_connected.calls k2 t393 _ _ t394 _ _ t388 t414 _ ?side1 ?side2 ?side3 ?side4 A44.out).mono ?_); (case side1 => repeat (first | exact (Kd.R_reads' HO_398001.out).2.2 | (with_reducible refine Kd.C_alloc ?_ _) | (with_reducible refine Kd.C_drewN ?_ _) | (with_reducible refine Kd.C_drew ?_))); (case side2 => exact (Kd.R_reads' HO_398001.out).2.1); (case side3 => repeat (first | exact (Kd.R_reads' HO_5.out).2.2 | (with_reducible refine Kd.C_alloc ?_ _) | (with_reducible refine Kd.C_drewN ?_ _) | (with_reducible refine Kd.C_drew ?_))); (case side4 => exact (Kd.R_reads' HO_5.out).2.1); rintro e w59 ⟨rfl, hb⟩; have n0_ := Aside0.mk (Kd.R_below (by (with_reducible repeat (first | apply Kd.R_alloc | apply Kd.R_drewN | apply Kd.R_drew)); exact HO_5.out) hb); have n1_ := Aside0.mk (Kd.S_below (by (with_reducible repeat (first | apply Kd.S_alloc | apply Kd.S_drewN | apply Kd.S_drew)); exact HO_9.out) hb); have n2_ := Aside0.mk (Kd.R_below (by (with_reducible repeat (first | apply Kd.R_alloc | apply Kd.R_drewN | apply Kd.R_drew)); exact HO_11.out) hb); have n3_ := Aside0.mk (Kd.R_below (by (with_reducible repeat (first | apply Kd.R_alloc | apply Kd.R_drewN | apply Kd.R_drew)); exact HO_13.out) hb); have n4_ := Aside0.mk (Kd.R_below (by (with_reducible repeat (first | apply Kd.R_alloc | apply Kd.R_drewN | apply Kd.R_drew)); exact HO_398001.out) hb); have n5_ := Aside0.mk (blk_below (g := gb397) (o := .cells #[.int .i64 t393, .slice Ao21 t394.length co21] 28 (0, 0)) (by (with_reducible repeat (first | refine blk_drewN ?_ _ | refine blk_drew ?_ | refine blk_alloc ?_ _)); exact BK397.out) hb); have n6_ := Aside0.mk (below_step (by repeat (first | (with_reducible first | exact HB.out | apply below_alloc | apply pw_below_drewN | apply below_drew1 | refine below_set ?_ GE397.out) | exact HB.out)) hb); clear HO_5; clear HO_9; clear HO_11; clear HO_13; clear HO_398001; clear BK397; clear HB; have HO_5 := n0_; have HO_9 := n1_; have HO_11 := n2_; have HO_13 := n3_; have HO_398001 := n4_; have BK397 := n5_; have HB := n6_; clear n0_ n1_ n2_ n3_ n4_ n5_ n6_; (try clear hb); (try clear hb2); (try clear hk); (try clear hi); have hcz60_0 : w59.cell? ⟨gb397, 0, none⟩ = some (.int .i64 t393) := (blk_cell BK397.out 0).trans rfl; have hcz60_1 : w59.cell? ⟨gb397, 1, none⟩ = some (.slice Ao21 t394.length co21) := (blk_cell BK397.out 1).trans rfl; have hfz60_0 := blk_frozen BK397.out 0; have hfz60_1 := blk_frozen BK397.out 1) | (go_at_call 22; (with_reducible refine (dowellaw29_pieces.calls k2 t393 _ _ t394 (fun k_ => some k_ = (.slice Ao22 t388.length co22 : Value).ownBlock) _ _ t388 t415 _ ?side1 ?side2 ?side3 A46.out).mono ?_); (case side1 => repeat (first | exact (Kd.R_reads' HO_398001.out).2.2 | (with_reducible refine Kd.C_alloc ?_ _) | (with_reducible refine Kd.C_drewN ?_ _) | (with_reducible refine Kd.C_drew ?_))); (case side2 => exact (Kd.R_reads' HO_398001.out).2.1); (case side3 => exact Kd.R_V (Kd.R_tight rfl (Kd.R_types (Kd.R_apart' (Kd.R_apart' (HO_5.out) (Kd.S_typed HO_9.out) (by decide)) (Kd.R_typed HO_398001.out) (by decide)) BK397.out (by decide)))); rintro e w61 ⟨v416, rfl, ho0, hb⟩; have n0_ := Aside0.mk (Kd.R_below (by (with_reducible repeat (first | apply Kd.R_alloc | apply Kd.R_drewN | apply Kd.R_drew)); exact HO_5.out) hb); have n1_ := Aside0.mk (Kd.S_elder' (by (with_reducible repeat (first | apply Kd.S_alloc | apply Kd.S_drewN | apply Kd.S_drew)); exact HO_9.out) (Kd.S_base ho0) hb); have n2_ := Aside0.mk (Kd.R_below (by (with_reducible repeat (first | apply Kd.R_alloc | apply Kd.R_drewN | apply Kd.R_drew)); exact HO_11.out) hb); have n3_ := Aside0.mk (Kd.R_below (by (with_reducible repeat (first | apply Kd.R_alloc | apply Kd.R_drewN | apply Kd.R_drew)); exact HO_13.out) hb); have n4_ := Aside0.mk (Kd.R_below (by (with_reducible repeat (first | apply Kd.R_alloc | apply Kd.R_drewN | apply Kd.R_drew)); exact HO_398001.out) hb); have n5_ := Aside0.mk (Kd.S_lower (Kd.S_new' (Kd.S_new' (Kd.S_new' (Kd.S_new' (Kd.S_mono (ok' := fun k_ => True) ho0 (fun _ hk_ => trivial)) (Kd.R_lt (by (with_reducible repeat (first | apply Kd.R_alloc | apply Kd.R_drewN | apply Kd.R_drew)); exact HO_5.out))) (Kd.S_lt (by (with_reducible repeat (first | apply Kd.S_alloc | apply Kd.S_drewN | apply Kd.S_drew)); exact HO_9.out))) (Kd.R_lt (by (with_reducible repeat (first | apply Kd.R_alloc | apply Kd.R_drewN | apply Kd.R_drew)); exact HO_11.out))) (Kd.R_lt (by (with_reducible repeat (first | apply Kd.R_alloc | apply Kd.R_drewN | apply Kd.R_drew)); exact HO_13.out))) (below_size (by repeat (first | (with_reducible first | exact HB.out | apply below_alloc | apply pw_below_drewN | apply below_drew1 | refine below_set ?_ GE397.out) | exact HB.out)))); have n6_ := Aside0.mk (blk_below (g := gb397) (o := .cells #[.int .i64 t393, .slice Ao21 t394.length co21] 28 (0, 0)) (by (with_reducible repeat (first | refine blk_drewN ?_ _ | refine blk_drew ?_ | refine blk_alloc ?_ _)); exact BK397.out) hb); have n7_ := Aside0.mk (below_step (by repeat (first | (with_reducible first | exact HB.out | apply below_alloc | apply pw_below_drewN | apply below_drew1 | refine below_set ?_ GE397.out) | exact HB.out)) hb); clear HO_5; clear HO_9; clear HO_11; clear HO_13; clear HO_398001; clear BK397; clear HB; have HO_5 := n0_; have HO_9 := n1_; have HO_11 := n2_; have HO_13 := n3_; have HO_398001 := n4_; have HO417 := n5_; have BK397 := n6_; have HB := n7_; clear n0_ n1_ n2_ n3_ n4_ n5_ n6_ n7_; (try clear hb); (try clear hb2); (try clear hk); (try clear hi); (try clear ho0); obtain ⟨Ao62, co62, eo62⟩ := Kd.S_slice HO_9.out; subst eo62; obtain ⟨Ao63, co63, eo63⟩ := Kd.S_slice HO417.out; subst eo63) | (go_at_call 21; (with_reducible refine (dowellaw29_sameLists.calls k2 _ _ t400 _ _ t415 false _ ?side1 ?side2 ?side3 ?side4 A47.out).mono ?_); (case side1 => repeat (first | exact (Kd.S_reads' HO_9.out).2.2 | (with_reducible refine Kd.C_alloc ?_ _) | (with_reducible refine Kd.C_drewN ?_ _) | (with_reducible refine Kd.C_drew ?_))); (case side2 => exact (Kd.S_reads' HO_9.out).2.1); (case side3 => repeat (first | exact (Kd.S_reads' HO417.out).2.2 | (with_reducible refine Kd.C_alloc ?_ _) | (with_reducible refine Kd.C_drewN ?_ _) | (with_reducible refine Kd.C_drew ?_))); (case side4 => exact (Kd.S_reads' HO417.out).2.1); rintro e w' ⟨rfl, ⟨nd, rfl⟩⟩))
                        go_ret
                        exact ⟨by first | rfl | (simp [errW_none, errW_some] <;> rfl) | (simp [*, errW_none, errW_some] <;> rfl), by repeat (first | (with_reducible first | exact HB.out | apply below_alloc | apply pw_below_drewN | apply below_drew1 | refine below_set ?_ GE397.out) | exact HB.out)⟩
                    · rw [if_neg c45] at H
                      have c45b0 : (t398 == t414) = false := by simpa using c45
                      (try (have c45b1 : decide (t398 = t414) = false := by simpa using c45))
                      (try (have c45b2 : (t398 == t414) = false := by simpa using c45))
                      (try (have c45b3 : ¬ (t398 = t414) := by simpa using c45))
                      clear c45
                      obtain rfl := Option.some.inj H
                      have hcz64_0 : wr.cell? ⟨gb397, 0, none⟩ = some (.int .i64 t393) := (blk_cell BK397.out 0).trans rfl
                      have hcz64_1 : wr.cell? ⟨gb397, 1, none⟩ = some (.slice Ao21 t394.length co21) := (blk_cell BK397.out 1).trans rfl
                      have hfz64_0 := blk_frozen BK397.out 0
                      have hfz64_1 := blk_frozen BK397.out 1
                      go_wp2_with (first | (go_at_call 12; (with_reducible refine (dowellaw29_connected.calls k2 t393 _ _ t394 _ _ t388 t414 _ ?side1 ?side2 ?side3 ?side4 A44.out).mono ?_); (case side1 => repeat (first | exact (Kd.R_reads' HO_398001.out).2.2 | (with_reducible refine Kd.C_alloc ?_ _) | (with_reducible refine Kd.C_drewN ?_ _) | (with_reducible refine Kd.C_drew ?_))); (case side2 => exact (Kd.R_reads' HO_398001.out).2.1); (case side3 => repeat (first | exact (Kd.R_reads' HO_5.out).2.2 | (with_reducible refine Kd.C_alloc ?_ _) | (with_reducible refine Kd.C_drewN ?_ _) | (with_reducible refine Kd.C_drew ?_))); (case side4 => exact (Kd.R_reads' HO_5.out).2.1); rintro e w65 ⟨rfl, hb⟩; have n0_ := Aside0.mk (Kd.R_below (by (with_reducible repeat (first | apply Kd.R_alloc | apply Kd.R_drewN | apply Kd.R_drew)); exact HO_5.out) hb); have n1_ := Aside0.mk (Kd.S_below (by (with_reducible repeat (first | apply Kd.S_alloc | apply Kd.S_drewN | apply Kd.S_drew)); exact HO_9.out) hb); have n2_ := Aside0.mk (Kd.R_below (by (with_reducible repeat (first | apply Kd.R_alloc | apply Kd.R_drewN | apply Kd.R_drew)); exact HO_11.out) hb); have n3_ := Aside0.mk (Kd.R_below (by (with_reducible repeat (first | apply Kd.R_alloc | apply Kd.R_drewN | apply Kd.R_drew)); exact HO_13.out) hb); have n4_ := Aside0.mk (Kd.R_below (by (with_reducible repeat (first | apply Kd.R_alloc | apply Kd.R_drewN | apply Kd.R_drew)); exact HO_398001.out) hb); have n5_ := Aside0.mk (blk_below (g := gb397) (o := .cells #[.int .i64 t393, .slice Ao21 t394.length co21] 28 (0, 0)) (by (with_reducible repeat (first | refine blk_drewN ?_ _ | refine blk_drew ?_ | refine blk_alloc ?_ _)); exact BK397.out) hb); have n6_ := Aside0.mk (below_step (by repeat (first | (with_reducible first | exact HB.out | apply below_alloc | apply pw_below_drewN | apply below_drew1 | refine below_set ?_ GE397.out) | exact HB.out)) hb); clear HO_5; clear HO_9; clear HO_11; clear HO_13; clear HO_398001; clear BK397; clear HB; have HO_5 := n0_; have HO_9 := n1_; have HO_11 := n2_; have HO_13 := n3_; have HO_398001 := n4_; have BK397 := n5_; have HB := n6_; clear n0_ n1_ n2_ n3_ n4_ n5_ n6_; (try clear hb); (try clear hb2); (try clear hk); (try clear hi)))
                      go_ret
                      exact ⟨by first | rfl | (simp [errW_none, errW_some] <;> rfl) | (simp [*, errW_none, errW_some] <;> rfl), by repeat (first | (with_reducible first | exact HB.out | apply below_alloc | apply pw_below_drewN | apply below_drew1 | refine below_set ?_ GE397.out) | exact HB.out)⟩
                  · rw [if_neg c43] at H
                    have c43b0 : (t407 == 0) = false := beq_eq_false_iff_ne.mpr c43
                    have c43b1 : (t407 != 0) = true := bne_iff_ne.mpr c43
                    obtain rfl := Option.some.inj H
                    go_wp2
                    go_ret
                    exact ⟨by first | rfl | (simp [errW_none, errW_some] <;> rfl) | (simp [*, errW_none, errW_some] <;> rfl), by repeat (first | (with_reducible first | exact HB.out | apply below_alloc | apply pw_below_drewN | apply below_drew1 | refine below_set ?_ GE397.out) | exact HB.out)⟩
                · rw [if_neg c42] at H
                  have c42b0 : (t403 == 0) = false := beq_eq_false_iff_ne.mpr c42
                  have c42b1 : (t403 != 0) = true := bne_iff_ne.mpr c42
                  obtain rfl := Option.some.inj H
                  go_wp2
                  go_ret
                  exact ⟨by first | rfl | (simp [errW_none, errW_some] <;> rfl) | (simp [*, errW_none, errW_some] <;> rfl), by repeat (first | (with_reducible first | exact HB.out | apply below_alloc | apply pw_below_drewN | apply below_drew1 | refine below_set ?_ GE397.out) | exact HB.out)⟩
              · rw [if_neg c41] at H
                have c41b0 : (t399 == 0) = false := beq_eq_false_iff_ne.mpr c41
                have c41b1 : (t399 != 0) = true := bne_iff_ne.mpr c41
                obtain rfl := Option.some.inj H
                go_wp2
                go_ret
                exact ⟨by first | rfl | (simp [errW_none, errW_some] <;> rfl) | (simp [*, errW_none, errW_some] <;> rfl), by repeat (first | (with_reducible first | exact HB.out | apply below_alloc | apply pw_below_drewN | apply below_drew1 | refine below_set ?_ GE397.out) | exact HB.out)⟩
end
end Go.Proofs.YtbghfbhlbfcloaaDoor.PL
namespace Go.Proofs.YtbghfbhlbfcloaaDoor.PL
section
set_option linter.unusedVariables false
set_option linter.unusedSimpArgs false
open Go.RowKit Go.Proofs.YtbghfbhlbfcloaaDoorW.PrintWords Go.Proofs.YtbghfbhlbfcloaaDoorW.PrintLast Go.Proofs.YtbghfbhlbfcloaaDoorW.PrintMore

theorem EI_wo {m p : Nat} : ((EI m).filter fun x => !decide (x ∈ EI p)) = EI (wo m p) := by
  unfold EI El
  rw [List.filter_map, List.filter_filter]
  congr 1
  refine List.filter_congr fun i hi => ?_
  have hi6 := List.mem_range.1 hi
  rw [wo_bit m p i hi6]
  have e : decide (((i : Nat) : Int) ∈ List.map (fun i : Nat => (i : Int)) (List.filter (fun i => p.testBit i) (List.range 6))) = p.testBit i := by
    cases e : p.testBit i with
    | true => exact decide_eq_true (List.mem_map.2 ⟨i, List.mem_filter.2 ⟨hi, e⟩, rfl⟩)
    | false =>
      refine decide_eq_false fun h => ?_
      obtain ⟨j, hj, he⟩ := List.mem_map.1 h
      obtain rfl : j = i := by omega
      rw [(List.mem_filter.1 hj).2] at e
      cases e
  simp only [Function.comp, e]
  exact Bool.and_comm _ _
theorem wo_less {A : List Nat} {m p : Nat} (hm : m < 64) (h0 : m ≠ 0) (hp : IsP A m p) : wo m p < m := by
  have hle : wo m p ≤ m := Nat.and_le_left
  rcases Nat.lt_or_eq_of_le hle with h | h
  · exact h
  · exfalso
    obtain ⟨_, l2, l3, _⟩ := lo_f m hm h0
    have h1 := wo_bit m p (lo m) l3
    rw [h, l2, hp.low] at h1
    cases h1
theorem piece_ex {A : List Nat} (hA : Gd A) (m : Nat) (hm : m < 64) (h0 : m ≠ 0) : ∃ p, IsP A m p := by
  obtain ⟨p, _, h⟩ := piece_f hA m hm h0 700 (Nat.le_refl _)
  exact ⟨p, h⟩
/-- Both cut a set into the same pieces. -/
theorem pieces_both {A : List Nat} {E : List S68} (hA : Gd A) (hE : Ed A E) (n : Int) : ∀ (d m : Nat), m ≤ d → m < 64 → ∀ (k : Nat) (out : List (List Int)), 700 + d + 1 ≤ k → out.length + m < 1000 →
    ∃ l, liaison_Pieces.l0 k (LI A) (m : Int) out = some (out ++ l, 0) ∧ dowellaw29_pieces.l0 k (EI m) out n E = some (out ++ l) ∧ l.length ≤ m ∧ (∀ x ∈ l, x.length ≤ 6) ∧ (m = 0 → l = []) ∧ (m ≠ 0 → 1 ≤ l.length) ∧ ∀ p, IsP A m p → m ≠ 0 → (p = m ↔ l.length = 1)
  | d, m, hd, hm, k, out, hk, ho => by
    obtain ⟨k, rfl⟩ : ∃ q, k = q + 1 := ⟨k - 1, by omega⟩
    by_cases h0 : m = 0
    · subst h0
      refine ⟨[], ?_, ?_, by simp, by simp, fun _ => rfl, fun h => absurd rfl h, fun p _ h => absurd rfl h⟩
      · rw [liaison_Pieces.l0, if_pos (by simp), List.append_nil]
      · rw [dowellaw29_pieces.l0, if_neg (by decide), List.append_nil]
    · obtain ⟨p, hpf, hp⟩ := piece_f hA m hm h0 k (by omega)
      have hless := wo_less hm h0 hp
      have hpos := EI_pos hm h0
      cases d with
      | zero => omega
      | succ d =>
        obtain ⟨l, h1, h2, h3, h4, h5, h9, _⟩ := pieces_both hA hE n d (wo m p) (by omega) (by omega) k (out ++ [EI p]) (by omega) (by simp; omega)
        refine ⟨EI p :: l, ?_, ?_, ?_, ?_, fun h => absurd h h0, fun _ => by simp, fun q hq _ => ?_⟩
        · rw [liaison_Pieces.l0, if_neg (by omega), hpf, Option.bind_some, listed_f k (by omega) p hp.lt, Option.bind_some, if_pos (by omega), andNotI m p hm hp.lt, h1, List.append_assoc]
          rfl
        · rw [dowellaw29_pieces.l0, if_pos (by omega), rp_f hE n hm h0 hp k (by omega), Option.bind_some, if_pos (by omega), without_f k (EI m) (EI p) (by have := EI_len m; omega) (by have := EI_len p; omega) (by have := EI_len m; have := EI_len p; omega), Option.bind_some, EI_wo, h2, List.append_assoc]
          rfl
        · simp only [List.length_cons]; omega
        · intro x hx
          rcases List.mem_cons.1 hx with rfl | hx
          · exact EI_len p
          · exact h4 x hx
        · obtain rfl := hp.unique hq
          rw [List.length_cons]
          constructor
          · intro e
            have : wo m p = 0 := by
              refine bit_ext (wo_lt m p hm) (by decide) fun i hi => ?_
              rw [wo_bit m p i hi, e]
              simp
            rw [h5 this]
            rfl
          · intro e
            by_cases hw : wo m p = 0
            · refine bit_ext hp.lt hm fun i hi => ?_
              have h6 := wo_bit m p i hi
              rw [hw, Nat.zero_testBit] at h6
              cases e7 : m.testBit i with
              | true =>
                rw [e7] at h6
                simpa using h6.symm
              | false =>
                cases e8 : p.testBit i with
                | false => rfl
                | true => rw [hp.sub hm h0 i hi e8] at e7; cases e7
            · exfalso
              have := h9 hw
              omega

/-! ### neighbours -/
theorem and63 (a : Nat) (ha : a < 64) : a &&& 63 = a := bit_ext (Nat.lt_of_le_of_lt Nat.and_le_left ha) ha fun i hi => by
  have h : (63 : Nat).testBit i = true := by
    rw [show (63 : Nat) = 2 ^ 6 - 1 from rfl, Nat.testBit_two_pow_sub_one]
    simpa using hi
  rw [Nat.testBit_and, h, Bool.and_true]
theorem neigh_l {A : List Nat} (hA : Gd A) (m : Nat) (hm : m < 64) (s : List Nat) (hs : ∀ i ∈ s, i < 6) (hsl : s.length ≤ 6) : ∀ (c i n : Nat), i + c = s.length → n < 64 → ∀ k, c + 30 ≤ k →
    liaison_Neighbours.l0 k (LI A) (m : Int) (n : Int) (s.map fun i : Nat => (i : Int)) ((s.map fun i : Nat => (i : Int)).length : Int) (i : Int) = some (EI (wo (fo A 63 (s.drop i) n) m), 0)
  | 0, i, n, hi, hn, k, hk => by
    obtain ⟨k, rfl⟩ : ∃ q, k = q + 1 := ⟨k - 1, by omega⟩
    have hl : (s.map fun i : Nat => (i : Int)).length = s.length := List.length_map _
    rw [liaison_Neighbours.l0, if_neg (by omega), List.drop_eq_nil_of_le (by omega), andNotI n m hn hm, listed_f k (by omega) _ (wo_lt n m hn), Option.bind_some]
    rfl
  | c + 1, i, n, hi, hn, k, hk => by
    obtain ⟨k, rfl⟩ : ∃ q, k = q + 1 := ⟨k - 1, by omega⟩
    have hl : (s.map fun i : Nat => (i : Int)).length = s.length := List.length_map _
    have hlt : i < s.length := by omega
    have e : rd (s.map fun i : Nat => (i : Int)) (i : Int) = ((s[i] : Nat) : Int) := by rw [rdI _ i (by rw [hl]; exact hlt), List.getElem_map]
    have hs6 := hs s[i] (List.getElem_mem hlt)
    have hAi := hA.lt s[i]
    rw [liaison_Neighbours.l0, if_pos (by omega), if_pos (by omega), if_pos (by omega), e, if_pos (by omega), if_pos (by rw [LI_len hA]; omega), rdL hA _ hs6, orI _ _ hn hAi, wr1 i (by omega), neigh_l hA m hm s hs hsl c (i + 1) _ (by omega) (Nat.or_lt_two_pow (n := 6) hn hAi) k (by omega), List.drop_eq_getElem_cons hlt, fo, and63 _ hAi]
/-- What the law wants: nodes beside the set. -/
def wantB (A : List Nat) (m i : Nat) : Bool := ((El m).any fun j => ad A j i) && !m.testBit i
theorem neigh_want {A : List Nat} (m : Nat) : EI (wo (fo A 63 (El m) 0) m) = ((List.range 6).filter (wantB A m)).map fun i : Nat => (i : Int) := by
  unfold EI
  congr 1
  unfold El
  refine List.filter_congr fun i hi => ?_
  have hi6 := List.mem_range.1 hi
  rw [wo_bit _ m i hi6]
  unfold wantB
  congr 1
  have h := fo_bit (A := A) (m := 63) ((List.range 6).filter fun i => m.testBit i) 0 i
  have h63 : (63 : Nat).testBit i = true := by
    rw [show (63 : Nat) = 2 ^ 6 - 1 from rfl, Nat.testBit_two_pow_sub_one]
    simpa using hi6
  cases e : ((El m).any fun j => ad A j i) with
  | true =>
    obtain ⟨j, hj, ha⟩ := List.any_eq_true.1 e
    exact h.2 (.inr ⟨j, hj, ha, h63⟩)
  | false =>
    cases e2 : (fo A 63 ((List.range 6).filter fun i => m.testBit i) 0).testBit i with
    | false => rfl
    | true =>
      rcases h.1 e2 with h | ⟨j, hj, ha, _⟩
      · rw [Nat.zero_testBit] at h; cases h
      · rw [List.any_eq_false] at e
        exact absurd ha (e j hj)

/-! ### the law's own loops -/
section
variable {A : List Nat} {E : List S68} {x7 : Bool} {x8 x10 x12 : Int} {x9 : List (List Int)} {x11 : List Int}
theorem lc_l1 (hE : Ed A E) (m i : Nat) (hi : i < 6) : ∀ (c x16 : Nat) (near : Bool) (x13 : List Int), x16 + c = (EI m).length → x13.length ≤ 6 → ∀ k, c + 60 ≤ k →
    dowellaw29_LiaisonConnects.l1 k (EI m) x7 x8 x9 x10 x11 x12 x13 (i : Int) near (x16 : Int) 6 E = dowellaw29_LiaisonConnects.l0 (k - c - 1) (EI m) x7 x8 x9 x10 x11 x12 (if ((near || ((El m).drop x16).any fun j => ad A j i) && !m.testBit i) = true then x13 ++ [(i : Int)] else x13) ((i + 1 : Nat) : Int) 6 E
  | 0, x16, near, x13, hc, h13, k, hk => by
    obtain ⟨k, rfl⟩ : ∃ q, k = q + 1 := ⟨k - 1, by omega⟩
    have hel : (EI m).length = (El m).length := by unfold EI; exact List.length_map _
    have hl := EI_len m
    rw [dowellaw29_LiaisonConnects.l1, if_neg (by omega), List.drop_eq_nil_of_le (by omega), wr1 i (by omega)]
    have hh : dowellaw29_has.f k (EI m) (i : Int) = some (m.testBit i) := by
      rw [has_f k (EI m) i (by omega) (by omega)]
      congr 1
      cases e : m.testBit i with
      | true => exact decide_eq_true (EI_mem.2 ⟨i, rfl, hi, e⟩)
      | false =>
        refine decide_eq_false fun h => ?_
        obtain ⟨j, hj, _, hjb⟩ := EI_mem.1 h
        obtain rfl : i = j := by omega
        rw [e] at hjb
        cases hjb
    cases near with
    | false => rfl
    | true =>
      rw [if_pos rfl, hh, Option.bind_some]
      cases m.testBit i with
      | true => rfl
      | false =>
        rw [if_neg (by decide), if_pos (by omega)]
        rfl
  | c + 1, x16, near, x13, hc, h13, k, hk => by
    obtain ⟨k, rfl⟩ : ∃ q, k = q + 1 := ⟨k - 1, by omega⟩
    have hel : (EI m).length = (El m).length := by unfold EI; exact List.length_map _
    have hl := EI_len m
    have hlt : x16 < (EI m).length := by omega
    have hlt2 : x16 < (El m).length := by omega
    have e : rd (EI m) (x16 : Int) = (((El m)[x16] : Nat) : Int) := by
      rw [rdI _ x16 hlt]
      exact List.getElem_map _
    have hj6 := (El_mem.1 (List.getElem_mem hlt2)).1
    rw [dowellaw29_LiaisonConnects.l1, if_pos (by omega), wr1 x16 (by omega), List.drop_eq_getElem_cons hlt2, List.any_cons, show k + 1 - (c + 1) - 1 = k - c - 1 by omega]
    cases near with
    | true =>
      rw [if_pos rfl, lc_l1 hE m i hi c (x16 + 1) true x13 (by omega) h13 k (by omega)]
      rfl
    | false =>
      rw [if_neg (by decide), if_pos (by omega), e, touch_f k 6 E _ _ (by have := hE.1; omega) (by have := hE.1; omega), Option.bind_some, hE.2 _ i hj6 hi, lc_l1 hE m i hi c (x16 + 1) (ad A (El m)[x16] i) x13 (by omega) h13 k (by omega), Bool.false_or]
theorem lc_l0 (hE : Ed A E) (m : Nat) : ∀ (d i : Nat) (x13 : List Int), i + d = 6 → x13.length ≤ i → ∀ k, 10 * d + 100 ≤ k →
    ∃ k', 90 ≤ k' ∧ k ≤ k' + 10 * d ∧ k' ≤ k ∧ dowellaw29_LiaisonConnects.l0 k (EI m) x7 x8 x9 x10 x11 x12 x13 (i : Int) 6 E = dowellaw29_LiaisonConnects.l0 k' (EI m) x7 x8 x9 x10 x11 x12 (x13 ++ ((List.range' i d).filter (wantB A m)).map fun i : Nat => (i : Int)) 6 6 E
  | 0, i, x13, hi, h13, k, hk => by
    obtain rfl : i = 6 := by omega
    exact ⟨k, by omega, by omega, Nat.le_refl _, by simp⟩
  | d + 1, i, x13, hi, h13, k, hk => by
    obtain ⟨k, rfl⟩ : ∃ q, k = q + 1 := ⟨k - 1, by omega⟩
    have hl := EI_len m
    have e1 : dowellaw29_LiaisonConnects.l0 (k + 1) (EI m) x7 x8 x9 x10 x11 x12 x13 (i : Int) 6 E = dowellaw29_LiaisonConnects.l1 k (EI m) x7 x8 x9 x10 x11 x12 x13 (i : Int) false ((0 : Nat) : Int) 6 E := by
      rw [dowellaw29_LiaisonConnects.l0, if_pos (by omega)]
      rfl
    rw [e1, lc_l1 hE m i (by omega) (EI m).length 0 false x13 (by omega) (by omega) k (by omega), List.drop_zero, Bool.false_or]
    by_cases hw : wantB A m i = true
    · obtain ⟨k', h1, h2, hk9, h3⟩ := lc_l0 hE m d (i + 1) (x13 ++ [(i : Int)]) (by omega) (by simp; omega) (k - (EI m).length - 1) (by omega)
      refine ⟨k', h1, by omega, by omega, ?_⟩
      have hw' : (((El m).any fun j => ad A j i) && !m.testBit i) = true := hw
      rw [if_pos hw', h3, List.range'_succ, List.filter_cons_of_pos hw, List.map_cons, List.append_assoc]
      rfl
    · obtain ⟨k', h1, h2, hk9, h3⟩ := lc_l0 hE m d (i + 1) x13 (by omega) (by omega) (k - (EI m).length - 1) (by omega)
      refine ⟨k', h1, by omega, by omega, ?_⟩
      have hw' : ¬ (((El m).any fun j => ad A j i) && !m.testBit i) = true := hw
      rw [if_neg hw', h3, List.range'_succ, List.filter_cons_of_neg hw]
end
/-- WHATEVER THE BITS: TRUE. -/
theorem connects_plain (bits set : Int) (h0 : 0 ≤ set) (h1 : set < 256) : dowellaw29_LiaisonConnects.f 2000 bits set = some true := by
  obtain ⟨s, rfl⟩ : ∃ s : Nat, set = (s : Int) := ⟨set.toNat, by omega⟩
  have hs : s < 256 := by omega
  have hm : s % 64 < 64 := Nat.mod_lt _ (by decide)
  unfold dowellaw29_LiaisonConnects.f
  rw [chosen_f 2000 (by decide) s hs, Option.bind_some]
  have hkn : dowellaw29_known.f = some true := rfl
  rw [hkn, Option.bind_some, if_pos rfl]
  generalize hmm : s % 64 = m at hm
  by_cases hz : m = 0
  · subst hz
    rfl
  · have hpos := EI_pos hm hz
    have hel := EI_len m
    rw [show (((EI m).length : Int) == 0) = false from beq_eq_false_iff_ne.2 (by omega)]
    obtain ⟨A, hA, hlk, hE, hsym⟩ := linked_f (tb bits) 1999 (by decide)
    obtain ⟨p, hp⟩ := piece_ex hA m hm hz
    have hop := opened_f (tb bits) A m 1999 hm hz (by decide) hlk
    obtain ⟨l, hl1, hl2, hl3, hl4, _⟩ := pieces_both hA hE 6 64 m (by omega) hm 1999 [] (by omega) (by simp; omega)
    have hP : liaison_Pieces.f 1999 6 (Eg (tb bits)) (EI m) = some (l, 0) := by
      unfold liaison_Pieces.f
      rw [hop, Option.bind_some, if_pos rfl]
      exact hl1
    have hC : liaison_Connected.f 1999 6 (Eg (tb bits)) (EI m) = some (decide (p = m), 0) := by
      unfold liaison_Connected.f
      rw [hop, Option.bind_some, if_pos rfl, connected_f hA m p hm hz hp 1999 (by decide), Option.bind_some]
    have hN : liaison_Neighbours.f 1999 6 (Eg (tb bits)) (EI m) = some (EI (wo (fo A 63 (El m) 0) m), 0) := by
      unfold liaison_Neighbours.f
      rw [hop, Option.bind_some, if_pos rfl]
      have := neigh_l hA m hm (El m) (fun i hi => (El_mem.1 hi).1) (El_len m) (El m).length 0 0 (by omega) (by decide) 1999 (by have := El_len m; omega)
      exact this
    change dowellaw29_LiaisonConnects.j0 (1999 + 1) bits (EI m) false = some true
    rw [dowellaw29_LiaisonConnects.j0, if_neg (by decide), pairs_f bits 1999 (by decide), Option.bind_some, hC, Option.bind_some, hP, Option.bind_some, hN, Option.bind_some]
    obtain ⟨k', hk1, hk2, hk3, hl⟩ := lc_l0 (A := A) (E := Eg (tb bits)) (x7 := decide (p = m)) (x8 := 0) (x10 := 0) (x12 := 0) (x9 := l) (x11 := EI (wo (fo A 63 (El m) 0) m)) hE m 6 0 [] (by omega) (by simp) 1999 (by decide)
    have hl' := hl
    rw [show ((0 : Nat) : Int) = 0 from rfl] at hl'
    show dowellaw29_LiaisonConnects.l0 1999 (EI m) (decide (p = m)) 0 l 0 (EI (wo (fo A 63 (El m) 0) m)) 0 [] 0 6 (Eg (tb bits)) = some true
    rw [hl', List.nil_append, ← List.range_eq_range', ← neigh_want]
    obtain ⟨k', rfl⟩ : ∃ q, k' = q + 1 := ⟨k' - 1, by omega⟩
    obtain ⟨l', hl1', hl2', hl3', hl4', _⟩ := pieces_both hA hE 6 64 m (by omega) hm k' [] (by omega) (by simp; omega)
    have hll : l' = l := by
      have h1 := up (fun k => (liaison_Pieces.mono_l k (LI A) (m : Int) [])) hl1' 1999 (by omega)
      rw [hl1] at h1
      simpa using h1.symm
    subst hll
    have hR : dowellaw29_pieces.f k' 6 (Eg (tb bits)) (EI m) = some l' := by
      unfold dowellaw29_pieces.f
      exact hl2'
    rw [dowellaw29_LiaisonConnects.l0, if_neg (by decide), if_pos rfl, if_pos rfl, if_pos rfl, rc_f hE 6 hm hz hp k' (by omega), Option.bind_some, if_pos (by simp), hR, Option.bind_some, sameLists_f k' l' l' (by omega) 6 hl4' (by decide) (by omega), Option.bind_some, decide_eq_true rfl, if_pos rfl, same_f k' _ _ (by have := EI_len (wo (fo A 63 (El m) 0) m); omega) (by have := EI_len (wo (fo A 63 (El m) 0) m); omega), Option.bind_some, decide_eq_true rfl]
end
end Go.Proofs.YtbghfbhlbfcloaaDoor.PL
