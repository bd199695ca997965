/- Put together by this session's program pack.py. -/
import Derived.Below
import Derived.Deep.Draws
import Derived.Deep.AppendLies
import Derived.Maps.AppendAt
import Derived.OwnWalk
import Derived.Laws.BytesArg
import Derived.Laws.MakeOwn
import Derived.Laws.OwnMore
import Derived.Deep.OwnRows
import Derived.Tactics
import Derived.Lib.ConvBytes
import Derived.Laws.Slices
import Derived.WalkKit
import Derived.KernelRfl
import Derived.RowKit3
import Derived.Deep.LoopGhost
import Derived.Deep.QuietTactic
import Derived.BigQuiet
import Derived.WideLaws
import Derived.Deep.DeepCutAuto
import Derived.Deep.CutBlock
import Derived.Deep.RegionHeld3
import Derived.Laws.Rows
import Derived.Lib.AppendStr
import Derived.ArgAppend
import Derived.Laws.IdiomCopy
import Derived.OrdersHeld
import Derived.Laws.BitsLemmas
import Derived.RowKit
import Derived.Sort.Grow
import Derived.Shelf.SlSortCmp.InsertionK
import Derived.WalkSpells
import Derived.Shelf.SlSortCmp.NoneTotal
import Derived.Shelf.SlGeneric
import Derived.Ground.SlsfProg
import Derived.RangeFuncNested
import Derived.RangeFuncBound
import Derived.RangeFuncCalls
import Derived.RangeFuncLeaves
import Derived.Shelf.Abstract
import Derived.Shelf.RegionOpen
import Derived.OwnWalkIn
import Derived.TacticsInMore
import Derived.LoopNIn
import Derived.LoopIn
import Derived.OrdersIn
import Derived.RangeFuncKeeps
import Derived.RangeFuncWrites
import Derived.Shelf.SlicesQ.IndexFunc
import Derived.Shelf.GgClosure.StringsIndexFuncTop
import Derived.Ground.SlgfProg
import Derived.Ground.GgwProg
import Derived.Test.YtbghfbhlbfcloaaDoorKw0
import Derived.Test.YtbghfbhlbfcloaaDoorKp0
import Derived.Test.YtbghfbhlbfcloaaDoorKp1
import Derived.Test.YtbghfbhlbfcloaaDoorKp2
import Derived.Test.YtbghfbhlbfcloaaDoorKp3
import Derived.Test.YtbghfbhlbfcloaaDoorKp4
namespace Go.Proofs.YtbghfbhlbfcloaaDoor.PL
section
open Go.RowKit Go.Proofs.YtbghfbhlbfcloaaDoorW.PrintWords Go.Proofs.YtbghfbhlbfcloaaDoorW.PrintLast Go.Proofs.YtbghfbhlbfcloaaDoorW.PrintMore
attribute [local go_sem] zC2 zC0 zC9 zC8 zBs zBr zC1 zBz   -- for this text's walks alone
set_option linter.unusedVariables false
set_option linter.unusedSimpArgs false
/-! ### zA7: function 3 -/
mutual
def zA7.j0 : Nat → Int → List Int → Bool → Option (Bool)
 | 0, _, _, _ => none
 | k + 1, x0, x5, x21 => if x21 = true then ((zCh.f).bind fun t316 => (some t316)) else ((zAn.f k x0).bind fun bt317 => ((liaison_Cuts.f bt317.1 bt317.2 x5).bind fun bt322 => ((zB2.f k bt317.1 bt317.2 x5).bind fun bt326 => ((zAm.f k bt317.1 bt317.2 x5).bind fun t330 => (if t330 = true then ((zAo.f k bt317.1 bt317.2 x5).bind fun t331 => (if bt322.2 = 0 then (if bt326.2 = 0 then (if (bt322.1.length : Int) = (t331.length : Int) then ((zAg.f k bt317.1 bt317.2 x5).bind fun t334 => ((zAj.f k bt326.1 t334).bind fun t337 => (zA7.j1 k bt322.1 t331 (!t337)))) else (zA7.j1 k bt322.1 t331 true)) else (zA7.j1 k bt322.1 t331 true)) else (zA7.j1 k bt322.1 t331 true))) else (if (bt322.1.length : Int) = 0 then (if bt322.2 = 17 then (if (bt326.1.length : Int) = 0 then (some (bt326.2 == 17)) else (some false)) else (some false)) else (some false)))))))
def zA7.j1 : Nat → List (S41) → List (S41) → Bool → Option (Bool)
 | 0, _, _, _ => none
 | k + 1, x7, x11, x80 => if x80 = true then (some false) else (zA7.l0 k x7 x11 0)
def zA7.l0 : Nat → List (S41) → List (S41) → Int → Option (Bool)
 | 0, _, _, _ => none
 | k + 1, x7, x11, x12 => if x12 < (x7.length : Int) then (if 0 ≤ x12 then (if x12 < (x11.length : Int) then ((zAj.f k ((zBu x7 x12).f0) ((zBu x11 x12).f0)).bind fun t340 => (if t340 = true then ((zAj.f k ((zBu x7 x12).f1) ((zBu x11 x12).f1)).bind fun t343 => (if t343 = true then (zA7.l0 k x7 x11 (wrap64 (x12 + 1))) else (some false))) else (some false))) else (none)) else (none)) else (some true)
end
def zA7.f (k : Nat) (a0 : Int) (a1 : Int) : Option (Bool) := (zB9.f k a1).bind fun t312 => ((zCh.f).bind fun t315 => (if t315 = true then (zA7.j0 k a0 t312 ((t312.length : Int) == 0)) else (zA7.j0 k a0 t312 true)))
theorem zA7.zBx : ∀ k, (∀ y0 y1 y2, LeO (zA7.j0 k y0 y1 y2) (zA7.j0 (k + 1) y0 y1 y2)) ∧ (∀ y0 y1 y2, LeO (zA7.j1 k y0 y1 y2) (zA7.j1 (k + 1) y0 y1 y2)) ∧ (∀ y0 y1 y2, LeO (zA7.l0 k y0 y1 y2) (zA7.l0 (k + 1) y0 y1 y2))
 | 0 => ⟨fun _ _ _ r h => by simp [zA7.j0] at h, fun _ _ _ r h => by simp [zA7.j1] at h, fun _ _ _ r h => by simp [zA7.l0] at h⟩
 | k + 1 => by
  obtain ⟨ih0, ih1, ih2⟩ := zA7.zBx k
  refine ⟨?_, ?_, ?_⟩
  ·intro y0 y1 y2
   unfold zA7.j0
   repeat' first
   | (with_reducible exact ih0 _ _ _)
   | (with_reducible exact ih1 _ _ _)
   | (with_reducible exact ih2 _ _ _)
   | (with_reducible exact zB9.mono _ _)
   | (with_reducible exact zAm.mono _ _ _ _)
   | (with_reducible exact zAo.mono _ _ _ _)
   | (with_reducible exact zAg.mono _ _ _ _)
   | (with_reducible exact zAn.mono _ _)
   | (with_reducible exact zAj.mono _ _ _)
   | (with_reducible exact zB2.mono _ _ _ _)
   | (with_reducible exact LeO.refl _)
   | (with_reducible exact LeO.none _)
   | (with_reducible refine LeO.ite ?_ ?_)
   | (with_reducible refine LeO.bind ?_ (fun _ => ?_))
  ·intro y0 y1 y2
   unfold zA7.j1
   repeat' first
   | (with_reducible exact ih0 _ _ _)
   | (with_reducible exact ih1 _ _ _)
   | (with_reducible exact ih2 _ _ _)
   | (with_reducible exact zB9.mono _ _)
   | (with_reducible exact zAm.mono _ _ _ _)
   | (with_reducible exact zAo.mono _ _ _ _)
   | (with_reducible exact zAg.mono _ _ _ _)
   | (with_reducible exact zAn.mono _ _)
   | (with_reducible exact zAj.mono _ _ _)
   | (with_reducible exact zB2.mono _ _ _ _)
   | (with_reducible exact LeO.refl _)
   | (with_reducible exact LeO.none _)
   | (with_reducible refine LeO.ite ?_ ?_)
   | (with_reducible refine LeO.bind ?_ (fun _ => ?_))
  ·intro y0 y1 y2
   unfold zA7.l0
   repeat' first
   | (with_reducible exact ih0 _ _ _)
   | (with_reducible exact ih1 _ _ _)
   | (with_reducible exact ih2 _ _ _)
   | (with_reducible exact zB9.mono _ _)
   | (with_reducible exact zAm.mono _ _ _ _)
   | (with_reducible exact zAo.mono _ _ _ _)
   | (with_reducible exact zAg.mono _ _ _ _)
   | (with_reducible exact zAn.mono _ _)
   | (with_reducible exact zAj.mono _ _ _)
   | (with_reducible exact zB2.mono _ _ _ _)
   | (with_reducible exact LeO.refl _)
   | (with_reducible exact LeO.none _)
   | (with_reducible refine LeO.ite ?_ ?_)
   | (with_reducible refine LeO.bind ?_ (fun _ => ?_))
theorem zA7.mono : ∀ a0 a1 k, LeO (zA7.f k a0 a1) (zA7.f (k + 1) a0 a1) := by
 intro a0 a1 k
 obtain ⟨ih0, ih1, ih2⟩ := zA7.zBx k
 unfold zA7.f
 repeat' first
   | (with_reducible exact ih0 _ _ _)
   | (with_reducible exact ih1 _ _ _)
   | (with_reducible exact ih2 _ _ _)
   | (with_reducible exact zB9.mono _ _)
   | (with_reducible exact zAm.mono _ _ _ _)
   | (with_reducible exact zAo.mono _ _ _ _)
   | (with_reducible exact zAg.mono _ _ _ _)
   | (with_reducible exact zAn.mono _ _)
   | (with_reducible exact zAj.mono _ _ _)
   | (with_reducible exact zB2.mono _ _ _ _)
   | (with_reducible exact LeO.refl _)
   | (with_reducible exact LeO.none _)
   | (with_reducible refine LeO.ite ?_ ?_)
   | (with_reducible refine LeO.bind ?_ (fun _ => ?_))
set_option maxHeartbeats 8000000 in
set_option maxRecDepth 100000 in
theorem zA7.calls (k : Nat) (a0 : Int) (a1 : Int) (r : Bool) (w : World) (hG : Kd.C (Kd.int .u8) w (some tabA) tabL.length tabL) (h : zA7.f k a0 a1 = some r) :
  Calls Tryd.prog 3 #[.int .u16 a0, .int .u8 a1] w fun e w' => e = .returned (.bool r) ∧ Below w.heap.size w w' := by
 have hu28 := Tryd.underlying28
 have HB := zA1.mk (Below.refl w.heap.size w)
 have HG := zA1.mk hG
 clear hG
 have H : ((zB9.f k a1).bind fun t312 => ((zCh.f).bind fun t315 => (if t315 = true then (zA7.j0 k a0 t312 ((t312.length : Int) == 0)) else (zA7.j0 k a0 t312 true)))) = some r := h
 clear h
 replace H := Option.bind_eq_some_iff.mp H
 obtain ⟨t312, A30, H⟩ := H
 replace H : ((zCh.f).bind fun t315 => (if t315 = true then (zA7.j0 k a0 t312 ((t312.length : Int) == 0)) else (zA7.j0 k a0 t312 true))) = some r := H
 have A3 := zA1.mk A30
 clear A30
 have HC4 := zA1.mk H
 clear H
 go_enter Tryd.func3, Tryd.ntmps3
 go_upto_region 2 with (first | (go_at_call 7; (with_reducible refine (zB9.calls k a1 t312 _ A3.out).mono ?_); rintro e w5 ⟨v313, rfl, ho0, hb⟩; have n0_ := zA1.mk (Kd.zCk ho0 (zAb (by repeat (first | (with_reducible first | exact HB.out | apply zA2 | apply zA0 | apply zA3) | exact HB.out)))); have n1_ := zA1.mk (zAe (by repeat (first | (with_reducible first | exact HB.out | apply zA2 | apply zA0 | apply zA3) | exact HB.out)) hb); clear HB; have HO314 := n0_; have HB := n1_; clear n0_ n1_; (try clear hb); (try clear hb2); (try clear hk); (try clear hi); (try clear ho0)))
 (try simp only [Act.put, List.setIfInBounds_toArray, List.set_cons_zero, List.set_cons_succ])
 go_cut [21] (fun v21 wc => ∃ (kq : Nat) (x21_3 : Bool), v21 = .bool x21_3 ∧ zA1 (zA7.j0 kq a0 t312 x21_3 = some r) ∧ zA1 (kq ≤ k) ∧ zA1 (Kd.R (Kd.int .i64) 3 wc w.heap.size (fun _ => True) v313 t312) ∧ zA1 (Below w.heap.size w wc))
 case first =>
  have H := HC4.out
  clear HC4
  replace H := Option.bind_eq_some_iff.mp H
  obtain ⟨t315, A60, H⟩ := H
  replace H : (if t315 = true then (zA7.j0 k a0 t312 ((t312.length : Int) == 0)) else (zA7.j0 k a0 t312 true)) = some r := H
  have A6 := zA1.mk A60
  clear A60
  by_cases c7 : t315 = true
  ·subst c7
   have H1 : (zA7.j0 k a0 t312 ((t312.length : Int) == 0)) = some r := by rw [if_pos rfl] at H; exact H
   clear H
   have H := H1
   clear H1
   have H' := zA1.mk H
   clear H
   go_wp2_with (first | (go_at_call 8; (with_reducible refine (zCh.calls  true _ ?side1 A6.out).mono ?_); (case side1 => repeat (first | exact (Kd.zB1 HG.out HB.out) | (with_reducible refine Kd.zAf ?_ _) | (with_reducible refine Kd.zAk ?_ _) | (with_reducible refine Kd.zAv ?_))); rintro e w8 ⟨rfl, hb⟩; have n0_ := zA1.mk (Kd.zBi (by (with_reducible repeat (first | apply Kd.zAi | apply Kd.zAh | apply Kd.zAp)); exact HO314.out) hb); have n1_ := zA1.mk (zAe (by repeat (first | (with_reducible first | exact HB.out | apply zA2 | apply zA0 | apply zA3) | exact HB.out)) hb); clear HO314; clear HB; have HO314 := n0_; have HB := n1_; clear n0_ n1_; (try clear hb); (try clear hb2); (try clear hk); (try clear hi); obtain ⟨Ao9, co9, eo9⟩ := Kd.zC5 HO314.out; subst eo9))
   go_meet
   case rel => exact ⟨_, (((t312.length : Int) == 0)), (by first | rfl | (simp; done) | (simp [*]; done)), H', ⟨by first | omega | exact Nat.le_refl _⟩, ⟨by (with_reducible repeat (first | apply Kd.zAi | apply Kd.zAh | apply Kd.zAp)); exact HO314.out⟩, ⟨by repeat (first | (with_reducible first | exact HB.out | apply zA2 | apply zA0 | apply zA3) | exact HB.out)⟩⟩
  ·replace c7 := Bool.eq_false_iff.mpr c7
   subst c7
   have H1 : (zA7.j0 k a0 t312 true) = some r := by rw [if_neg (show ¬ (false = true) by decide)] at H; exact H
   clear H
   have H := H1
   clear H1
   have H' := zA1.mk H
   clear H
   go_wp2_with (first | (go_at_call 8; (with_reducible refine (zCh.calls  false _ ?side1 A6.out).mono ?_); (case side1 => repeat (first | exact (Kd.zB1 HG.out HB.out) | (with_reducible refine Kd.zAf ?_ _) | (with_reducible refine Kd.zAk ?_ _) | (with_reducible refine Kd.zAv ?_))); rintro e w10 ⟨rfl, hb⟩; have n0_ := zA1.mk (Kd.zBi (by (with_reducible repeat (first | apply Kd.zAi | apply Kd.zAh | apply Kd.zAp)); exact HO314.out) hb); have n1_ := zA1.mk (zAe (by repeat (first | (with_reducible first | exact HB.out | apply zA2 | apply zA0 | apply zA3) | exact HB.out)) hb); clear HO314; clear HB; have HO314 := n0_; have HB := n1_; clear n0_ n1_; (try clear hb); (try clear hb2); (try clear hk); (try clear hi)))
   go_meet
   case rel => exact ⟨_, (true), (by first | rfl | (simp; done) | (simp [*]; done)), H', ⟨by first | omega | exact Nat.le_refl _⟩, ⟨by (with_reducible repeat (first | apply Kd.zAi | apply Kd.zAh | apply Kd.zAp)); exact HO314.out⟩, ⟨by repeat (first | (with_reducible first | exact HB.out | apply zA2 | apply zA0 | apply zA3) | exact HB.out)⟩⟩
 case rest =>
  clear HC4
  try clear p2
  try clear c3
  try clear c7
  obtain ⟨kq, x21_3, rfl, HA, HJ3, HO_5, HB⟩ := hcut
  cases kq with
  | zero => exact absurd HA.out (by simp [zA7.j0])
  | succ kj3 =>
   have H := HA.out
   clear HA
   simp only [zA7.j0] at H
   by_cases c11 : x21_3 = true
   ·subst c11
    have H1 : ((zCh.f).bind fun t316 => (some t316)) = some r := by rw [if_pos rfl] at H; exact H
    clear H
    have H := H1
    clear H1
    replace H := Option.bind_eq_some_iff.mp H
    obtain ⟨t316, A120, H⟩ := H
    replace H : (some t316) = some r := H
    have A12 := zA1.mk A120
    clear A120
    obtain rfl := Option.some.inj H
    go_wp2_with (first | (go_at_call 8; (with_reducible refine (zCh.calls  t316 _ ?side1 A12.out).mono ?_); (case side1 => repeat (first | exact (Kd.zB1 HG.out HB.out) | (with_reducible refine Kd.zAf ?_ _) | (with_reducible refine Kd.zAk ?_ _) | (with_reducible refine Kd.zAv ?_))); rintro e w13 ⟨rfl, hb⟩; have n0_ := zA1.mk (Kd.zBi (by (with_reducible repeat (first | apply Kd.zAi | apply Kd.zAh | apply Kd.zAp)); exact HO_5.out) hb); have n1_ := zA1.mk (zAe (by repeat (first | (with_reducible first | exact HB.out | apply zA2 | apply zA0 | apply zA3) | exact HB.out)) hb); clear HO_5; clear HB; have HO_5 := n0_; have HB := n1_; clear n0_ n1_; (try clear hb); (try clear hb2); (try clear hk); (try clear hi)))
    go_ret
    exact ⟨by first | rfl | (simp [zAy, zAx] <;> rfl) | (simp [*, zAy, zAx] <;> rfl), by repeat (first | (with_reducible first | exact HB.out | apply zA2 | apply zA0 | apply zA3) | exact HB.out)⟩
   ·replace c11 := Bool.eq_false_iff.mpr c11
    subst c11
    have H1 : ((zAn.f kj3 a0).bind fun bt317 => ((liaison_Cuts.f bt317.1 bt317.2 t312).bind fun bt322 => ((zB2.f kj3 bt317.1 bt317.2 t312).bind fun bt326 => ((zAm.f kj3 bt317.1 bt317.2 t312).bind fun t330 => (if t330 = true then ((zAo.f kj3 bt317.1 bt317.2 t312).bind fun t331 => (if bt322.2 = 0 then (if bt326.2 = 0 then (if (bt322.1.length : Int) = (t331.length : Int) then ((zAg.f kj3 bt317.1 bt317.2 t312).bind fun t334 => ((zAj.f kj3 bt326.1 t334).bind fun t337 => (zA7.j1 kj3 bt322.1 t331 (!t337)))) else (zA7.j1 kj3 bt322.1 t331 true)) else (zA7.j1 kj3 bt322.1 t331 true)) else (zA7.j1 kj3 bt322.1 t331 true))) else (if (bt322.1.length : Int) = 0 then (if bt322.2 = 17 then (if (bt326.1.length : Int) = 0 then (some (bt326.2 == 17)) else (some false)) else (some false)) else (some false))))))) = some r := by rw [if_neg (show ¬ (false = true) by decide)] at H; exact H
    clear H
    have H := H1
    clear H1
    replace H := Option.bind_eq_some_iff.mp H
    obtain ⟨⟨t317, t318⟩, A140, H⟩ := H
    replace H : ((liaison_Cuts.f t317 t318 t312).bind fun bt322 => ((zB2.f kj3 t317 t318 t312).bind fun bt326 => ((zAm.f kj3 t317 t318 t312).bind fun t330 => (if t330 = true then ((zAo.f kj3 t317 t318 t312).bind fun t331 => (if bt322.2 = 0 then (if bt326.2 = 0 then (if (bt322.1.length : Int) = (t331.length : Int) then ((zAg.f kj3 t317 t318 t312).bind fun t334 => ((zAj.f kj3 bt326.1 t334).bind fun t337 => (zA7.j1 kj3 bt322.1 t331 (!t337)))) else (zA7.j1 kj3 bt322.1 t331 true)) else (zA7.j1 kj3 bt322.1 t331 true)) else (zA7.j1 kj3 bt322.1 t331 true))) else (if (bt322.1.length : Int) = 0 then (if bt322.2 = 17 then (if (bt326.1.length : Int) = 0 then (some (bt326.2 == 17)) else (some false)) else (some false)) else (some false)))))) = some r := H
    have A14 := zA1.mk A140
    clear A140
    replace H := Option.bind_eq_some_iff.mp H
    obtain ⟨⟨t322, t325⟩, A150, H⟩ := H
    replace H : ((zB2.f kj3 t317 t318 t312).bind fun bt326 => ((zAm.f kj3 t317 t318 t312).bind fun t330 => (if t330 = true then ((zAo.f kj3 t317 t318 t312).bind fun t331 => (if t325 = 0 then (if bt326.2 = 0 then (if (t322.length : Int) = (t331.length : Int) then ((zAg.f kj3 t317 t318 t312).bind fun t334 => ((zAj.f kj3 bt326.1 t334).bind fun t337 => (zA7.j1 kj3 t322 t331 (!t337)))) else (zA7.j1 kj3 t322 t331 true)) else (zA7.j1 kj3 t322 t331 true)) else (zA7.j1 kj3 t322 t331 true))) else (if (t322.length : Int) = 0 then (if t325 = 17 then (if (bt326.1.length : Int) = 0 then (some (bt326.2 == 17)) else (some false)) else (some false)) else (some false))))) = some r := H
    have A15 := zA1.mk A150
    clear A150
    replace H := Option.bind_eq_some_iff.mp H
    obtain ⟨⟨t326, t329⟩, A160, H⟩ := H
    replace H : ((zAm.f kj3 t317 t318 t312).bind fun t330 => (if t330 = true then ((zAo.f kj3 t317 t318 t312).bind fun t331 => (if t325 = 0 then (if t329 = 0 then (if (t322.length : Int) = (t331.length : Int) then ((zAg.f kj3 t317 t318 t312).bind fun t334 => ((zAj.f kj3 t326 t334).bind fun t337 => (zA7.j1 kj3 t322 t331 (!t337)))) else (zA7.j1 kj3 t322 t331 true)) else (zA7.j1 kj3 t322 t331 true)) else (zA7.j1 kj3 t322 t331 true))) else (if (t322.length : Int) = 0 then (if t325 = 17 then (if (t326.length : Int) = 0 then (some (t329 == 17)) else (some false)) else (some false)) else (some false)))) = some r := H
    have A16 := zA1.mk A160
    clear A160
    replace H := Option.bind_eq_some_iff.mp H
    obtain ⟨t330, A170, H⟩ := H
    replace H : (if t330 = true then ((zAo.f kj3 t317 t318 t312).bind fun t331 => (if t325 = 0 then (if t329 = 0 then (if (t322.length : Int) = (t331.length : Int) then ((zAg.f kj3 t317 t318 t312).bind fun t334 => ((zAj.f kj3 t326 t334).bind fun t337 => (zA7.j1 kj3 t322 t331 (!t337)))) else (zA7.j1 kj3 t322 t331 true)) else (zA7.j1 kj3 t322 t331 true)) else (zA7.j1 kj3 t322 t331 true))) else (if (t322.length : Int) = 0 then (if t325 = 17 then (if (t326.length : Int) = 0 then (some (t329 == 17)) else (some false)) else (some false)) else (some false))) = some r := H
    have A17 := zA1.mk A170
    clear A170
    by_cases c18 : t330 = true
    ·subst c18
     have H1 : ((zAo.f kj3 t317 t318 t312).bind fun t331 => (if t325 = 0 then (if t329 = 0 then (if (t322.length : Int) = (t331.length : Int) then ((zAg.f kj3 t317 t318 t312).bind fun t334 => ((zAj.f kj3 t326 t334).bind fun t337 => (zA7.j1 kj3 t322 t331 (!t337)))) else (zA7.j1 kj3 t322 t331 true)) else (zA7.j1 kj3 t322 t331 true)) else (zA7.j1 kj3 t322 t331 true))) = some r := by rw [if_pos rfl] at H; exact H
     clear H
     have H := H1
     clear H1
     replace H := Option.bind_eq_some_iff.mp H
     obtain ⟨t331, A190, H⟩ := H
     replace H : (if t325 = 0 then (if t329 = 0 then (if (t322.length : Int) = (t331.length : Int) then ((zAg.f kj3 t317 t318 t312).bind fun t334 => ((zAj.f kj3 t326 t334).bind fun t337 => (zA7.j1 kj3 t322 t331 (!t337)))) else (zA7.j1 kj3 t322 t331 true)) else (zA7.j1 kj3 t322 t331 true)) else (zA7.j1 kj3 t322 t331 true)) = some r := H
     have A19 := zA1.mk A190
     clear A190
     have HC20 := zA1.mk H
     clear H
     go_upto_region 10 with (first | (go_at_call 9; (with_reducible refine (zAn.calls kj3 a0 t317 t318 _ A14.out).mono ?_); rintro e w21 ⟨v319, rfl, ho0, hb⟩; have n0_ := zA1.mk (Kd.zBi (by (with_reducible repeat (first | apply Kd.zAi | apply Kd.zAh | apply Kd.zAp)); exact HO_5.out) hb); have n1_ := zA1.mk (Kd.zCk ho0 (zAb (by repeat (first | (with_reducible first | exact HB.out | apply zA2 | apply zA0 | apply zA3) | exact HB.out)))); have n2_ := zA1.mk (zAe (by repeat (first | (with_reducible first | exact HB.out | apply zA2 | apply zA0 | apply zA3) | exact HB.out)) hb); clear HO_5; clear HB; have HO_5 := n0_; have HO320 := n1_; have HB := n2_; clear n0_ n1_ n2_; (try clear hb); (try clear hb2); (try clear hk); (try clear hi); (try clear ho0)) | ((with_reducible refine zBk (N := 6) rfl ?_); (try (refine gate_guard (by rfl) ?_; dsimp only)); refine zBj ?hg (N := 6) ?hd (cs := #[.int .i64 0, .slice none 0 0]) (t := 28) ?hr ?_; (case hd => rfl); (case hg => rfl); (case hr => first | (go_simp; done) | (go_simp; rfl)); intro gb321 hg w22 hbox hb; have n0_ := zA1.mk (Kd.zBi (by (with_reducible repeat (first | apply Kd.zAi | apply Kd.zAh | apply Kd.zAp)); exact HO_5.out) hb); have n1_ := zA1.mk (Kd.zBi (by (with_reducible repeat (first | apply Kd.zAi | apply Kd.zAh | apply Kd.zAp)); exact HO320.out) hb); have n2_ := zA1.mk (zAe (by repeat (first | (with_reducible first | exact HB.out | apply zA2 | apply zA0 | apply zA3) | exact HB.out)) hb); have n3_ := zA1.mk (hbox); have n4_ := zA1.mk ((by rw [hg]; exact (zAb (by repeat (first | (with_reducible first | exact HB.out | apply zA2 | apply zA0 | apply zA3) | exact HB.out))) : w.heap.size ≤ gb321)); have n5_ := zA1.mk ((by rw [hg]; exact (zAb (by repeat (first | (with_reducible first | exact HB.out | apply zA2 | apply zA0 | apply zA3) | exact HB.out))) : w.heap.size ≤ gb321)); clear HO_5; clear HO320; clear HB; have HO_5 := n0_; have HO320 := n1_; have HB := n2_; have BK321 := n3_; have GW321 := n4_; have GE321 := n5_; clear n0_ n1_ n2_ n3_ n4_ n5_; clear hb hbox hg; have hcz23_0 : w22.cell? ⟨gb321, 0, none⟩ = some (.int .i64 0) := (zA9 BK321.out 0).trans rfl; have hcz23_1 : w22.cell? ⟨gb321, 1, none⟩ = some (.slice none 0 0) := (zA9 BK321.out 1).trans rfl; have hfz23_0 := zAd BK321.out 0; have hfz23_1 := zAd BK321.out 1; obtain ⟨Ao24, co24, eo24⟩ := Kd.zC5 HO320.out; subst eo24; obtain ⟨Ao25, co25, eo25⟩ := Kd.zC5 HO_5.out; subst eo25) | (go_at_call 10; (with_reducible refine (liaison_Cuts.calls t317 _ _ t318 _ _ t312 t322 t325 _ ?side1 ?side2 ?side3 ?side4 ?side5 A15.out).mono ?_); (case side1 => refine (Kd.zAw (e := 68) (base := w.heap.size) (ok := fun k_ => True) (n := t318.length) (c := co24) ?_).2.2; exact (by (with_reducible repeat (first | apply Kd.zAi | apply Kd.zAh | apply Kd.zAp)); exact (Kd.zC3 (Kd.R_far (p := ⟨gb321, 1, none⟩) (Kd.R_far (p := ⟨gb321, 0, none⟩) (Kd.zCa HO320.out BK321.out (by decide)) (fun _ hk => hk.2) (.int .i64 t317)) (fun _ hk => hk.2) (.slice Ao24 t318.length co24)) (fun _ h_ => h_.1)))); (case side2 => exact (Kd.zAw HO320.out).2.1); (case side3 => refine (Kd.zAw (e := 3) (base := w.heap.size) (ok := fun k_ => True) (n := t312.length) (c := co25) ?_).2.2; exact (by (with_reducible repeat (first | apply Kd.zAi | apply Kd.zAh | apply Kd.zAp)); exact (Kd.zC3 (Kd.R_far (p := ⟨gb321, 1, none⟩) (Kd.R_far (p := ⟨gb321, 0, none⟩) (Kd.zCa HO_5.out BK321.out (by decide)) (fun _ hk => hk.2) (.int .i64 t317)) (fun _ hk => hk.2) (.slice Ao24 t318.length co24)) (fun _ h_ => h_.1)))); (case side4 => exact (Kd.zAw HO_5.out).2.1); (case side5 => exact Kd.zB1 HG.out (by repeat (first | (with_reducible first | exact HB.out | apply zA2 | apply zA0 | apply zA3 | refine zA4 ?_ GE321.out) | exact HB.out))); rintro e w26 ⟨v323, rfl, ho0, hb⟩; have n0_ := zA1.mk (Kd.zBi (by (with_reducible repeat (first | apply Kd.zAi | apply Kd.zAh | apply Kd.zAp)); exact (Kd.zC3 (Kd.R_far (p := ⟨gb321, 1, none⟩) (Kd.R_far (p := ⟨gb321, 0, none⟩) (Kd.zCa HO_5.out BK321.out (by decide)) (fun _ hk => hk.2) (.int .i64 t317)) (fun _ hk => hk.2) (.slice Ao24 t318.length co24)) (fun _ h_ => h_.1))) hb); have n1_ := zA1.mk (Kd.zBi (by (with_reducible repeat (first | apply Kd.zAi | apply Kd.zAh | apply Kd.zAp)); exact (Kd.zC3 (Kd.R_far (p := ⟨gb321, 1, none⟩) (Kd.R_far (p := ⟨gb321, 0, none⟩) (Kd.zCa HO320.out BK321.out (by decide)) (fun _ hk => hk.2) (.int .i64 t317)) (fun _ hk => hk.2) (.slice Ao24 t318.length co24)) (fun _ h_ => h_.1))) hb); have n2_ := zA1.mk (Kd.N_lower (Kd.N_mono (ok' := fun k_ => some k_ ≠ (.slice Ao25 t312.length co25 : Value).ownBlock ∧ some k_ ≠ (.slice Ao24 t318.length co24 : Value).ownBlock ∧ k_ ≠ gb321) (Kd.S_N (Kd.S_bound ho0)) (fun k_ hk_ => ⟨(Kd.fresh' (Kd.R_lt (by (with_reducible repeat (first | apply Kd.zAi | apply Kd.zAh | apply Kd.zAp)); exact (Kd.zC3 (Kd.R_far (p := ⟨gb321, 1, none⟩) (Kd.R_far (p := ⟨gb321, 0, none⟩) (Kd.zCa HO_5.out BK321.out (by decide)) (fun _ hk => hk.2) (.int .i64 t317)) (fun _ hk => hk.2) (.slice Ao24 t318.length co24)) (fun _ h_ => h_.1)))) k_ hk_.2.1), (Kd.fresh' (Kd.R_lt (by (with_reducible repeat (first | apply Kd.zAi | apply Kd.zAh | apply Kd.zAp)); exact (Kd.zC3 (Kd.R_far (p := ⟨gb321, 1, none⟩) (Kd.R_far (p := ⟨gb321, 0, none⟩) (Kd.zCa HO320.out BK321.out (by decide)) (fun _ hk => hk.2) (.int .i64 t317)) (fun _ hk => hk.2) (.slice Ao24 t318.length co24)) (fun _ h_ => h_.1)))) k_ hk_.2.1), (Kd.freshB (g := gb321) (o := .cells #[.int .i64 t317, .slice Ao24 t318.length co24] 28 (0, 0)) (by (with_reducible repeat (first | refine zA6 ?_ _ | refine zA8 ?_ | refine zA5 ?_ _)); refine zCj (cs := #[.int .i64 t317, .slice none 0 0]) ?_ 1 _ rfl; (with_reducible repeat (first | refine zA6 ?_ _ | refine zA8 ?_ | refine zA5 ?_ _)); refine zCj (cs := #[.int .i64 0, .slice none 0 0]) ?_ 0 _ rfl; (with_reducible repeat (first | refine zA6 ?_ _ | refine zA8 ?_ | refine zA5 ?_ _)); exact BK321.out) k_ hk_.2.1)⟩)) (zAb (by repeat (first | (with_reducible first | exact HB.out | apply zA2 | apply zA0 | apply zA3 | refine zA4 ?_ GE321.out) | exact HB.out)))); have n3_ := zA1.mk (zAt (g := gb321) (o := .cells #[.int .i64 t317, .slice Ao24 t318.length co24] 28 (0, 0)) (by (with_reducible repeat (first | refine zA6 ?_ _ | refine zA8 ?_ | refine zA5 ?_ _)); refine zCj (cs := #[.int .i64 t317, .slice none 0 0]) ?_ 1 _ rfl; (with_reducible repeat (first | refine zA6 ?_ _ | refine zA8 ?_ | refine zA5 ?_ _)); refine zCj (cs := #[.int .i64 0, .slice none 0 0]) ?_ 0 _ rfl; (with_reducible repeat (first | refine zA6 ?_ _ | refine zA8 ?_ | refine zA5 ?_ _)); exact BK321.out) hb); have n4_ := zA1.mk (zAe (by repeat (first | (with_reducible first | exact HB.out | apply zA2 | apply zA0 | apply zA3 | refine zA4 ?_ GE321.out) | exact HB.out)) hb); clear HO_5; clear HO320; clear BK321; clear HB; have HO_5 := n0_; have HO320 := n1_; have HO324 := n2_; have BK321 := n3_; have HB := n4_; clear n0_ n1_ n2_ n3_ n4_; (try clear hb); (try clear hb2); (try clear hk); (try clear hi); (try clear ho0); have hcz27_0 : w26.cell? ⟨gb321, 0, none⟩ = some (.int .i64 t317) := (zA9 BK321.out 0).trans rfl; have hcz27_1 : w26.cell? ⟨gb321, 1, none⟩ = some (.slice Ao24 t318.length co24) := (zA9 BK321.out 1).trans rfl; have hfz27_0 := zAd BK321.out 0; have hfz27_1 := zAd BK321.out 1) | (go_at_call 11; (with_reducible refine (zB2.calls kj3 t317 _ _ t318 _ _ t312 t326 t329 _ ?side1 ?side2 ?side3 ?side4 ?side5 A16.out).mono ?_); (case side1 => repeat (first | exact (Kd.zAw HO320.out).2.2 | (with_reducible refine Kd.zAf ?_ _) | (with_reducible refine Kd.zAk ?_ _) | (with_reducible refine Kd.zAv ?_))); (case side2 => exact (Kd.zAw HO320.out).2.1); (case side3 => repeat (first | exact (Kd.zAw HO_5.out).2.2 | (with_reducible refine Kd.zAf ?_ _) | (with_reducible refine Kd.zAk ?_ _) | (with_reducible refine Kd.zAv ?_))); (case side4 => exact (Kd.zAw HO_5.out).2.1); (case side5 => repeat (first | exact (Kd.zB1 HG.out HB.out) | (with_reducible refine Kd.zAf ?_ _) | (with_reducible refine Kd.zAk ?_ _) | (with_reducible refine Kd.zAv ?_))); rintro e w28 ⟨v327, rfl, ho0, hb⟩; have n0_ := zA1.mk (Kd.R_elder' (by (with_reducible repeat (first | apply Kd.zAi | apply Kd.zAh | apply Kd.zAp)); exact HO_5.out) (Kd.R_base ho0) hb); have n1_ := zA1.mk (Kd.zBi (by (with_reducible repeat (first | apply Kd.zAi | apply Kd.zAh | apply Kd.zAp)); exact HO320.out) hb); have n2_ := zA1.mk (Kd.N_elder' (by (with_reducible repeat (first | apply Kd.zBm | apply Kd.zBl | apply Kd.zBv)); exact HO324.out) (Kd.R_base ho0) hb); have n3_ := zA1.mk (Kd.zCk (Kd.R_new' ho0 (Kd.R_lt (by (with_reducible repeat (first | apply Kd.zAi | apply Kd.zAh | apply Kd.zAp)); exact HO_5.out))) (zAb (by repeat (first | (with_reducible first | exact HB.out | apply zA2 | apply zA0 | apply zA3 | refine zA4 ?_ GE321.out) | exact HB.out)))); have n4_ := zA1.mk (zAt (g := gb321) (o := .cells #[.int .i64 t317, .slice Ao24 t318.length co24] 28 (0, 0)) (by (with_reducible repeat (first | refine zA6 ?_ _ | refine zA8 ?_ | refine zA5 ?_ _)); exact BK321.out) hb); have n5_ := zA1.mk (zAe (by repeat (first | (with_reducible first | exact HB.out | apply zA2 | apply zA0 | apply zA3 | refine zA4 ?_ GE321.out) | exact HB.out)) hb); clear HO_5; clear HO320; clear HO324; clear BK321; clear HB; have HO_5 := n0_; have HO320 := n1_; have HO324 := n2_; have HO328 := n3_; have BK321 := n4_; have HB := n5_; clear n0_ n1_ n2_ n3_ n4_ n5_; (try clear hb); (try clear hb2); (try clear hk); (try clear hi); (try clear ho0); have hcz29_0 : w28.cell? ⟨gb321, 0, none⟩ = some (.int .i64 t317) := (zA9 BK321.out 0).trans rfl; have hcz29_1 : w28.cell? ⟨gb321, 1, none⟩ = some (.slice Ao24 t318.length co24) := (zA9 BK321.out 1).trans rfl; have hfz29_0 := zAd BK321.out 0; have hfz29_1 := zAd BK321.out 1) | (go_at_call 12; (with_reducible refine (zAm.calls kj3 t317 _ _ t318 _ _ t312 true _ ?side1 ?side2 ?side3 ?side4 A17.out).mono ?_); (case side1 => repeat (first | exact (Kd.zAw HO320.out).2.2 | (with_reducible refine Kd.zAf ?_ _) | (with_reducible refine Kd.zAk ?_ _) | (with_reducible refine Kd.zAv ?_))); (case side2 => exact (Kd.zAw HO320.out).2.1); (case side3 => repeat (first | exact (Kd.zAw HO_5.out).2.2 | (with_reducible refine Kd.zAf ?_ _) | (with_reducible refine Kd.zAk ?_ _) | (with_reducible refine Kd.zAv ?_))); (case side4 => exact (Kd.zAw HO_5.out).2.1); rintro e w30 ⟨rfl, hb⟩; have n0_ := zA1.mk (Kd.zBi (by (with_reducible repeat (first | apply Kd.zAi | apply Kd.zAh | apply Kd.zAp)); exact HO_5.out) hb); have n1_ := zA1.mk (Kd.zBi (by (with_reducible repeat (first | apply Kd.zAi | apply Kd.zAh | apply Kd.zAp)); exact HO320.out) hb); have n2_ := zA1.mk (Kd.N_below (by (with_reducible repeat (first | apply Kd.zBm | apply Kd.zBl | apply Kd.zBv)); exact HO324.out) hb); have n3_ := zA1.mk (Kd.zBi (by (with_reducible repeat (first | apply Kd.zAi | apply Kd.zAh | apply Kd.zAp)); exact HO328.out) hb); have n4_ := zA1.mk (zAt (g := gb321) (o := .cells #[.int .i64 t317, .slice Ao24 t318.length co24] 28 (0, 0)) (by (with_reducible repeat (first | refine zA6 ?_ _ | refine zA8 ?_ | refine zA5 ?_ _)); exact BK321.out) hb); have n5_ := zA1.mk (zAe (by repeat (first | (with_reducible first | exact HB.out | apply zA2 | apply zA0 | apply zA3 | refine zA4 ?_ GE321.out) | exact HB.out)) hb); clear HO_5; clear HO320; clear HO324; clear HO328; clear BK321; clear HB; have HO_5 := n0_; have HO320 := n1_; have HO324 := n2_; have HO328 := n3_; have BK321 := n4_; have HB := n5_; clear n0_ n1_ n2_ n3_ n4_ n5_; (try clear hb); (try clear hb2); (try clear hk); (try clear hi); have hcz31_0 : w30.cell? ⟨gb321, 0, none⟩ = some (.int .i64 t317) := (zA9 BK321.out 0).trans rfl; have hcz31_1 : w30.cell? ⟨gb321, 1, none⟩ = some (.slice Ao24 t318.length co24) := (zA9 BK321.out 1).trans rfl; have hfz31_0 := zAd BK321.out 0; have hfz31_1 := zAd BK321.out 1) | (go_at_call 13; (with_reducible refine (zAo.calls kj3 t317 _ _ t318 _ _ t312 t331 _ ?side1 ?side2 ?side3 ?side4 A19.out).mono ?_); (case side1 => repeat (first | exact (Kd.zAw HO320.out).2.2 | (with_reducible refine Kd.zAf ?_ _) | (with_reducible refine Kd.zAk ?_ _) | (with_reducible refine Kd.zAv ?_))); (case side2 => exact (Kd.zAw HO320.out).2.1); (case side3 => repeat (first | exact (Kd.zAw HO_5.out).2.2 | (with_reducible refine Kd.zAf ?_ _) | (with_reducible refine Kd.zAk ?_ _) | (with_reducible refine Kd.zAv ?_))); (case side4 => exact (Kd.zAw HO_5.out).2.1); rintro e w32 ⟨v332, rfl, ho0, hb⟩; have n0_ := zA1.mk (Kd.zBi (by (with_reducible repeat (first | apply Kd.zAi | apply Kd.zAh | apply Kd.zAp)); exact HO_5.out) hb); have n1_ := zA1.mk (Kd.zBi (by (with_reducible repeat (first | apply Kd.zAi | apply Kd.zAh | apply Kd.zAp)); exact HO320.out) hb); have n2_ := zA1.mk (Kd.N_elder' (by (with_reducible repeat (first | apply Kd.zBm | apply Kd.zBl | apply Kd.zBv)); exact HO324.out) (Kd.N_base ho0) hb); have n3_ := zA1.mk (Kd.zBi (by (with_reducible repeat (first | apply Kd.zAi | apply Kd.zAh | apply Kd.zAp)); exact HO328.out) hb); have n4_ := zA1.mk (Kd.N_lower (Kd.N_mono (ok' := fun k_ => some k_ ≠ (.slice Ao25 t312.length co25 : Value).ownBlock ∧ some k_ ≠ (.slice Ao24 t318.length co24 : Value).ownBlock ∧ some k_ ≠ (v323 : Value).ownBlock ∧ some k_ ≠ (v327 : Value).ownBlock ∧ k_ ≠ gb321) ho0 (fun k_ hk_ => ⟨(Kd.fresh' (Kd.R_lt (by (with_reducible repeat (first | apply Kd.zAi | apply Kd.zAh | apply Kd.zAp)); exact HO_5.out)) k_ hk_), (Kd.fresh' (Kd.R_lt (by (with_reducible repeat (first | apply Kd.zAi | apply Kd.zAh | apply Kd.zAp)); exact HO320.out)) k_ hk_), (Kd.fresh' (Kd.N_lt (by (with_reducible repeat (first | apply Kd.zBm | apply Kd.zBl | apply Kd.zBv)); exact HO324.out)) k_ hk_), (Kd.fresh' (Kd.R_lt (by (with_reducible repeat (first | apply Kd.zAi | apply Kd.zAh | apply Kd.zAp)); exact HO328.out)) k_ hk_), (Kd.freshB (g := gb321) (o := .cells #[.int .i64 t317, .slice Ao24 t318.length co24] 28 (0, 0)) (by (with_reducible repeat (first | refine zA6 ?_ _ | refine zA8 ?_ | refine zA5 ?_ _)); exact BK321.out) k_ hk_)⟩)) (zAb (by repeat (first | (with_reducible first | exact HB.out | apply zA2 | apply zA0 | apply zA3 | refine zA4 ?_ GE321.out) | exact HB.out)))); have n5_ := zA1.mk (zAt (g := gb321) (o := .cells #[.int .i64 t317, .slice Ao24 t318.length co24] 28 (0, 0)) (by (with_reducible repeat (first | refine zA6 ?_ _ | refine zA8 ?_ | refine zA5 ?_ _)); exact BK321.out) hb); have n6_ := zA1.mk (zAe (by repeat (first | (with_reducible first | exact HB.out | apply zA2 | apply zA0 | apply zA3 | refine zA4 ?_ GE321.out) | exact HB.out)) hb); clear HO_5; clear HO320; clear HO324; clear HO328; clear BK321; clear HB; have HO_5 := n0_; have HO320 := n1_; have HO324 := n2_; have HO328 := n3_; have HO333 := n4_; have BK321 := n5_; have HB := n6_; clear n0_ n1_ n2_ n3_ n4_ n5_ n6_; (try clear hb); (try clear hb2); (try clear hk); (try clear hi); (try clear ho0)))
     (try simp only [Act.put, List.setIfInBounds_toArray, List.set_cons_zero, List.set_cons_succ])
     go_cut [80] (fun v80 wc => ∃ (kq : Nat) (x80_19 : Bool), v80 = .bool x80_19 ∧ zA1 (zA7.j1 kq t322 t331 x80_19 = some r) ∧ zA1 (kq ≤ kj3) ∧ zA1 (Kd.N k41 41 wc w.heap.size (fun k_ => some k_ ≠ (v332 : Value).ownBlock ∧ some k_ ≠ ((.slice Ao24 t318.length co24) : Value).ownBlock ∧ k_ ≠ gb321) v323 t322) ∧ zA1 (Kd.N k41 41 wc w.heap.size (fun k_ => some k_ ≠ (v323 : Value).ownBlock ∧ some k_ ≠ ((.slice Ao24 t318.length co24) : Value).ownBlock ∧ k_ ≠ gb321) v332 t331) ∧ zA1 (Kd.R k68 68 wc w.heap.size (fun _ => True) (.slice Ao24 t318.length co24) t318) ∧ zA1 (wc.heap[gb321]? = some (.cells #[.int .i64 t317, (.slice Ao24 t318.length co24)] 28 (0, 0))) ∧ zA1 (Below w.heap.size w wc))
     case first =>
      have H := HC20.out
      clear HC20
      by_cases c33 : t325 = 0
      ·rw [if_pos c33] at H
       have c33b0 : (t325 == 0) = true := beq_iff_eq.mpr c33
       have c33b1 : (t325 != 0) = false := bne_eq_false_iff_eq.mpr c33
       clear c33
       (first | rw [c33b0] | (simp only [i64_w, i32_w]; rw [c33b0]) | skip)
       by_cases c34 : t329 = 0
       ·rw [if_pos c34] at H
        have c34b0 : (t329 == 0) = true := beq_iff_eq.mpr c34
        have c34b1 : (t329 != 0) = false := bne_eq_false_iff_eq.mpr c34
        clear c34
        by_cases c35 : (t322.length : Int) = (t331.length : Int)
        ·rw [if_pos c35] at H
         have c35b0 : ((t322.length : Int) == (t331.length : Int)) = true := beq_iff_eq.mpr c35
         have c35b1 : ((t322.length : Int) != (t331.length : Int)) = false := bne_eq_false_iff_eq.mpr c35
         have c35b2 : (t322.length == t331.length) = true := by first | simpa using c35 | (simp at c35 ⊢; omega)
         clear c35
         replace H := Option.bind_eq_some_iff.mp H
         obtain ⟨t334, A360, H⟩ := H
         replace H : ((zAj.f kj3 t326 t334).bind fun t337 => (zA7.j1 kj3 t322 t331 (!t337))) = some r := H
         have A36 := zA1.mk A360
         clear A360
         replace H := Option.bind_eq_some_iff.mp H
         obtain ⟨t337, A370, H⟩ := H
         replace H : (zA7.j1 kj3 t322 t331 (!t337)) = some r := H
         have A37 := zA1.mk A370
         clear A370
         have H' := zA1.mk H
         clear H
         obtain ⟨Ao38, co38, eo38⟩ := Kd.N_slice HO324.out
         subst eo38
         obtain ⟨Ao39, co39, eo39⟩ := Kd.N_slice HO333.out
         subst eo39
         have hcz40_0 : w32.cell? ⟨gb321, 0, none⟩ = some (.int .i64 t317) := (zA9 BK321.out 0).trans rfl
         have hcz40_1 : w32.cell? ⟨gb321, 1, none⟩ = some (.slice Ao24 t318.length co24) := (zA9 BK321.out 1).trans rfl
         have hfz40_0 := zAd BK321.out 0
         have hfz40_1 := zAd BK321.out 1
         go_wp2_with (first | (go_at_call 15; (with_reducible refine (zAg.calls kj3 t317 _ _ t318 _ _ t312 t334 _ ?side1 ?side2 ?side3 ?side4 A36.out).mono ?_); (case side1 => repeat (first | exact (Kd.zAw HO320.out).2.2 | (with_reducible refine Kd.zAf ?_ _) | (with_reducible refine Kd.zAk ?_ _) | (with_reducible refine Kd.zAv ?_))); (case side2 => exact (Kd.zAw HO320.out).2.1); (case side3 => repeat (first | exact (Kd.zAw HO_5.out).2.2 | (with_reducible refine Kd.zAf ?_ _) | (with_reducible refine Kd.zAk ?_ _) | (with_reducible refine Kd.zAv ?_))); (case side4 => exact (Kd.zAw HO_5.out).2.1); rintro e w41 ⟨v335, rfl, ho0, hb⟩; have n0_ := zA1.mk (Kd.R_elder' (by (with_reducible repeat (first | apply Kd.zAi | apply Kd.zAh | apply Kd.zAp)); exact HO_5.out) (Kd.R_base ho0) hb); have n1_ := zA1.mk (Kd.zBi (by (with_reducible repeat (first | apply Kd.zAi | apply Kd.zAh | apply Kd.zAp)); exact HO320.out) hb); have n2_ := zA1.mk (Kd.N_elder' (by (with_reducible repeat (first | apply Kd.zBm | apply Kd.zBl | apply Kd.zBv)); exact HO324.out) (Kd.R_base ho0) hb); have n3_ := zA1.mk (Kd.R_elder' (by (with_reducible repeat (first | apply Kd.zAi | apply Kd.zAh | apply Kd.zAp)); exact HO328.out) (Kd.R_base ho0) hb); have n4_ := zA1.mk (Kd.N_elder' (by (with_reducible repeat (first | apply Kd.zBm | apply Kd.zBl | apply Kd.zBv)); exact HO333.out) (Kd.R_base ho0) hb); have n5_ := zA1.mk (Kd.zCk (Kd.R_new' (Kd.R_new' ho0 (Kd.R_lt (by (with_reducible repeat (first | apply Kd.zAi | apply Kd.zAh | apply Kd.zAp)); exact HO_5.out))) (Kd.R_lt (by (with_reducible repeat (first | apply Kd.zAi | apply Kd.zAh | apply Kd.zAp)); exact HO328.out))) (zAb (by repeat (first | (with_reducible first | exact HB.out | apply zA2 | apply zA0 | apply zA3 | refine zA4 ?_ GE321.out) | exact HB.out)))); have n6_ := zA1.mk (zAt (g := gb321) (o := .cells #[.int .i64 t317, .slice Ao24 t318.length co24] 28 (0, 0)) (by (with_reducible repeat (first | refine zA6 ?_ _ | refine zA8 ?_ | refine zA5 ?_ _)); exact BK321.out) hb); have n7_ := zA1.mk (zAe (by repeat (first | (with_reducible first | exact HB.out | apply zA2 | apply zA0 | apply zA3 | refine zA4 ?_ GE321.out) | exact HB.out)) hb); clear HO_5; clear HO320; clear HO324; clear HO328; clear HO333; clear BK321; clear HB; have HO_5 := n0_; have HO320 := n1_; have HO324 := n2_; have HO328 := n3_; have HO333 := n4_; have HO336 := n5_; have BK321 := n6_; have HB := n7_; clear n0_ n1_ n2_ n3_ n4_ n5_ n6_ n7_; (try clear hb); (try clear hb2); (try clear hk); (try clear hi); (try clear ho0); obtain ⟨Ao42, co42, eo42⟩ := Kd.zC5 HO328.out; subst eo42; obtain ⟨Ao43, co43, eo43⟩ := Kd.zC5 HO336.out; subst eo43) | (go_at_call 14; (with_reducible refine (zAj.calls kj3 _ _ t326 _ _ t334 t337 _ ?side1 ?side2 ?side3 ?side4 A37.out).mono ?_); (case side1 => repeat (first | exact (Kd.zAw HO328.out).2.2 | (with_reducible refine Kd.zAf ?_ _) | (with_reducible refine Kd.zAk ?_ _) | (with_reducible refine Kd.zAv ?_))); (case side2 => exact (Kd.zAw HO328.out).2.1); (case side3 => repeat (first | exact (Kd.zAw HO336.out).2.2 | (with_reducible refine Kd.zAf ?_ _) | (with_reducible refine Kd.zAk ?_ _) | (with_reducible refine Kd.zAv ?_))); (case side4 => exact (Kd.zAw HO336.out).2.1); rintro e w' ⟨rfl, ⟨nd, rfl⟩⟩; (try first | exact ⟨rfl, _, World.drewN_drewN _ _ _⟩ | exact ⟨rfl, _, Eq.trans (World.drewN_drewN _ _ _) (congrArg (World.drewN _) (Nat.add_assoc _ _ _))⟩)))
         go_meet
         case rel => exact ⟨_, (!t337), (by first | rfl | (simp; done) | (simp [*]; done)), H', ⟨by have := HJ3.out; first | omega | exact Nat.le_refl _⟩, ⟨by (with_reducible repeat (first | apply Kd.zBm | apply Kd.zBl | apply Kd.zBv)); exact Kd.N_mono HO324.out (fun _ hk => ⟨hk.1.2, ⟨hk.1.1.1.2.1, hk.1.1.1.2.2⟩⟩)⟩, ⟨by (with_reducible repeat (first | apply Kd.zBm | apply Kd.zBl | apply Kd.zBv)); exact Kd.N_mono HO333.out (fun _ hk => ⟨hk.1.2.2.1, ⟨hk.1.2.1, hk.1.2.2.2.2⟩⟩)⟩, ⟨by (with_reducible repeat (first | apply Kd.zAi | apply Kd.zAh | apply Kd.zAp)); exact HO320.out⟩, ⟨by (with_reducible repeat (first | refine zA6 ?_ _ | refine zA8 ?_ | refine zA5 ?_ _)); exact BK321.out⟩, ⟨by repeat (first | (with_reducible first | exact HB.out | apply zA2 | apply zA0 | apply zA3 | refine zA4 ?_ GE321.out) | exact HB.out)⟩⟩
        ·rw [if_neg c35] at H
         have c35b0 : ((t322.length : Int) == (t331.length : Int)) = false := beq_eq_false_iff_ne.mpr c35
         have c35b1 : ((t322.length : Int) != (t331.length : Int)) = true := bne_iff_ne.mpr c35
         have c35b2 : (t322.length == t331.length) = false := by first | simpa using c35 | (simp at c35 ⊢; omega)
         have H' := zA1.mk H
         clear H
         obtain ⟨Ao44, co44, eo44⟩ := Kd.N_slice HO324.out
         subst eo44
         obtain ⟨Ao45, co45, eo45⟩ := Kd.N_slice HO333.out
         subst eo45
         go_wp2
         go_meet
         case rel => exact ⟨_, (true), (by first | rfl | (simp; done) | (simp [*]; done)), H', ⟨by have := HJ3.out; first | omega | exact Nat.le_refl _⟩, ⟨by (with_reducible repeat (first | apply Kd.zBm | apply Kd.zBl | apply Kd.zBv)); exact Kd.N_mono HO324.out (fun _ hk => ⟨hk.2, ⟨hk.1.1.2.1, hk.1.1.2.2⟩⟩)⟩, ⟨by (with_reducible repeat (first | apply Kd.zBm | apply Kd.zBl | apply Kd.zBv)); exact Kd.N_mono HO333.out (fun _ hk => ⟨hk.2.2.1, ⟨hk.2.1, hk.2.2.2.2⟩⟩)⟩, ⟨by (with_reducible repeat (first | apply Kd.zAi | apply Kd.zAh | apply Kd.zAp)); exact HO320.out⟩, ⟨by (with_reducible repeat (first | refine zA6 ?_ _ | refine zA8 ?_ | refine zA5 ?_ _)); exact BK321.out⟩, ⟨by repeat (first | (with_reducible first | exact HB.out | apply zA2 | apply zA0 | apply zA3 | refine zA4 ?_ GE321.out) | exact HB.out)⟩⟩
       ·rw [if_neg c34] at H
        have c34b0 : (t329 == 0) = false := beq_eq_false_iff_ne.mpr c34
        have c34b1 : (t329 != 0) = true := bne_iff_ne.mpr c34
        have H' := zA1.mk H
        clear H
        go_wp2
        go_meet
        case rel => exact ⟨_, (true), (by first | rfl | (simp; done) | (simp [*]; done)), H', ⟨by have := HJ3.out; first | omega | exact Nat.le_refl _⟩, ⟨by (with_reducible repeat (first | apply Kd.zBm | apply Kd.zBl | apply Kd.zBv)); exact Kd.N_mono HO324.out (fun _ hk => ⟨hk.2, ⟨hk.1.1.2.1, hk.1.1.2.2⟩⟩)⟩, ⟨by (with_reducible repeat (first | apply Kd.zBm | apply Kd.zBl | apply Kd.zBv)); exact Kd.N_mono HO333.out (fun _ hk => ⟨hk.2.2.1, ⟨hk.2.1, hk.2.2.2.2⟩⟩)⟩, ⟨by (with_reducible repeat (first | apply Kd.zAi | apply Kd.zAh | apply Kd.zAp)); exact HO320.out⟩, ⟨by (with_reducible repeat (first | refine zA6 ?_ _ | refine zA8 ?_ | refine zA5 ?_ _)); exact BK321.out⟩, ⟨by repeat (first | (with_reducible first | exact HB.out | apply zA2 | apply zA0 | apply zA3 | refine zA4 ?_ GE321.out) | exact HB.out)⟩⟩
      ·rw [if_neg c33] at H
       have c33b0 : (t325 == 0) = false := beq_eq_false_iff_ne.mpr c33
       have c33b1 : (t325 != 0) = true := bne_iff_ne.mpr c33
       (first | rw [c33b0] | (simp only [i64_w, i32_w]; rw [c33b0]) | skip)
       have H' := zA1.mk H
       clear H
       go_wp2
       go_meet
       case rel => exact ⟨_, (true), (by first | rfl | (simp; done) | (simp [*]; done)), H', ⟨by have := HJ3.out; first | omega | exact Nat.le_refl _⟩, ⟨by (with_reducible repeat (first | apply Kd.zBm | apply Kd.zBl | apply Kd.zBv)); exact Kd.N_mono HO324.out (fun _ hk => ⟨hk.2, ⟨hk.1.1.2.1, hk.1.1.2.2⟩⟩)⟩, ⟨by (with_reducible repeat (first | apply Kd.zBm | apply Kd.zBl | apply Kd.zBv)); exact Kd.N_mono HO333.out (fun _ hk => ⟨hk.2.2.1, ⟨hk.2.1, hk.2.2.2.2⟩⟩)⟩, ⟨by (with_reducible repeat (first | apply Kd.zAi | apply Kd.zAh | apply Kd.zAp)); exact HO320.out⟩, ⟨by (with_reducible repeat (first | refine zA6 ?_ _ | refine zA8 ?_ | refine zA5 ?_ _)); exact BK321.out⟩, ⟨by repeat (first | (with_reducible first | exact HB.out | apply zA2 | apply zA0 | apply zA3 | refine zA4 ?_ GE321.out) | exact HB.out)⟩⟩
     case rest =>
      clear HC20
      try clear c1
      try clear p2
      try clear c3
      try clear c7
      try clear c11
      try clear c18
      try clear c33
      try clear c33b0
      try clear c33b1
      try clear c34
      try clear c34b0
      try clear c34b1
      try clear c35
      try clear c35b0
      try clear c35b1
      try clear c35b2
      try clear hcz23_0
      try clear hcz23_1
      try clear hcz27_0
      try clear hcz27_1
      try clear hcz29_0
      try clear hcz29_1
      try clear hcz31_0
      try clear hcz31_1
      try clear hcz40_0
      try clear hcz40_1
      try clear hfz23_0
      try clear hfz23_1
      try clear hfz27_0
      try clear hfz27_1
      try clear hfz29_0
      try clear hfz29_1
      try clear hfz31_0
      try clear hfz31_1
      try clear hfz40_0
      try clear hfz40_1
      try clear p2
      obtain ⟨kq, x80_19, rfl, HA, HJ19, HO_7, HO_11, HO_322001, BK321, HB⟩ := hcut
      cases kq with
      | zero => exact absurd HA.out (by simp [zA7.j1])
      | succ kj19 =>
       have H := HA.out
       clear HA
       simp only [zA7.j1] at H
       by_cases c46 : x80_19 = true
       ·subst c46
        have H1 : (some false) = some r := by rw [if_pos rfl] at H; exact H
        clear H
        have H := H1
        clear H1
        obtain rfl := Option.some.inj H
        go_wp2
        go_ret
        exact ⟨by first | rfl | (simp [zAy, zAx] <;> rfl) | (simp [*, zAy, zAx] <;> rfl), by repeat (first | (with_reducible first | exact HB.out | apply zA2 | apply zA0 | apply zA3 | refine zA4 ?_ GE321.out) | exact HB.out)⟩
       ·replace c46 := Bool.eq_false_iff.mpr c46
        subst c46
        have H1 : (zA7.l0 kj19 t322 t331 0) = some r := by rw [if_neg (show ¬ (false = true) by decide)] at H; exact H
        clear H
        have H := H1
        clear H1
        have H' := zA1.mk H
        clear H
        go_wp2
        go_loopg [12] kj19 (fun kq v12 w' => ∃ (x12_3 : Int), v12 = .int .i64 x12_3 ∧ zA1 (zA7.l0 kq t322 t331 x12_3 = some r) ∧ zA1 (kq ≤ kj19) ∧ zA1 (Kd.N k41 41 w' w.heap.size (fun k_ => some k_ ≠ (v332 : Value).ownBlock ∧ some k_ ≠ ((.slice Ao24 t318.length co24) : Value).ownBlock ∧ k_ ≠ gb321) v323 t322) ∧ zA1 (Kd.N k41 41 w' w.heap.size (fun k_ => some k_ ≠ (v323 : Value).ownBlock ∧ some k_ ≠ ((.slice Ao24 t318.length co24) : Value).ownBlock ∧ k_ ≠ gb321) v332 t331) ∧ zA1 (Kd.R k68 68 w' w.heap.size (fun _ => True) (.slice Ao24 t318.length co24) t318) ∧ zA1 (w'.heap[gb321]? = some (.cells #[.int .i64 t317, (.slice Ao24 t318.length co24)] 28 (0, 0))) ∧ zA1 (Below w.heap.size w w'))
        case atStart => exact ⟨(0), (by first | rfl | (simp; done) | (simp [*]; done)), H', ⟨Nat.le_refl _⟩, ⟨by (with_reducible repeat (first | apply Kd.zBm | apply Kd.zBl | apply Kd.zBv)); exact HO_7.out⟩, ⟨by (with_reducible repeat (first | apply Kd.zBm | apply Kd.zBl | apply Kd.zBv)); exact HO_11.out⟩, ⟨by (with_reducible repeat (first | apply Kd.zAi | apply Kd.zAh | apply Kd.zAp)); exact HO_322001.out⟩, ⟨by (with_reducible repeat (first | refine zA6 ?_ _ | refine zA8 ?_ | refine zA5 ?_ _)); exact BK321.out⟩, ⟨by repeat (first | (with_reducible first | exact HB.out | apply zA2 | apply zA0 | apply zA3 | refine zA4 ?_ GE321.out) | exact HB.out)⟩⟩
        case round =>
         clear H'
         try clear c1
         try clear p2
         try clear c3
         try clear c4
         try clear c7
         try clear c11
         try clear c18
         try clear c33
         try clear c33b0
         try clear c33b1
         try clear c34
         try clear c34b0
         try clear c34b1
         try clear c35
         try clear c35b0
         try clear c35b1
         try clear c35b2
         try clear c46
         try clear hcz23_0
         try clear hcz23_1
         try clear hcz27_0
         try clear hcz27_1
         try clear hcz29_0
         try clear hcz29_1
         try clear hcz31_0
         try clear hcz31_1
         try clear hcz40_0
         try clear hcz40_1
         try clear hfz23_0
         try clear hfz23_1
         try clear hfz27_0
         try clear hfz27_1
         try clear hfz29_0
         try clear hfz29_1
         try clear hfz31_0
         try clear hfz31_1
         try clear hfz40_0
         try clear hfz40_1
         try clear p2
         obtain ⟨x12_3, rfl, HA, HK3, HO_7, HO_11, HO_322001, BK321, HB⟩ := hrel
         cases gk with
         | zero => exact absurd HA.out (by simp [zA7.l0])
         | succ k3 =>
          have H := HA.out
          clear HA
          simp only [zA7.l0] at H
          by_cases c47 : x12_3 < (t322.length : Int)
          ·rw [if_pos c47] at H
           have c47b0 : decide (x12_3 < (t322.length : Int)) = true := decide_eq_true c47
           clear c47
           by_cases c48 : 0 ≤ x12_3
           ·rw [if_pos c48] at H
            have c48b0 : decide (0 ≤ x12_3) = true := decide_eq_true c48
            clear c48
            by_cases c49 : x12_3 < (t331.length : Int)
            ·rw [if_pos c49] at H
             have c49b0 : decide (x12_3 < (t331.length : Int)) = true := decide_eq_true c49
             clear c49
             replace H := Option.bind_eq_some_iff.mp H
             obtain ⟨t340, A500, H⟩ := H
             replace H : (if t340 = true then ((zAj.f k3 ((zBu t322 x12_3).f1) ((zBu t331 x12_3).f1)).bind fun t343 => (if t343 = true then (zA7.l0 k3 t322 t331 (wrap64 (x12_3 + 1))) else (some false))) else (some false)) = some r := H
             have A50 := zA1.mk A500
             clear A500
             by_cases c51 : t340 = true
             ·subst c51
              have H1 : ((zAj.f k3 ((zBu t322 x12_3).f1) ((zBu t331 x12_3).f1)).bind fun t343 => (if t343 = true then (zA7.l0 k3 t322 t331 (wrap64 (x12_3 + 1))) else (some false))) = some r := by rw [if_pos rfl] at H; exact H
              clear H
              have H := H1
              clear H1
              replace H := Option.bind_eq_some_iff.mp H
              obtain ⟨t343, A520, H⟩ := H
              replace H : (if t343 = true then (zA7.l0 k3 t322 t331 (wrap64 (x12_3 + 1))) else (some false)) = some r := H
              have A52 := zA1.mk A520
              clear A520
              by_cases c53 : t343 = true
              ·subst c53
               have H1 : (zA7.l0 k3 t322 t331 (wrap64 (x12_3 + 1))) = some r := by rw [if_pos rfl] at H; exact H
               clear H
               have H := H1
               clear H1
               have H' := zA1.mk H
               clear H
               obtain ⟨Ao54, co54, eo54⟩ := Kd.N_slice HO_7.out
               subst eo54
               have p338 : 0 ≤ (x12_3 : Int) := of_decide_eq_true (by first | (with_reducible assumption) | assumption)
               have q338 : x12_3 < (t322.length : Int) := of_decide_eq_true (by first | (with_reducible assumption) | assumption)
               obtain ⟨ad338, A338_0, c338_0, A338_1, c338_1, e338, hx338_0, hx338_1, hl338_0, hi338_0, hl338_1, hi338_1⟩ := at_T41 (Kd.zBo HO_7.out).2.2 x12_3 p338 q338
               cases e338
               obtain ⟨ce338, hce338, hMe338, hcc338⟩ := Kd.N_get HO_7.out z41 x12_3 p338 (by first | exact q338 | exact of_decide_eq_true (by first | (with_reducible assumption) | assumption) | (have e_ := (Kd.zBo HO_7.out).1; omega))
               obtain ⟨ua338_0, uc338_0, ua338_1, uc338_1, rfl, ul338_0, ge338_0, ul338_1, ge338_1⟩ := k41_openF hMe338
               have hv338_0 := hcc338 0 _ rfl
               rw [Nat.add_zero] at hv338_0
               replace hv338_0 := Option.some.inj (hv338_0.symm.trans hx338_0)
               injection hv338_0 with hva_ hvn_ hvc_
               rw [hva_] at ge338_0
               rw [hvc_] at ul338_0
               have HL338_0 := zA1.mk (show Kd.V (Kd.int .i64) 3 _ w.heap.size _ _ ((zBu t322 x12_3).f0) from Kd.V_mk ul338_0 ge338_0)
               clear hva_ hvn_ hvc_ ge338_0 ul338_0
               have hv338_1 := hcc338 1 _ rfl
               rw [add_field _ _ 1 (by omega)] at hv338_1
               replace hv338_1 := Option.some.inj (hv338_1.symm.trans hx338_1)
               injection hv338_1 with hva_ hvn_ hvc_
               rw [hva_] at ge338_1
               rw [hvc_] at ul338_1
               have HL338_1 := zA1.mk (show Kd.V (Kd.int .i64) 3 _ w.heap.size _ _ ((zBu t322 x12_3).f1) from Kd.V_mk ul338_1 ge338_1)
               clear hva_ hvn_ hvc_ ge338_1 ul338_1
               clear hcc338 hce338
               have HR338_0 := zA1.mk hi338_0
               have HC338_0 := zA1.mk hl338_0
               clear hi338_0 hl338_0
               have HR338_1 := zA1.mk hi338_1
               have HC338_1 := zA1.mk hl338_1
               clear hi338_1 hl338_1
               replace p338 := eq_true p338
               replace q338 := eq_true q338
               obtain ⟨Ao55, co55, eo55⟩ := Kd.N_slice HO_11.out
               subst eo55
               have p339 : 0 ≤ (x12_3 : Int) := of_decide_eq_true (by first | (with_reducible assumption) | assumption)
               have q339 : x12_3 < (t331.length : Int) := of_decide_eq_true (by first | (with_reducible assumption) | assumption)
               obtain ⟨ad339, A339_0, c339_0, A339_1, c339_1, e339, hx339_0, hx339_1, hl339_0, hi339_0, hl339_1, hi339_1⟩ := at_T41 (Kd.zBo HO_11.out).2.2 x12_3 p339 q339
               cases e339
               obtain ⟨ce339, hce339, hMe339, hcc339⟩ := Kd.N_get HO_11.out z41 x12_3 p339 (by first | exact q339 | exact of_decide_eq_true (by first | (with_reducible assumption) | assumption) | (have e_ := (Kd.zBo HO_11.out).1; omega))
               obtain ⟨ua339_0, uc339_0, ua339_1, uc339_1, rfl, ul339_0, ge339_0, ul339_1, ge339_1⟩ := k41_openF hMe339
               have hv339_0 := hcc339 0 _ rfl
               rw [Nat.add_zero] at hv339_0
               replace hv339_0 := Option.some.inj (hv339_0.symm.trans hx339_0)
               injection hv339_0 with hva_ hvn_ hvc_
               rw [hva_] at ge339_0
               rw [hvc_] at ul339_0
               have HL339_0 := zA1.mk (show Kd.V (Kd.int .i64) 3 _ w.heap.size _ _ ((zBu t331 x12_3).f0) from Kd.V_mk ul339_0 ge339_0)
               clear hva_ hvn_ hvc_ ge339_0 ul339_0
               have hv339_1 := hcc339 1 _ rfl
               rw [add_field _ _ 1 (by omega)] at hv339_1
               replace hv339_1 := Option.some.inj (hv339_1.symm.trans hx339_1)
               injection hv339_1 with hva_ hvn_ hvc_
               rw [hva_] at ge339_1
               rw [hvc_] at ul339_1
               have HL339_1 := zA1.mk (show Kd.V (Kd.int .i64) 3 _ w.heap.size _ _ ((zBu t331 x12_3).f1) from Kd.V_mk ul339_1 ge339_1)
               clear hva_ hvn_ hvc_ ge339_1 ul339_1
               clear hcc339 hce339
               have HR339_0 := zA1.mk hi339_0
               have HC339_0 := zA1.mk hl339_0
               clear hi339_0 hl339_0
               have HR339_1 := zA1.mk hi339_1
               have HC339_1 := zA1.mk hl339_1
               clear hi339_1 hl339_1
               replace p339 := eq_true p339
               replace q339 := eq_true q339
               go_wp2_with (first | (go_at_call 14; (with_reducible refine (zAj.calls k3 _ _ ((zBu t322 x12_3).f0) _ _ ((zBu t331 x12_3).f0) true _ ?side1 ?side2 ?side3 ?side4 A50.out).mono ?_); (case side1 => repeat (first | exact (by repeat (first | (with_reducible exact HR338_0.out) | (with_reducible refine Kd.zAf ?_ _) | (with_reducible refine Kd.zAk ?_ _) | (with_reducible refine Kd.zAv ?_) | exact HR338_0.out)) | (with_reducible refine Kd.zAf ?_ _) | (with_reducible refine Kd.zAk ?_ _) | (with_reducible refine Kd.zAv ?_))); (case side2 => exact HC338_0.out); (case side3 => repeat (first | exact (by repeat (first | (with_reducible exact HR339_0.out) | (with_reducible refine Kd.zAf ?_ _) | (with_reducible refine Kd.zAk ?_ _) | (with_reducible refine Kd.zAv ?_) | exact HR339_0.out)) | (with_reducible refine Kd.zAf ?_ _) | (with_reducible refine Kd.zAk ?_ _) | (with_reducible refine Kd.zAv ?_))); (case side4 => exact HC339_0.out); rintro e w' ⟨rfl, ⟨nd, rfl⟩⟩; (try first | exact ⟨rfl, _, World.drewN_drewN _ _ _⟩ | exact ⟨rfl, _, Eq.trans (World.drewN_drewN _ _ _) (congrArg (World.drewN _) (Nat.add_assoc _ _ _))⟩); have p341 : 0 ≤ (x12_3 : Int) := of_decide_eq_true (by first | (with_reducible assumption) | assumption); have q341 : x12_3 < (t322.length : Int) := of_decide_eq_true (by first | (with_reducible assumption) | assumption); obtain ⟨ad341, A341_0, c341_0, A341_1, c341_1, e341, hx341_0, hx341_1, hl341_0, hi341_0, hl341_1, hi341_1⟩ := at_T41 (Kd.zBo HO_7.out).2.2 x12_3 p341 q341; obtain rfl : ad338 = ad341 := (by injection e341); obtain ⟨ce341, hce341, hMe341, hcc341⟩ := Kd.N_get HO_7.out z41 x12_3 p341 (by first | exact q341 | exact of_decide_eq_true (by first | (with_reducible assumption) | assumption) | (have e_ := (Kd.zBo HO_7.out).1; omega)); obtain ⟨ua341_0, uc341_0, ua341_1, uc341_1, rfl, ul341_0, ge341_0, ul341_1, ge341_1⟩ := k41_openF hMe341; have hv341_0 := hcc341 0 _ rfl; rw [Nat.add_zero] at hv341_0; replace hv341_0 := Option.some.inj (hv341_0.symm.trans hx341_0); injection hv341_0 with hva_ hvn_ hvc_; rw [hva_] at ge341_0; rw [hvc_] at ul341_0; have HL341_0 := zA1.mk (show Kd.V (Kd.int .i64) 3 _ w.heap.size _ _ ((zBu t322 x12_3).f0) from Kd.V_mk ul341_0 ge341_0); clear hva_ hvn_ hvc_ ge341_0 ul341_0; have hv341_1 := hcc341 1 _ rfl; rw [add_field _ _ 1 (by omega)] at hv341_1; replace hv341_1 := Option.some.inj (hv341_1.symm.trans hx341_1); injection hv341_1 with hva_ hvn_ hvc_; rw [hva_] at ge341_1; rw [hvc_] at ul341_1; have HL341_1 := zA1.mk (show Kd.V (Kd.int .i64) 3 _ w.heap.size _ _ ((zBu t322 x12_3).f1) from Kd.V_mk ul341_1 ge341_1); clear hva_ hvn_ hvc_ ge341_1 ul341_1; clear hcc341 hce341; have HR341_0 := zA1.mk hi341_0; have HC341_0 := zA1.mk hl341_0; clear hi341_0 hl341_0; have HR341_1 := zA1.mk hi341_1; have HC341_1 := zA1.mk hl341_1; clear hi341_1 hl341_1; replace p341 := eq_true p341; replace q341 := eq_true q341; have ea_ := Option.some.inj (hx338_0.symm.trans hx341_0); injection ea_ with ea_ en_ ec_; subst ea_; subst ec_; clear en_; have ea_ := Option.some.inj (hx338_1.symm.trans hx341_1); injection ea_ with ea_ en_ ec_; subst ea_; subst ec_; clear en_; have p342 : 0 ≤ (x12_3 : Int) := of_decide_eq_true (by first | (with_reducible assumption) | assumption); have q342 : x12_3 < (t331.length : Int) := of_decide_eq_true (by first | (with_reducible assumption) | assumption); obtain ⟨ad342, A342_0, c342_0, A342_1, c342_1, e342, hx342_0, hx342_1, hl342_0, hi342_0, hl342_1, hi342_1⟩ := at_T41 (Kd.zBo HO_11.out).2.2 x12_3 p342 q342; obtain rfl : ad339 = ad342 := (by injection e342); obtain ⟨ce342, hce342, hMe342, hcc342⟩ := Kd.N_get HO_11.out z41 x12_3 p342 (by first | exact q342 | exact of_decide_eq_true (by first | (with_reducible assumption) | assumption) | (have e_ := (Kd.zBo HO_11.out).1; omega)); obtain ⟨ua342_0, uc342_0, ua342_1, uc342_1, rfl, ul342_0, ge342_0, ul342_1, ge342_1⟩ := k41_openF hMe342; have hv342_0 := hcc342 0 _ rfl; rw [Nat.add_zero] at hv342_0; replace hv342_0 := Option.some.inj (hv342_0.symm.trans hx342_0); injection hv342_0 with hva_ hvn_ hvc_; rw [hva_] at ge342_0; rw [hvc_] at ul342_0; have HL342_0 := zA1.mk (show Kd.V (Kd.int .i64) 3 _ w.heap.size _ _ ((zBu t331 x12_3).f0) from Kd.V_mk ul342_0 ge342_0); clear hva_ hvn_ hvc_ ge342_0 ul342_0; have hv342_1 := hcc342 1 _ rfl; rw [add_field _ _ 1 (by omega)] at hv342_1; replace hv342_1 := Option.some.inj (hv342_1.symm.trans hx342_1); injection hv342_1 with hva_ hvn_ hvc_; rw [hva_] at ge342_1; rw [hvc_] at ul342_1; have HL342_1 := zA1.mk (show Kd.V (Kd.int .i64) 3 _ w.heap.size _ _ ((zBu t331 x12_3).f1) from Kd.V_mk ul342_1 ge342_1); clear hva_ hvn_ hvc_ ge342_1 ul342_1; clear hcc342 hce342; have HR342_0 := zA1.mk hi342_0; have HC342_0 := zA1.mk hl342_0; clear hi342_0 hl342_0; have HR342_1 := zA1.mk hi342_1; have HC342_1 := zA1.mk hl342_1; clear hi342_1 hl342_1; replace p342 := eq_true p342; replace q342 := eq_true q342; have ea_ := Option.some.inj (hx339_0.symm.trans hx342_0); injection ea_ with ea_ en_ ec_; subst ea_; subst ec_; clear en_; have ea_ := Option.some.inj (hx339_1.symm.trans hx342_1); injection ea_ with ea_ en_ ec_; subst ea_; subst ec_; clear en_) | (go_at_call 14; (with_reducible refine (zAj.calls k3 _ _ ((zBu t322 x12_3).f1) _ _ ((zBu t331 x12_3).f1) true _ ?side1 ?side2 ?side3 ?side4 A52.out).mono ?_); (case side1 => repeat (first | exact (by repeat (first | (with_reducible exact HR341_1.out) | (with_reducible refine Kd.zAf ?_ _) | (with_reducible refine Kd.zAk ?_ _) | (with_reducible refine Kd.zAv ?_) | exact HR341_1.out)) | (with_reducible refine Kd.zAf ?_ _) | (with_reducible refine Kd.zAk ?_ _) | (with_reducible refine Kd.zAv ?_))); (case side2 => exact HC341_1.out); (case side3 => repeat (first | exact (by repeat (first | (with_reducible exact HR342_1.out) | (with_reducible refine Kd.zAf ?_ _) | (with_reducible refine Kd.zAk ?_ _) | (with_reducible refine Kd.zAv ?_) | exact HR342_1.out)) | (with_reducible refine Kd.zAf ?_ _) | (with_reducible refine Kd.zAk ?_ _) | (with_reducible refine Kd.zAv ?_))); (case side4 => exact HC342_1.out); rintro e w' ⟨rfl, ⟨nd, rfl⟩⟩; (try first | exact ⟨rfl, _, World.drewN_drewN _ _ _⟩ | exact ⟨rfl, _, Eq.trans (World.drewN_drewN _ _ _) (congrArg (World.drewN _) (Nat.add_assoc _ _ _))⟩)))
               repeat (go_quiet (first | (go_at_call 14; (with_reducible refine (zAj.calls k3 _ _ ((zBu t322 x12_3).f0) _ _ ((zBu t331 x12_3).f0) true _ ?side1 ?side2 ?side3 ?side4 A50.out).mono ?_); (case side1 => repeat (first | exact (by repeat (first | (with_reducible exact HR338_0.out) | (with_reducible refine Kd.zAf ?_ _) | (with_reducible refine Kd.zAk ?_ _) | (with_reducible refine Kd.zAv ?_) | exact HR338_0.out)) | (with_reducible refine Kd.zAf ?_ _) | (with_reducible refine Kd.zAk ?_ _) | (with_reducible refine Kd.zAv ?_))); (case side2 => exact HC338_0.out); (case side3 => repeat (first | exact (by repeat (first | (with_reducible exact HR339_0.out) | (with_reducible refine Kd.zAf ?_ _) | (with_reducible refine Kd.zAk ?_ _) | (with_reducible refine Kd.zAv ?_) | exact HR339_0.out)) | (with_reducible refine Kd.zAf ?_ _) | (with_reducible refine Kd.zAk ?_ _) | (with_reducible refine Kd.zAv ?_))); (case side4 => exact HC339_0.out); rintro e w' ⟨rfl, ⟨nd, rfl⟩⟩; (try first | exact ⟨rfl, _, World.drewN_drewN _ _ _⟩ | exact ⟨rfl, _, Eq.trans (World.drewN_drewN _ _ _) (congrArg (World.drewN _) (Nat.add_assoc _ _ _))⟩); have p341 : 0 ≤ (x12_3 : Int) := of_decide_eq_true (by first | (with_reducible assumption) | assumption); have q341 : x12_3 < (t322.length : Int) := of_decide_eq_true (by first | (with_reducible assumption) | assumption); obtain ⟨ad341, A341_0, c341_0, A341_1, c341_1, e341, hx341_0, hx341_1, hl341_0, hi341_0, hl341_1, hi341_1⟩ := at_T41 (Kd.zBo HO_7.out).2.2 x12_3 p341 q341; obtain rfl : ad338 = ad341 := (by injection e341); obtain ⟨ce341, hce341, hMe341, hcc341⟩ := Kd.N_get HO_7.out z41 x12_3 p341 (by first | exact q341 | exact of_decide_eq_true (by first | (with_reducible assumption) | assumption) | (have e_ := (Kd.zBo HO_7.out).1; omega)); obtain ⟨ua341_0, uc341_0, ua341_1, uc341_1, rfl, ul341_0, ge341_0, ul341_1, ge341_1⟩ := k41_openF hMe341; have hv341_0 := hcc341 0 _ rfl; rw [Nat.add_zero] at hv341_0; replace hv341_0 := Option.some.inj (hv341_0.symm.trans hx341_0); injection hv341_0 with hva_ hvn_ hvc_; rw [hva_] at ge341_0; rw [hvc_] at ul341_0; have HL341_0 := zA1.mk (show Kd.V (Kd.int .i64) 3 _ w.heap.size _ _ ((zBu t322 x12_3).f0) from Kd.V_mk ul341_0 ge341_0); clear hva_ hvn_ hvc_ ge341_0 ul341_0; have hv341_1 := hcc341 1 _ rfl; rw [add_field _ _ 1 (by omega)] at hv341_1; replace hv341_1 := Option.some.inj (hv341_1.symm.trans hx341_1); injection hv341_1 with hva_ hvn_ hvc_; rw [hva_] at ge341_1; rw [hvc_] at ul341_1; have HL341_1 := zA1.mk (show Kd.V (Kd.int .i64) 3 _ w.heap.size _ _ ((zBu t322 x12_3).f1) from Kd.V_mk ul341_1 ge341_1); clear hva_ hvn_ hvc_ ge341_1 ul341_1; clear hcc341 hce341; have HR341_0 := zA1.mk hi341_0; have HC341_0 := zA1.mk hl341_0; clear hi341_0 hl341_0; have HR341_1 := zA1.mk hi341_1; have HC341_1 := zA1.mk hl341_1; clear hi341_1 hl341_1; replace p341 := eq_true p341; replace q341 := eq_true q341; have ea_ := Option.some.inj (hx338_0.symm.trans hx341_0); injection ea_ with ea_ en_ ec_; subst ea_; subst ec_; clear en_; have ea_ := Option.some.inj (hx338_1.symm.trans hx341_1); injection ea_ with ea_ en_ ec_; subst ea_; subst ec_; clear en_; have p342 : 0 ≤ (x12_3 : Int) := of_decide_eq_true (by first | (with_reducible assumption) | assumption); have q342 : x12_3 < (t331.length : Int) := of_decide_eq_true (by first | (with_reducible assumption) | assumption); obtain ⟨ad342, A342_0, c342_0, A342_1, c342_1, e342, hx342_0, hx342_1, hl342_0, hi342_0, hl342_1, hi342_1⟩ := at_T41 (Kd.zBo HO_11.out).2.2 x12_3 p342 q342; obtain rfl : ad339 = ad342 := (by injection e342); obtain ⟨ce342, hce342, hMe342, hcc342⟩ := Kd.N_get HO_11.out z41 x12_3 p342 (by first | exact q342 | exact of_decide_eq_true (by first | (with_reducible assumption) | assumption) | (have e_ := (Kd.zBo HO_11.out).1; omega)); obtain ⟨ua342_0, uc342_0, ua342_1, uc342_1, rfl, ul342_0, ge342_0, ul342_1, ge342_1⟩ := k41_openF hMe342; have hv342_0 := hcc342 0 _ rfl; rw [Nat.add_zero] at hv342_0; replace hv342_0 := Option.some.inj (hv342_0.symm.trans hx342_0); injection hv342_0 with hva_ hvn_ hvc_; rw [hva_] at ge342_0; rw [hvc_] at ul342_0; have HL342_0 := zA1.mk (show Kd.V (Kd.int .i64) 3 _ w.heap.size _ _ ((zBu t331 x12_3).f0) from Kd.V_mk ul342_0 ge342_0); clear hva_ hvn_ hvc_ ge342_0 ul342_0; have hv342_1 := hcc342 1 _ rfl; rw [add_field _ _ 1 (by omega)] at hv342_1; replace hv342_1 := Option.some.inj (hv342_1.symm.trans hx342_1); injection hv342_1 with hva_ hvn_ hvc_; rw [hva_] at ge342_1; rw [hvc_] at ul342_1; have HL342_1 := zA1.mk (show Kd.V (Kd.int .i64) 3 _ w.heap.size _ _ ((zBu t331 x12_3).f1) from Kd.V_mk ul342_1 ge342_1); clear hva_ hvn_ hvc_ ge342_1 ul342_1; clear hcc342 hce342; have HR342_0 := zA1.mk hi342_0; have HC342_0 := zA1.mk hl342_0; clear hi342_0 hl342_0; have HR342_1 := zA1.mk hi342_1; have HC342_1 := zA1.mk hl342_1; clear hi342_1 hl342_1; replace p342 := eq_true p342; replace q342 := eq_true q342; have ea_ := Option.some.inj (hx339_0.symm.trans hx342_0); injection ea_ with ea_ en_ ec_; subst ea_; subst ec_; clear en_; have ea_ := Option.some.inj (hx339_1.symm.trans hx342_1); injection ea_ with ea_ en_ ec_; subst ea_; subst ec_; clear en_) | (go_at_call 14; (with_reducible refine (zAj.calls k3 _ _ ((zBu t322 x12_3).f1) _ _ ((zBu t331 x12_3).f1) true _ ?side1 ?side2 ?side3 ?side4 A52.out).mono ?_); (case side1 => repeat (first | exact (by repeat (first | (with_reducible exact HR341_1.out) | (with_reducible refine Kd.zAf ?_ _) | (with_reducible refine Kd.zAk ?_ _) | (with_reducible refine Kd.zAv ?_) | exact HR341_1.out)) | (with_reducible refine Kd.zAf ?_ _) | (with_reducible refine Kd.zAk ?_ _) | (with_reducible refine Kd.zAv ?_))); (case side2 => exact HC341_1.out); (case side3 => repeat (first | exact (by repeat (first | (with_reducible exact HR342_1.out) | (with_reducible refine Kd.zAf ?_ _) | (with_reducible refine Kd.zAk ?_ _) | (with_reducible refine Kd.zAv ?_) | exact HR342_1.out)) | (with_reducible refine Kd.zAf ?_ _) | (with_reducible refine Kd.zAk ?_ _) | (with_reducible refine Kd.zAv ?_))); (case side4 => exact HC342_1.out); rintro e w' ⟨rfl, ⟨nd, rfl⟩⟩; (try first | exact ⟨rfl, _, World.drewN_drewN _ _ _⟩ | exact ⟨rfl, _, Eq.trans (World.drewN_drewN _ _ _) (congrArg (World.drewN _) (Nat.add_assoc _ _ _))⟩))); try go_wp2_with (first | (go_at_call 14; (with_reducible refine (zAj.calls k3 _ _ ((zBu t322 x12_3).f0) _ _ ((zBu t331 x12_3).f0) true _ ?side1 ?side2 ?side3 ?side4 A50.out).mono ?_); (case side1 => repeat (first | exact (by repeat (first | (with_reducible exact HR338_0.out) | (with_reducible refine Kd.zAf ?_ _) | (with_reducible refine Kd.zAk ?_ _) | (with_reducible refine Kd.zAv ?_) | exact HR338_0.out)) | (with_reducible refine Kd.zAf ?_ _) | (with_reducible refine Kd.zAk ?_ _) | (with_reducible refine Kd.zAv ?_))); (case side2 => exact HC338_0.out); (case side3 => repeat (first | exact (by repeat (first | (with_reducible exact HR339_0.out) | (with_reducible refine Kd.zAf ?_ _) | (with_reducible refine Kd.zAk ?_ _) | (with_reducible refine Kd.zAv ?_) | exact HR339_0.out)) | (with_reducible refine Kd.zAf ?_ _) | (with_reducible refine Kd.zAk ?_ _) | (with_reducible refine Kd.zAv ?_))); (case side4 => exact HC339_0.out); rintro e w' ⟨rfl, ⟨nd, rfl⟩⟩; (try first | exact ⟨rfl, _, World.drewN_drewN _ _ _⟩ | exact ⟨rfl, _, Eq.trans (World.drewN_drewN _ _ _) (congrArg (World.drewN _) (Nat.add_assoc _ _ _))⟩); have p341 : 0 ≤ (x12_3 : Int) := of_decide_eq_true (by first | (with_reducible assumption) | assumption); have q341 : x12_3 < (t322.length : Int) := of_decide_eq_true (by first | (with_reducible assumption) | assumption); obtain ⟨ad341, A341_0, c341_0, A341_1, c341_1, e341, hx341_0, hx341_1, hl341_0, hi341_0, hl341_1, hi341_1⟩ := at_T41 (Kd.zBo HO_7.out).2.2 x12_3 p341 q341; obtain rfl : ad338 = ad341 := (by injection e341); obtain ⟨ce341, hce341, hMe341, hcc341⟩ := Kd.N_get HO_7.out z41 x12_3 p341 (by first | exact q341 | exact of_decide_eq_true (by first | (with_reducible assumption) | assumption) | (have e_ := (Kd.zBo HO_7.out).1; omega)); obtain ⟨ua341_0, uc341_0, ua341_1, uc341_1, rfl, ul341_0, ge341_0, ul341_1, ge341_1⟩ := k41_openF hMe341; have hv341_0 := hcc341 0 _ rfl; rw [Nat.add_zero] at hv341_0; replace hv341_0 := Option.some.inj (hv341_0.symm.trans hx341_0); injection hv341_0 with hva_ hvn_ hvc_; rw [hva_] at ge341_0; rw [hvc_] at ul341_0; have HL341_0 := zA1.mk (show Kd.V (Kd.int .i64) 3 _ w.heap.size _ _ ((zBu t322 x12_3).f0) from Kd.V_mk ul341_0 ge341_0); clear hva_ hvn_ hvc_ ge341_0 ul341_0; have hv341_1 := hcc341 1 _ rfl; rw [add_field _ _ 1 (by omega)] at hv341_1; replace hv341_1 := Option.some.inj (hv341_1.symm.trans hx341_1); injection hv341_1 with hva_ hvn_ hvc_; rw [hva_] at ge341_1; rw [hvc_] at ul341_1; have HL341_1 := zA1.mk (show Kd.V (Kd.int .i64) 3 _ w.heap.size _ _ ((zBu t322 x12_3).f1) from Kd.V_mk ul341_1 ge341_1); clear hva_ hvn_ hvc_ ge341_1 ul341_1; clear hcc341 hce341; have HR341_0 := zA1.mk hi341_0; have HC341_0 := zA1.mk hl341_0; clear hi341_0 hl341_0; have HR341_1 := zA1.mk hi341_1; have HC341_1 := zA1.mk hl341_1; clear hi341_1 hl341_1; replace p341 := eq_true p341; replace q341 := eq_true q341; have ea_ := Option.some.inj (hx338_0.symm.trans hx341_0); injection ea_ with ea_ en_ ec_; subst ea_; subst ec_; clear en_; have ea_ := Option.some.inj (hx338_1.symm.trans hx341_1); injection ea_ with ea_ en_ ec_; subst ea_; subst ec_; clear en_; have p342 : 0 ≤ (x12_3 : Int) := of_decide_eq_true (by first | (with_reducible assumption) | assumption); have q342 : x12_3 < (t331.length : Int) := of_decide_eq_true (by first | (with_reducible assumption) | assumption); obtain ⟨ad342, A342_0, c342_0, A342_1, c342_1, e342, hx342_0, hx342_1, hl342_0, hi342_0, hl342_1, hi342_1⟩ := at_T41 (Kd.zBo HO_11.out).2.2 x12_3 p342 q342; obtain rfl : ad339 = ad342 := (by injection e342); obtain ⟨ce342, hce342, hMe342, hcc342⟩ := Kd.N_get HO_11.out z41 x12_3 p342 (by first | exact q342 | exact of_decide_eq_true (by first | (with_reducible assumption) | assumption) | (have e_ := (Kd.zBo HO_11.out).1; omega)); obtain ⟨ua342_0, uc342_0, ua342_1, uc342_1, rfl, ul342_0, ge342_0, ul342_1, ge342_1⟩ := k41_openF hMe342; have hv342_0 := hcc342 0 _ rfl; rw [Nat.add_zero] at hv342_0; replace hv342_0 := Option.some.inj (hv342_0.symm.trans hx342_0); injection hv342_0 with hva_ hvn_ hvc_; rw [hva_] at ge342_0; rw [hvc_] at ul342_0; have HL342_0 := zA1.mk (show Kd.V (Kd.int .i64) 3 _ w.heap.size _ _ ((zBu t331 x12_3).f0) from Kd.V_mk ul342_0 ge342_0); clear hva_ hvn_ hvc_ ge342_0 ul342_0; have hv342_1 := hcc342 1 _ rfl; rw [add_field _ _ 1 (by omega)] at hv342_1; replace hv342_1 := Option.some.inj (hv342_1.symm.trans hx342_1); injection hv342_1 with hva_ hvn_ hvc_; rw [hva_] at ge342_1; rw [hvc_] at ul342_1; have HL342_1 := zA1.mk (show Kd.V (Kd.int .i64) 3 _ w.heap.size _ _ ((zBu t331 x12_3).f1) from Kd.V_mk ul342_1 ge342_1); clear hva_ hvn_ hvc_ ge342_1 ul342_1; clear hcc342 hce342; have HR342_0 := zA1.mk hi342_0; have HC342_0 := zA1.mk hl342_0; clear hi342_0 hl342_0; have HR342_1 := zA1.mk hi342_1; have HC342_1 := zA1.mk hl342_1; clear hi342_1 hl342_1; replace p342 := eq_true p342; replace q342 := eq_true q342; have ea_ := Option.some.inj (hx339_0.symm.trans hx342_0); injection ea_ with ea_ en_ ec_; subst ea_; subst ec_; clear en_; have ea_ := Option.some.inj (hx339_1.symm.trans hx342_1); injection ea_ with ea_ en_ ec_; subst ea_; subst ec_; clear en_) | (go_at_call 14; (with_reducible refine (zAj.calls k3 _ _ ((zBu t322 x12_3).f1) _ _ ((zBu t331 x12_3).f1) true _ ?side1 ?side2 ?side3 ?side4 A52.out).mono ?_); (case side1 => repeat (first | exact (by repeat (first | (with_reducible exact HR341_1.out) | (with_reducible refine Kd.zAf ?_ _) | (with_reducible refine Kd.zAk ?_ _) | (with_reducible refine Kd.zAv ?_) | exact HR341_1.out)) | (with_reducible refine Kd.zAf ?_ _) | (with_reducible refine Kd.zAk ?_ _) | (with_reducible refine Kd.zAv ?_))); (case side2 => exact HC341_1.out); (case side3 => repeat (first | exact (by repeat (first | (with_reducible exact HR342_1.out) | (with_reducible refine Kd.zAf ?_ _) | (with_reducible refine Kd.zAk ?_ _) | (with_reducible refine Kd.zAv ?_) | exact HR342_1.out)) | (with_reducible refine Kd.zAf ?_ _) | (with_reducible refine Kd.zAk ?_ _) | (with_reducible refine Kd.zAv ?_))); (case side4 => exact HC342_1.out); rintro e w' ⟨rfl, ⟨nd, rfl⟩⟩; (try first | exact ⟨rfl, _, World.drewN_drewN _ _ _⟩ | exact ⟨rfl, _, Eq.trans (World.drewN_drewN _ _ _) (congrArg (World.drewN _) (Nat.add_assoc _ _ _))⟩))))
               go_roundg k3
               case measure => have := HJ3.out; have := HJ19.out; have := HK3.out; omega
               case rel => exact ⟨(wrap64 (x12_3 + 1)), (by first | rfl | (simp; done) | (simp [*]; done)), H', ⟨by have := HJ3.out; have := HJ19.out; have := HK3.out; omega⟩, ⟨by (with_reducible repeat (first | apply Kd.zBm | apply Kd.zBl | apply Kd.zBv)); exact HO_7.out⟩, ⟨by (with_reducible repeat (first | apply Kd.zBm | apply Kd.zBl | apply Kd.zBv)); exact HO_11.out⟩, ⟨by (with_reducible repeat (first | apply Kd.zAi | apply Kd.zAh | apply Kd.zAp)); exact HO_322001.out⟩, ⟨by (with_reducible repeat (first | refine zA6 ?_ _ | refine zA8 ?_ | refine zA5 ?_ _)); exact BK321.out⟩, ⟨by repeat (first | (with_reducible first | exact HB.out | apply zA2 | apply zA0 | apply zA3 | refine zA4 ?_ GE321.out) | exact HB.out)⟩⟩
              ·replace c53 := Bool.eq_false_iff.mpr c53
               subst c53
               have H1 : (some false) = some r := by rw [if_neg (show ¬ (false = true) by decide)] at H; exact H
               clear H
               have H := H1
               clear H1
               obtain rfl := Option.some.inj H
               obtain ⟨Ao56, co56, eo56⟩ := Kd.N_slice HO_7.out
               subst eo56
               have p338 : 0 ≤ (x12_3 : Int) := of_decide_eq_true (by first | (with_reducible assumption) | assumption)
               have q338 : x12_3 < (t322.length : Int) := of_decide_eq_true (by first | (with_reducible assumption) | assumption)
               obtain ⟨ad338, A338_0, c338_0, A338_1, c338_1, e338, hx338_0, hx338_1, hl338_0, hi338_0, hl338_1, hi338_1⟩ := at_T41 (Kd.zBo HO_7.out).2.2 x12_3 p338 q338
               cases e338
               obtain ⟨ce338, hce338, hMe338, hcc338⟩ := Kd.N_get HO_7.out z41 x12_3 p338 (by first | exact q338 | exact of_decide_eq_true (by first | (with_reducible assumption) | assumption) | (have e_ := (Kd.zBo HO_7.out).1; omega))
               obtain ⟨ua338_0, uc338_0, ua338_1, uc338_1, rfl, ul338_0, ge338_0, ul338_1, ge338_1⟩ := k41_openF hMe338
               have hv338_0 := hcc338 0 _ rfl
               rw [Nat.add_zero] at hv338_0
               replace hv338_0 := Option.some.inj (hv338_0.symm.trans hx338_0)
               injection hv338_0 with hva_ hvn_ hvc_
               rw [hva_] at ge338_0
               rw [hvc_] at ul338_0
               have HL338_0 := zA1.mk (show Kd.V (Kd.int .i64) 3 _ w.heap.size _ _ ((zBu t322 x12_3).f0) from Kd.V_mk ul338_0 ge338_0)
               clear hva_ hvn_ hvc_ ge338_0 ul338_0
               have hv338_1 := hcc338 1 _ rfl
               rw [add_field _ _ 1 (by omega)] at hv338_1
               replace hv338_1 := Option.some.inj (hv338_1.symm.trans hx338_1)
               injection hv338_1 with hva_ hvn_ hvc_
               rw [hva_] at ge338_1
               rw [hvc_] at ul338_1
               have HL338_1 := zA1.mk (show Kd.V (Kd.int .i64) 3 _ w.heap.size _ _ ((zBu t322 x12_3).f1) from Kd.V_mk ul338_1 ge338_1)
               clear hva_ hvn_ hvc_ ge338_1 ul338_1
               clear hcc338 hce338
               have HR338_0 := zA1.mk hi338_0
               have HC338_0 := zA1.mk hl338_0
               clear hi338_0 hl338_0
               have HR338_1 := zA1.mk hi338_1
               have HC338_1 := zA1.mk hl338_1
               clear hi338_1 hl338_1
               replace p338 := eq_true p338
               replace q338 := eq_true q338
               obtain ⟨Ao57, co57, eo57⟩ := Kd.N_slice HO_11.out
               subst eo57
               have p339 : 0 ≤ (x12_3 : Int) := of_decide_eq_true (by first | (with_reducible assumption) | assumption)
               have q339 : x12_3 < (t331.length : Int) := of_decide_eq_true (by first | (with_reducible assumption) | assumption)
               obtain ⟨ad339, A339_0, c339_0, A339_1, c339_1, e339, hx339_0, hx339_1, hl339_0, hi339_0, hl339_1, hi339_1⟩ := at_T41 (Kd.zBo HO_11.out).2.2 x12_3 p339 q339
               cases e339
               obtain ⟨ce339, hce339, hMe339, hcc339⟩ := Kd.N_get HO_11.out z41 x12_3 p339 (by first | exact q339 | exact of_decide_eq_true (by first | (with_reducible assumption) | assumption) | (have e_ := (Kd.zBo HO_11.out).1; omega))
               obtain ⟨ua339_0, uc339_0, ua339_1, uc339_1, rfl, ul339_0, ge339_0, ul339_1, ge339_1⟩ := k41_openF hMe339
               have hv339_0 := hcc339 0 _ rfl
               rw [Nat.add_zero] at hv339_0
               replace hv339_0 := Option.some.inj (hv339_0.symm.trans hx339_0)
               injection hv339_0 with hva_ hvn_ hvc_
               rw [hva_] at ge339_0
               rw [hvc_] at ul339_0
               have HL339_0 := zA1.mk (show Kd.V (Kd.int .i64) 3 _ w.heap.size _ _ ((zBu t331 x12_3).f0) from Kd.V_mk ul339_0 ge339_0)
               clear hva_ hvn_ hvc_ ge339_0 ul339_0
               have hv339_1 := hcc339 1 _ rfl
               rw [add_field _ _ 1 (by omega)] at hv339_1
               replace hv339_1 := Option.some.inj (hv339_1.symm.trans hx339_1)
               injection hv339_1 with hva_ hvn_ hvc_
               rw [hva_] at ge339_1
               rw [hvc_] at ul339_1
               have HL339_1 := zA1.mk (show Kd.V (Kd.int .i64) 3 _ w.heap.size _ _ ((zBu t331 x12_3).f1) from Kd.V_mk ul339_1 ge339_1)
               clear hva_ hvn_ hvc_ ge339_1 ul339_1
               clear hcc339 hce339
               have HR339_0 := zA1.mk hi339_0
               have HC339_0 := zA1.mk hl339_0
               clear hi339_0 hl339_0
               have HR339_1 := zA1.mk hi339_1
               have HC339_1 := zA1.mk hl339_1
               clear hi339_1 hl339_1
               replace p339 := eq_true p339
               replace q339 := eq_true q339
               go_wp2_with (first | (go_at_call 14; (with_reducible refine (zAj.calls k3 _ _ ((zBu t322 x12_3).f0) _ _ ((zBu t331 x12_3).f0) true _ ?side1 ?side2 ?side3 ?side4 A50.out).mono ?_); (case side1 => repeat (first | exact (by repeat (first | (with_reducible exact HR338_0.out) | (with_reducible refine Kd.zAf ?_ _) | (with_reducible refine Kd.zAk ?_ _) | (with_reducible refine Kd.zAv ?_) | exact HR338_0.out)) | (with_reducible refine Kd.zAf ?_ _) | (with_reducible refine Kd.zAk ?_ _) | (with_reducible refine Kd.zAv ?_))); (case side2 => exact HC338_0.out); (case side3 => repeat (first | exact (by repeat (first | (with_reducible exact HR339_0.out) | (with_reducible refine Kd.zAf ?_ _) | (with_reducible refine Kd.zAk ?_ _) | (with_reducible refine Kd.zAv ?_) | exact HR339_0.out)) | (with_reducible refine Kd.zAf ?_ _) | (with_reducible refine Kd.zAk ?_ _) | (with_reducible refine Kd.zAv ?_))); (case side4 => exact HC339_0.out); rintro e w' ⟨rfl, ⟨nd, rfl⟩⟩; (try first | exact ⟨rfl, _, World.drewN_drewN _ _ _⟩ | exact ⟨rfl, _, Eq.trans (World.drewN_drewN _ _ _) (congrArg (World.drewN _) (Nat.add_assoc _ _ _))⟩); have p341 : 0 ≤ (x12_3 : Int) := of_decide_eq_true (by first | (with_reducible assumption) | assumption); have q341 : x12_3 < (t322.length : Int) := of_decide_eq_true (by first | (with_reducible assumption) | assumption); obtain ⟨ad341, A341_0, c341_0, A341_1, c341_1, e341, hx341_0, hx341_1, hl341_0, hi341_0, hl341_1, hi341_1⟩ := at_T41 (Kd.zBo HO_7.out).2.2 x12_3 p341 q341; obtain rfl : ad338 = ad341 := (by injection e341); obtain ⟨ce341, hce341, hMe341, hcc341⟩ := Kd.N_get HO_7.out z41 x12_3 p341 (by first | exact q341 | exact of_decide_eq_true (by first | (with_reducible assumption) | assumption) | (have e_ := (Kd.zBo HO_7.out).1; omega)); obtain ⟨ua341_0, uc341_0, ua341_1, uc341_1, rfl, ul341_0, ge341_0, ul341_1, ge341_1⟩ := k41_openF hMe341; have hv341_0 := hcc341 0 _ rfl; rw [Nat.add_zero] at hv341_0; replace hv341_0 := Option.some.inj (hv341_0.symm.trans hx341_0); injection hv341_0 with hva_ hvn_ hvc_; rw [hva_] at ge341_0; rw [hvc_] at ul341_0; have HL341_0 := zA1.mk (show Kd.V (Kd.int .i64) 3 _ w.heap.size _ _ ((zBu t322 x12_3).f0) from Kd.V_mk ul341_0 ge341_0); clear hva_ hvn_ hvc_ ge341_0 ul341_0; have hv341_1 := hcc341 1 _ rfl; rw [add_field _ _ 1 (by omega)] at hv341_1; replace hv341_1 := Option.some.inj (hv341_1.symm.trans hx341_1); injection hv341_1 with hva_ hvn_ hvc_; rw [hva_] at ge341_1; rw [hvc_] at ul341_1; have HL341_1 := zA1.mk (show Kd.V (Kd.int .i64) 3 _ w.heap.size _ _ ((zBu t322 x12_3).f1) from Kd.V_mk ul341_1 ge341_1); clear hva_ hvn_ hvc_ ge341_1 ul341_1; clear hcc341 hce341; have HR341_0 := zA1.mk hi341_0; have HC341_0 := zA1.mk hl341_0; clear hi341_0 hl341_0; have HR341_1 := zA1.mk hi341_1; have HC341_1 := zA1.mk hl341_1; clear hi341_1 hl341_1; replace p341 := eq_true p341; replace q341 := eq_true q341; have ea_ := Option.some.inj (hx338_0.symm.trans hx341_0); injection ea_ with ea_ en_ ec_; subst ea_; subst ec_; clear en_; have ea_ := Option.some.inj (hx338_1.symm.trans hx341_1); injection ea_ with ea_ en_ ec_; subst ea_; subst ec_; clear en_; have p342 : 0 ≤ (x12_3 : Int) := of_decide_eq_true (by first | (with_reducible assumption) | assumption); have q342 : x12_3 < (t331.length : Int) := of_decide_eq_true (by first | (with_reducible assumption) | assumption); obtain ⟨ad342, A342_0, c342_0, A342_1, c342_1, e342, hx342_0, hx342_1, hl342_0, hi342_0, hl342_1, hi342_1⟩ := at_T41 (Kd.zBo HO_11.out).2.2 x12_3 p342 q342; obtain rfl : ad339 = ad342 := (by injection e342); obtain ⟨ce342, hce342, hMe342, hcc342⟩ := Kd.N_get HO_11.out z41 x12_3 p342 (by first | exact q342 | exact of_decide_eq_true (by first | (with_reducible assumption) | assumption) | (have e_ := (Kd.zBo HO_11.out).1; omega)); obtain ⟨ua342_0, uc342_0, ua342_1, uc342_1, rfl, ul342_0, ge342_0, ul342_1, ge342_1⟩ := k41_openF hMe342; have hv342_0 := hcc342 0 _ rfl; rw [Nat.add_zero] at hv342_0; replace hv342_0 := Option.some.inj (hv342_0.symm.trans hx342_0); injection hv342_0 with hva_ hvn_ hvc_; rw [hva_] at ge342_0; rw [hvc_] at ul342_0; have HL342_0 := zA1.mk (show Kd.V (Kd.int .i64) 3 _ w.heap.size _ _ ((zBu t331 x12_3).f0) from Kd.V_mk ul342_0 ge342_0); clear hva_ hvn_ hvc_ ge342_0 ul342_0; have hv342_1 := hcc342 1 _ rfl; rw [add_field _ _ 1 (by omega)] at hv342_1; replace hv342_1 := Option.some.inj (hv342_1.symm.trans hx342_1); injection hv342_1 with hva_ hvn_ hvc_; rw [hva_] at ge342_1; rw [hvc_] at ul342_1; have HL342_1 := zA1.mk (show Kd.V (Kd.int .i64) 3 _ w.heap.size _ _ ((zBu t331 x12_3).f1) from Kd.V_mk ul342_1 ge342_1); clear hva_ hvn_ hvc_ ge342_1 ul342_1; clear hcc342 hce342; have HR342_0 := zA1.mk hi342_0; have HC342_0 := zA1.mk hl342_0; clear hi342_0 hl342_0; have HR342_1 := zA1.mk hi342_1; have HC342_1 := zA1.mk hl342_1; clear hi342_1 hl342_1; replace p342 := eq_true p342; replace q342 := eq_true q342; have ea_ := Option.some.inj (hx339_0.symm.trans hx342_0); injection ea_ with ea_ en_ ec_; subst ea_; subst ec_; clear en_; have ea_ := Option.some.inj (hx339_1.symm.trans hx342_1); injection ea_ with ea_ en_ ec_; subst ea_; subst ec_; clear en_) | (go_at_call 14; (with_reducible refine (zAj.calls k3 _ _ ((zBu t322 x12_3).f1) _ _ ((zBu t331 x12_3).f1) false _ ?side1 ?side2 ?side3 ?side4 A52.out).mono ?_); (case side1 => repeat (first | exact (by repeat (first | (with_reducible exact HR341_1.out) | (with_reducible refine Kd.zAf ?_ _) | (with_reducible refine Kd.zAk ?_ _) | (with_reducible refine Kd.zAv ?_) | exact HR341_1.out)) | (with_reducible refine Kd.zAf ?_ _) | (with_reducible refine Kd.zAk ?_ _) | (with_reducible refine Kd.zAv ?_))); (case side2 => exact HC341_1.out); (case side3 => repeat (first | exact (by repeat (first | (with_reducible exact HR342_1.out) | (with_reducible refine Kd.zAf ?_ _) | (with_reducible refine Kd.zAk ?_ _) | (with_reducible refine Kd.zAv ?_) | exact HR342_1.out)) | (with_reducible refine Kd.zAf ?_ _) | (with_reducible refine Kd.zAk ?_ _) | (with_reducible refine Kd.zAv ?_))); (case side4 => exact HC342_1.out); rintro e w' ⟨rfl, ⟨nd, rfl⟩⟩; (try first | exact ⟨rfl, _, World.drewN_drewN _ _ _⟩ | exact ⟨rfl, _, Eq.trans (World.drewN_drewN _ _ _) (congrArg (World.drewN _) (Nat.add_assoc _ _ _))⟩)))
               repeat (go_quiet (first | (go_at_call 14; (with_reducible refine (zAj.calls k3 _ _ ((zBu t322 x12_3).f0) _ _ ((zBu t331 x12_3).f0) true _ ?side1 ?side2 ?side3 ?side4 A50.out).mono ?_); (case side1 => repeat (first | exact (by repeat (first | (with_reducible exact HR338_0.out) | (with_reducible refine Kd.zAf ?_ _) | (with_reducible refine Kd.zAk ?_ _) | (with_reducible refine Kd.zAv ?_) | exact HR338_0.out)) | (with_reducible refine Kd.zAf ?_ _) | (with_reducible refine Kd.zAk ?_ _) | (with_reducible refine Kd.zAv ?_))); (case side2 => exact HC338_0.out); (case side3 => repeat (first | exact (by repeat (first | (with_reducible exact HR339_0.out) | (with_reducible refine Kd.zAf ?_ _) | (with_reducible refine Kd.zAk ?_ _) | (with_reducible refine Kd.zAv ?_) | exact HR339_0.out)) | (with_reducible refine Kd.zAf ?_ _) | (with_reducible refine Kd.zAk ?_ _) | (with_reducible refine Kd.zAv ?_))); (case side4 => exact HC339_0.out); rintro e w' ⟨rfl, ⟨nd, rfl⟩⟩; (try first | exact ⟨rfl, _, World.drewN_drewN _ _ _⟩ | exact ⟨rfl, _, Eq.trans (World.drewN_drewN _ _ _) (congrArg (World.drewN _) (Nat.add_assoc _ _ _))⟩); have p341 : 0 ≤ (x12_3 : Int) := of_decide_eq_true (by first | (with_reducible assumption) | assumption); have q341 : x12_3 < (t322.length : Int) := of_decide_eq_true (by first | (with_reducible assumption) | assumption); obtain ⟨ad341, A341_0, c341_0, A341_1, c341_1, e341, hx341_0, hx341_1, hl341_0, hi341_0, hl341_1, hi341_1⟩ := at_T41 (Kd.zBo HO_7.out).2.2 x12_3 p341 q341; obtain rfl : ad338 = ad341 := (by injection e341); obtain ⟨ce341, hce341, hMe341, hcc341⟩ := Kd.N_get HO_7.out z41 x12_3 p341 (by first | exact q341 | exact of_decide_eq_true (by first | (with_reducible assumption) | assumption) | (have e_ := (Kd.zBo HO_7.out).1; omega)); obtain ⟨ua341_0, uc341_0, ua341_1, uc341_1, rfl, ul341_0, ge341_0, ul341_1, ge341_1⟩ := k41_openF hMe341; have hv341_0 := hcc341 0 _ rfl; rw [Nat.add_zero] at hv341_0; replace hv341_0 := Option.some.inj (hv341_0.symm.trans hx341_0); injection hv341_0 with hva_ hvn_ hvc_; rw [hva_] at ge341_0; rw [hvc_] at ul341_0; have HL341_0 := zA1.mk (show Kd.V (Kd.int .i64) 3 _ w.heap.size _ _ ((zBu t322 x12_3).f0) from Kd.V_mk ul341_0 ge341_0); clear hva_ hvn_ hvc_ ge341_0 ul341_0; have hv341_1 := hcc341 1 _ rfl; rw [add_field _ _ 1 (by omega)] at hv341_1; replace hv341_1 := Option.some.inj (hv341_1.symm.trans hx341_1); injection hv341_1 with hva_ hvn_ hvc_; rw [hva_] at ge341_1; rw [hvc_] at ul341_1; have HL341_1 := zA1.mk (show Kd.V (Kd.int .i64) 3 _ w.heap.size _ _ ((zBu t322 x12_3).f1) from Kd.V_mk ul341_1 ge341_1); clear hva_ hvn_ hvc_ ge341_1 ul341_1; clear hcc341 hce341; have HR341_0 := zA1.mk hi341_0; have HC341_0 := zA1.mk hl341_0; clear hi341_0 hl341_0; have HR341_1 := zA1.mk hi341_1; have HC341_1 := zA1.mk hl341_1; clear hi341_1 hl341_1; replace p341 := eq_true p341; replace q341 := eq_true q341; have ea_ := Option.some.inj (hx338_0.symm.trans hx341_0); injection ea_ with ea_ en_ ec_; subst ea_; subst ec_; clear en_; have ea_ := Option.some.inj (hx338_1.symm.trans hx341_1); injection ea_ with ea_ en_ ec_; subst ea_; subst ec_; clear en_; have p342 : 0 ≤ (x12_3 : Int) := of_decide_eq_true (by first | (with_reducible assumption) | assumption); have q342 : x12_3 < (t331.length : Int) := of_decide_eq_true (by first | (with_reducible assumption) | assumption); obtain ⟨ad342, A342_0, c342_0, A342_1, c342_1, e342, hx342_0, hx342_1, hl342_0, hi342_0, hl342_1, hi342_1⟩ := at_T41 (Kd.zBo HO_11.out).2.2 x12_3 p342 q342; obtain rfl : ad339 = ad342 := (by injection e342); obtain ⟨ce342, hce342, hMe342, hcc342⟩ := Kd.N_get HO_11.out z41 x12_3 p342 (by first | exact q342 | exact of_decide_eq_true (by first | (with_reducible assumption) | assumption) | (have e_ := (Kd.zBo HO_11.out).1; omega)); obtain ⟨ua342_0, uc342_0, ua342_1, uc342_1, rfl, ul342_0, ge342_0, ul342_1, ge342_1⟩ := k41_openF hMe342; have hv342_0 := hcc342 0 _ rfl; rw [Nat.add_zero] at hv342_0; replace hv342_0 := Option.some.inj (hv342_0.symm.trans hx342_0); injection hv342_0 with hva_ hvn_ hvc_; rw [hva_] at ge342_0; rw [hvc_] at ul342_0; have HL342_0 := zA1.mk (show Kd.V (Kd.int .i64) 3 _ w.heap.size _ _ ((zBu t331 x12_3).f0) from Kd.V_mk ul342_0 ge342_0); clear hva_ hvn_ hvc_ ge342_0 ul342_0; have hv342_1 := hcc342 1 _ rfl; rw [add_field _ _ 1 (by omega)] at hv342_1; replace hv342_1 := Option.some.inj (hv342_1.symm.trans hx342_1); injection hv342_1 with hva_ hvn_ hvc_; rw [hva_] at ge342_1; rw [hvc_] at ul342_1; have HL342_1 := zA1.mk (show Kd.V (Kd.int .i64) 3 _ w.heap.size _ _ ((zBu t331 x12_3).f1) from Kd.V_mk ul342_1 ge342_1); clear hva_ hvn_ hvc_ ge342_1 ul342_1; clear hcc342 hce342; have HR342_0 := zA1.mk hi342_0; have HC342_0 := zA1.mk hl342_0; clear hi342_0 hl342_0; have HR342_1 := zA1.mk hi342_1; have HC342_1 := zA1.mk hl342_1; clear hi342_1 hl342_1; replace p342 := eq_true p342; replace q342 := eq_true q342; have ea_ := Option.some.inj (hx339_0.symm.trans hx342_0); injection ea_ with ea_ en_ ec_; subst ea_; subst ec_; clear en_; have ea_ := Option.some.inj (hx339_1.symm.trans hx342_1); injection ea_ with ea_ en_ ec_; subst ea_; subst ec_; clear en_) | (go_at_call 14; (with_reducible refine (zAj.calls k3 _ _ ((zBu t322 x12_3).f1) _ _ ((zBu t331 x12_3).f1) false _ ?side1 ?side2 ?side3 ?side4 A52.out).mono ?_); (case side1 => repeat (first | exact (by repeat (first | (with_reducible exact HR341_1.out) | (with_reducible refine Kd.zAf ?_ _) | (with_reducible refine Kd.zAk ?_ _) | (with_reducible refine Kd.zAv ?_) | exact HR341_1.out)) | (with_reducible refine Kd.zAf ?_ _) | (with_reducible refine Kd.zAk ?_ _) | (with_reducible refine Kd.zAv ?_))); (case side2 => exact HC341_1.out); (case side3 => repeat (first | exact (by repeat (first | (with_reducible exact HR342_1.out) | (with_reducible refine Kd.zAf ?_ _) | (with_reducible refine Kd.zAk ?_ _) | (with_reducible refine Kd.zAv ?_) | exact HR342_1.out)) | (with_reducible refine Kd.zAf ?_ _) | (with_reducible refine Kd.zAk ?_ _) | (with_reducible refine Kd.zAv ?_))); (case side4 => exact HC342_1.out); rintro e w' ⟨rfl, ⟨nd, rfl⟩⟩; (try first | exact ⟨rfl, _, World.drewN_drewN _ _ _⟩ | exact ⟨rfl, _, Eq.trans (World.drewN_drewN _ _ _) (congrArg (World.drewN _) (Nat.add_assoc _ _ _))⟩))); try go_wp2_with (first | (go_at_call 14; (with_reducible refine (zAj.calls k3 _ _ ((zBu t322 x12_3).f0) _ _ ((zBu t331 x12_3).f0) true _ ?side1 ?side2 ?side3 ?side4 A50.out).mono ?_); (case side1 => repeat (first | exact (by repeat (first | (with_reducible exact HR338_0.out) | (with_reducible refine Kd.zAf ?_ _) | (with_reducible refine Kd.zAk ?_ _) | (with_reducible refine Kd.zAv ?_) | exact HR338_0.out)) | (with_reducible refine Kd.zAf ?_ _) | (with_reducible refine Kd.zAk ?_ _) | (with_reducible refine Kd.zAv ?_))); (case side2 => exact HC338_0.out); (case side3 => repeat (first | exact (by repeat (first | (with_reducible exact HR339_0.out) | (with_reducible refine Kd.zAf ?_ _) | (with_reducible refine Kd.zAk ?_ _) | (with_reducible refine Kd.zAv ?_) | exact HR339_0.out)) | (with_reducible refine Kd.zAf ?_ _) | (with_reducible refine Kd.zAk ?_ _) | (with_reducible refine Kd.zAv ?_))); (case side4 => exact HC339_0.out); rintro e w' ⟨rfl, ⟨nd, rfl⟩⟩; (try first | exact ⟨rfl, _, World.drewN_drewN _ _ _⟩ | exact ⟨rfl, _, Eq.trans (World.drewN_drewN _ _ _) (congrArg (World.drewN _) (Nat.add_assoc _ _ _))⟩); have p341 : 0 ≤ (x12_3 : Int) := of_decide_eq_true (by first | (with_reducible assumption) | assumption); have q341 : x12_3 < (t322.length : Int) := of_decide_eq_true (by first | (with_reducible assumption) | assumption); obtain ⟨ad341, A341_0, c341_0, A341_1, c341_1, e341, hx341_0, hx341_1, hl341_0, hi341_0, hl341_1, hi341_1⟩ := at_T41 (Kd.zBo HO_7.out).2.2 x12_3 p341 q341; obtain rfl : ad338 = ad341 := (by injection e341); obtain ⟨ce341, hce341, hMe341, hcc341⟩ := Kd.N_get HO_7.out z41 x12_3 p341 (by first | exact q341 | exact of_decide_eq_true (by first | (with_reducible assumption) | assumption) | (have e_ := (Kd.zBo HO_7.out).1; omega)); obtain ⟨ua341_0, uc341_0, ua341_1, uc341_1, rfl, ul341_0, ge341_0, ul341_1, ge341_1⟩ := k41_openF hMe341; have hv341_0 := hcc341 0 _ rfl; rw [Nat.add_zero] at hv341_0; replace hv341_0 := Option.some.inj (hv341_0.symm.trans hx341_0); injection hv341_0 with hva_ hvn_ hvc_; rw [hva_] at ge341_0; rw [hvc_] at ul341_0; have HL341_0 := zA1.mk (show Kd.V (Kd.int .i64) 3 _ w.heap.size _ _ ((zBu t322 x12_3).f0) from Kd.V_mk ul341_0 ge341_0); clear hva_ hvn_ hvc_ ge341_0 ul341_0; have hv341_1 := hcc341 1 _ rfl; rw [add_field _ _ 1 (by omega)] at hv341_1; replace hv341_1 := Option.some.inj (hv341_1.symm.trans hx341_1); injection hv341_1 with hva_ hvn_ hvc_; rw [hva_] at ge341_1; rw [hvc_] at ul341_1; have HL341_1 := zA1.mk (show Kd.V (Kd.int .i64) 3 _ w.heap.size _ _ ((zBu t322 x12_3).f1) from Kd.V_mk ul341_1 ge341_1); clear hva_ hvn_ hvc_ ge341_1 ul341_1; clear hcc341 hce341; have HR341_0 := zA1.mk hi341_0; have HC341_0 := zA1.mk hl341_0; clear hi341_0 hl341_0; have HR341_1 := zA1.mk hi341_1; have HC341_1 := zA1.mk hl341_1; clear hi341_1 hl341_1; replace p341 := eq_true p341; replace q341 := eq_true q341; have ea_ := Option.some.inj (hx338_0.symm.trans hx341_0); injection ea_ with ea_ en_ ec_; subst ea_; subst ec_; clear en_; have ea_ := Option.some.inj (hx338_1.symm.trans hx341_1); injection ea_ with ea_ en_ ec_; subst ea_; subst ec_; clear en_; have p342 : 0 ≤ (x12_3 : Int) := of_decide_eq_true (by first | (with_reducible assumption) | assumption); have q342 : x12_3 < (t331.length : Int) := of_decide_eq_true (by first | (with_reducible assumption) | assumption); obtain ⟨ad342, A342_0, c342_0, A342_1, c342_1, e342, hx342_0, hx342_1, hl342_0, hi342_0, hl342_1, hi342_1⟩ := at_T41 (Kd.zBo HO_11.out).2.2 x12_3 p342 q342; obtain rfl : ad339 = ad342 := (by injection e342); obtain ⟨ce342, hce342, hMe342, hcc342⟩ := Kd.N_get HO_11.out z41 x12_3 p342 (by first | exact q342 | exact of_decide_eq_true (by first | (with_reducible assumption) | assumption) | (have e_ := (Kd.zBo HO_11.out).1; omega)); obtain ⟨ua342_0, uc342_0, ua342_1, uc342_1, rfl, ul342_0, ge342_0, ul342_1, ge342_1⟩ := k41_openF hMe342; have hv342_0 := hcc342 0 _ rfl; rw [Nat.add_zero] at hv342_0; replace hv342_0 := Option.some.inj (hv342_0.symm.trans hx342_0); injection hv342_0 with hva_ hvn_ hvc_; rw [hva_] at ge342_0; rw [hvc_] at ul342_0; have HL342_0 := zA1.mk (show Kd.V (Kd.int .i64) 3 _ w.heap.size _ _ ((zBu t331 x12_3).f0) from Kd.V_mk ul342_0 ge342_0); clear hva_ hvn_ hvc_ ge342_0 ul342_0; have hv342_1 := hcc342 1 _ rfl; rw [add_field _ _ 1 (by omega)] at hv342_1; replace hv342_1 := Option.some.inj (hv342_1.symm.trans hx342_1); injection hv342_1 with hva_ hvn_ hvc_; rw [hva_] at ge342_1; rw [hvc_] at ul342_1; have HL342_1 := zA1.mk (show Kd.V (Kd.int .i64) 3 _ w.heap.size _ _ ((zBu t331 x12_3).f1) from Kd.V_mk ul342_1 ge342_1); clear hva_ hvn_ hvc_ ge342_1 ul342_1; clear hcc342 hce342; have HR342_0 := zA1.mk hi342_0; have HC342_0 := zA1.mk hl342_0; clear hi342_0 hl342_0; have HR342_1 := zA1.mk hi342_1; have HC342_1 := zA1.mk hl342_1; clear hi342_1 hl342_1; replace p342 := eq_true p342; replace q342 := eq_true q342; have ea_ := Option.some.inj (hx339_0.symm.trans hx342_0); injection ea_ with ea_ en_ ec_; subst ea_; subst ec_; clear en_; have ea_ := Option.some.inj (hx339_1.symm.trans hx342_1); injection ea_ with ea_ en_ ec_; subst ea_; subst ec_; clear en_) | (go_at_call 14; (with_reducible refine (zAj.calls k3 _ _ ((zBu t322 x12_3).f1) _ _ ((zBu t331 x12_3).f1) false _ ?side1 ?side2 ?side3 ?side4 A52.out).mono ?_); (case side1 => repeat (first | exact (by repeat (first | (with_reducible exact HR341_1.out) | (with_reducible refine Kd.zAf ?_ _) | (with_reducible refine Kd.zAk ?_ _) | (with_reducible refine Kd.zAv ?_) | exact HR341_1.out)) | (with_reducible refine Kd.zAf ?_ _) | (with_reducible refine Kd.zAk ?_ _) | (with_reducible refine Kd.zAv ?_))); (case side2 => exact HC341_1.out); (case side3 => repeat (first | exact (by repeat (first | (with_reducible exact HR342_1.out) | (with_reducible refine Kd.zAf ?_ _) | (with_reducible refine Kd.zAk ?_ _) | (with_reducible refine Kd.zAv ?_) | exact HR342_1.out)) | (with_reducible refine Kd.zAf ?_ _) | (with_reducible refine Kd.zAk ?_ _) | (with_reducible refine Kd.zAv ?_))); (case side4 => exact HC342_1.out); rintro e w' ⟨rfl, ⟨nd, rfl⟩⟩; (try first | exact ⟨rfl, _, World.drewN_drewN _ _ _⟩ | exact ⟨rfl, _, Eq.trans (World.drewN_drewN _ _ _) (congrArg (World.drewN _) (Nat.add_assoc _ _ _))⟩))))
               go_ret
               exact ⟨by first | rfl | (simp [zAy, zAx] <;> rfl) | (simp [*, zAy, zAx] <;> rfl), by repeat (first | (with_reducible first | exact HB.out | apply zA2 | apply zA0 | apply zA3 | refine zA4 ?_ GE321.out) | exact HB.out)⟩
             ·replace c51 := Bool.eq_false_iff.mpr c51
              subst c51
              have H1 : (some false) = some r := by rw [if_neg (show ¬ (false = true) by decide)] at H; exact H
              clear H
              have H := H1
              clear H1
              obtain rfl := Option.some.inj H
              obtain ⟨Ao58, co58, eo58⟩ := Kd.N_slice HO_7.out
              subst eo58
              have p338 : 0 ≤ (x12_3 : Int) := of_decide_eq_true (by first | (with_reducible assumption) | assumption)
              have q338 : x12_3 < (t322.length : Int) := of_decide_eq_true (by first | (with_reducible assumption) | assumption)
              obtain ⟨ad338, A338_0, c338_0, A338_1, c338_1, e338, hx338_0, hx338_1, hl338_0, hi338_0, hl338_1, hi338_1⟩ := at_T41 (Kd.zBo HO_7.out).2.2 x12_3 p338 q338
              cases e338
              obtain ⟨ce338, hce338, hMe338, hcc338⟩ := Kd.N_get HO_7.out z41 x12_3 p338 (by first | exact q338 | exact of_decide_eq_true (by first | (with_reducible assumption) | assumption) | (have e_ := (Kd.zBo HO_7.out).1; omega))
              obtain ⟨ua338_0, uc338_0, ua338_1, uc338_1, rfl, ul338_0, ge338_0, ul338_1, ge338_1⟩ := k41_openF hMe338
              have hv338_0 := hcc338 0 _ rfl
              rw [Nat.add_zero] at hv338_0
              replace hv338_0 := Option.some.inj (hv338_0.symm.trans hx338_0)
              injection hv338_0 with hva_ hvn_ hvc_
              rw [hva_] at ge338_0
              rw [hvc_] at ul338_0
              have HL338_0 := zA1.mk (show Kd.V (Kd.int .i64) 3 _ w.heap.size _ _ ((zBu t322 x12_3).f0) from Kd.V_mk ul338_0 ge338_0)
              clear hva_ hvn_ hvc_ ge338_0 ul338_0
              have hv338_1 := hcc338 1 _ rfl
              rw [add_field _ _ 1 (by omega)] at hv338_1
              replace hv338_1 := Option.some.inj (hv338_1.symm.trans hx338_1)
              injection hv338_1 with hva_ hvn_ hvc_
              rw [hva_] at ge338_1
              rw [hvc_] at ul338_1
              have HL338_1 := zA1.mk (show Kd.V (Kd.int .i64) 3 _ w.heap.size _ _ ((zBu t322 x12_3).f1) from Kd.V_mk ul338_1 ge338_1)
              clear hva_ hvn_ hvc_ ge338_1 ul338_1
              clear hcc338 hce338
              have HR338_0 := zA1.mk hi338_0
              have HC338_0 := zA1.mk hl338_0
              clear hi338_0 hl338_0
              have HR338_1 := zA1.mk hi338_1
              have HC338_1 := zA1.mk hl338_1
              clear hi338_1 hl338_1
              replace p338 := eq_true p338
              replace q338 := eq_true q338
              obtain ⟨Ao59, co59, eo59⟩ := Kd.N_slice HO_11.out
              subst eo59
              have p339 : 0 ≤ (x12_3 : Int) := of_decide_eq_true (by first | (with_reducible assumption) | assumption)
              have q339 : x12_3 < (t331.length : Int) := of_decide_eq_true (by first | (with_reducible assumption) | assumption)
              obtain ⟨ad339, A339_0, c339_0, A339_1, c339_1, e339, hx339_0, hx339_1, hl339_0, hi339_0, hl339_1, hi339_1⟩ := at_T41 (Kd.zBo HO_11.out).2.2 x12_3 p339 q339
              cases e339
              obtain ⟨ce339, hce339, hMe339, hcc339⟩ := Kd.N_get HO_11.out z41 x12_3 p339 (by first | exact q339 | exact of_decide_eq_true (by first | (with_reducible assumption) | assumption) | (have e_ := (Kd.zBo HO_11.out).1; omega))
              obtain ⟨ua339_0, uc339_0, ua339_1, uc339_1, rfl, ul339_0, ge339_0, ul339_1, ge339_1⟩ := k41_openF hMe339
              have hv339_0 := hcc339 0 _ rfl
              rw [Nat.add_zero] at hv339_0
              replace hv339_0 := Option.some.inj (hv339_0.symm.trans hx339_0)
              injection hv339_0 with hva_ hvn_ hvc_
              rw [hva_] at ge339_0
              rw [hvc_] at ul339_0
              have HL339_0 := zA1.mk (show Kd.V (Kd.int .i64) 3 _ w.heap.size _ _ ((zBu t331 x12_3).f0) from Kd.V_mk ul339_0 ge339_0)
              clear hva_ hvn_ hvc_ ge339_0 ul339_0
              have hv339_1 := hcc339 1 _ rfl
              rw [add_field _ _ 1 (by omega)] at hv339_1
              replace hv339_1 := Option.some.inj (hv339_1.symm.trans hx339_1)
              injection hv339_1 with hva_ hvn_ hvc_
              rw [hva_] at ge339_1
              rw [hvc_] at ul339_1
              have HL339_1 := zA1.mk (show Kd.V (Kd.int .i64) 3 _ w.heap.size _ _ ((zBu t331 x12_3).f1) from Kd.V_mk ul339_1 ge339_1)
              clear hva_ hvn_ hvc_ ge339_1 ul339_1
              clear hcc339 hce339
              have HR339_0 := zA1.mk hi339_0
              have HC339_0 := zA1.mk hl339_0
              clear hi339_0 hl339_0
              have HR339_1 := zA1.mk hi339_1
              have HC339_1 := zA1.mk hl339_1
              clear hi339_1 hl339_1
              replace p339 := eq_true p339
              replace q339 := eq_true q339
              go_wp2_with (first | (go_at_call 14; (with_reducible refine (zAj.calls k3 _ _ ((zBu t322 x12_3).f0) _ _ ((zBu t331 x12_3).f0) false _ ?side1 ?side2 ?side3 ?side4 A50.out).mono ?_); (case side1 => repeat (first | exact (by repeat (first | (with_reducible exact HR338_0.out) | (with_reducible refine Kd.zAf ?_ _) | (with_reducible refine Kd.zAk ?_ _) | (with_reducible refine Kd.zAv ?_) | exact HR338_0.out)) | (with_reducible refine Kd.zAf ?_ _) | (with_reducible refine Kd.zAk ?_ _) | (with_reducible refine Kd.zAv ?_))); (case side2 => exact HC338_0.out); (case side3 => repeat (first | exact (by repeat (first | (with_reducible exact HR339_0.out) | (with_reducible refine Kd.zAf ?_ _) | (with_reducible refine Kd.zAk ?_ _) | (with_reducible refine Kd.zAv ?_) | exact HR339_0.out)) | (with_reducible refine Kd.zAf ?_ _) | (with_reducible refine Kd.zAk ?_ _) | (with_reducible refine Kd.zAv ?_))); (case side4 => exact HC339_0.out); rintro e w' ⟨rfl, ⟨nd, rfl⟩⟩; (try first | exact ⟨rfl, _, World.drewN_drewN _ _ _⟩ | exact ⟨rfl, _, Eq.trans (World.drewN_drewN _ _ _) (congrArg (World.drewN _) (Nat.add_assoc _ _ _))⟩)))
              repeat (go_quiet (first | (go_at_call 14; (with_reducible refine (zAj.calls k3 _ _ ((zBu t322 x12_3).f0) _ _ ((zBu t331 x12_3).f0) false _ ?side1 ?side2 ?side3 ?side4 A50.out).mono ?_); (case side1 => repeat (first | exact (by repeat (first | (with_reducible exact HR338_0.out) | (with_reducible refine Kd.zAf ?_ _) | (with_reducible refine Kd.zAk ?_ _) | (with_reducible refine Kd.zAv ?_) | exact HR338_0.out)) | (with_reducible refine Kd.zAf ?_ _) | (with_reducible refine Kd.zAk ?_ _) | (with_reducible refine Kd.zAv ?_))); (case side2 => exact HC338_0.out); (case side3 => repeat (first | exact (by repeat (first | (with_reducible exact HR339_0.out) | (with_reducible refine Kd.zAf ?_ _) | (with_reducible refine Kd.zAk ?_ _) | (with_reducible refine Kd.zAv ?_) | exact HR339_0.out)) | (with_reducible refine Kd.zAf ?_ _) | (with_reducible refine Kd.zAk ?_ _) | (with_reducible refine Kd.zAv ?_))); (case side4 => exact HC339_0.out); rintro e w' ⟨rfl, ⟨nd, rfl⟩⟩; (try first | exact ⟨rfl, _, World.drewN_drewN _ _ _⟩ | exact ⟨rfl, _, Eq.trans (World.drewN_drewN _ _ _) (congrArg (World.drewN _) (Nat.add_assoc _ _ _))⟩))); try go_wp2_with (first | (go_at_call 14; (with_reducible refine (zAj.calls k3 _ _ ((zBu t322 x12_3).f0) _ _ ((zBu t331 x12_3).f0) false _ ?side1 ?side2 ?side3 ?side4 A50.out).mono ?_); (case side1 => repeat (first | exact (by repeat (first | (with_reducible exact HR338_0.out) | (with_reducible refine Kd.zAf ?_ _) | (with_reducible refine Kd.zAk ?_ _) | (with_reducible refine Kd.zAv ?_) | exact HR338_0.out)) | (with_reducible refine Kd.zAf ?_ _) | (with_reducible refine Kd.zAk ?_ _) | (with_reducible refine Kd.zAv ?_))); (case side2 => exact HC338_0.out); (case side3 => repeat (first | exact (by repeat (first | (with_reducible exact HR339_0.out) | (with_reducible refine Kd.zAf ?_ _) | (with_reducible refine Kd.zAk ?_ _) | (with_reducible refine Kd.zAv ?_) | exact HR339_0.out)) | (with_reducible refine Kd.zAf ?_ _) | (with_reducible refine Kd.zAk ?_ _) | (with_reducible refine Kd.zAv ?_))); (case side4 => exact HC339_0.out); rintro e w' ⟨rfl, ⟨nd, rfl⟩⟩; (try first | exact ⟨rfl, _, World.drewN_drewN _ _ _⟩ | exact ⟨rfl, _, Eq.trans (World.drewN_drewN _ _ _) (congrArg (World.drewN _) (Nat.add_assoc _ _ _))⟩))))
              go_ret
              exact ⟨by first | rfl | (simp [zAy, zAx] <;> rfl) | (simp [*, zAy, zAx] <;> rfl), by repeat (first | (with_reducible first | exact HB.out | apply zA2 | apply zA0 | apply zA3 | refine zA4 ?_ GE321.out) | exact HB.out)⟩
            ·rw [if_neg c49] at H
             exact absurd H (by simp)
           ·rw [if_neg c48] at H
            exact absurd H (by simp)
          ·rw [if_neg c47] at H
           have c47b0 : decide (x12_3 < (t322.length : Int)) = false := decide_eq_false c47
           clear c47
           obtain rfl := Option.some.inj H
           obtain ⟨Ao60, co60, eo60⟩ := Kd.N_slice HO_7.out
           subst eo60
           go_wp2
           go_ret
           exact ⟨by first | rfl | (simp [zAy, zAx] <;> rfl) | (simp [*, zAy, zAx] <;> rfl), by repeat (first | (with_reducible first | exact HB.out | apply zA2 | apply zA0 | apply zA3 | refine zA4 ?_ GE321.out) | exact HB.out)⟩
    ·replace c18 := Bool.eq_false_iff.mpr c18
     subst c18
     have H1 : (if (t322.length : Int) = 0 then (if t325 = 17 then (if (t326.length : Int) = 0 then (some (t329 == 17)) else (some false)) else (some false)) else (some false)) = some r := by rw [if_neg (show ¬ (false = true) by decide)] at H; exact H
     clear H
     have H := H1
     clear H1
     by_cases c61 : (t322.length : Int) = 0
     ·rw [if_pos c61] at H
      have c61b0 : ((t322.length : Int) == 0) = true := beq_iff_eq.mpr c61
      have c61b1 : ((t322.length : Int) != 0) = false := bne_eq_false_iff_eq.mpr c61
      clear c61
      by_cases c62 : t325 = 17
      ·rw [if_pos c62] at H
       have c62b0 : (t325 == 17) = true := beq_iff_eq.mpr c62
       have c62b1 : (t325 != 17) = false := bne_eq_false_iff_eq.mpr c62
       clear c62
       by_cases c63 : (t326.length : Int) = 0
       ·rw [if_pos c63] at H
        have c63b0 : ((t326.length : Int) == 0) = true := beq_iff_eq.mpr c63
        have c63b1 : ((t326.length : Int) != 0) = false := bne_eq_false_iff_eq.mpr c63
        clear c63
        obtain rfl := Option.some.inj H
        go_wp2_with (first | (go_at_call 9; (with_reducible refine (zAn.calls kj3 a0 t317 t318 _ A14.out).mono ?_); rintro e w64 ⟨v319, rfl, ho0, hb⟩; have n0_ := zA1.mk (Kd.zBi (by (with_reducible repeat (first | apply Kd.zAi | apply Kd.zAh | apply Kd.zAp)); exact HO_5.out) hb); have n1_ := zA1.mk (Kd.zCk ho0 (zAb (by repeat (first | (with_reducible first | exact HB.out | apply zA2 | apply zA0 | apply zA3) | exact HB.out)))); have n2_ := zA1.mk (zAe (by repeat (first | (with_reducible first | exact HB.out | apply zA2 | apply zA0 | apply zA3) | exact HB.out)) hb); clear HO_5; clear HB; have HO_5 := n0_; have HO320 := n1_; have HB := n2_; clear n0_ n1_ n2_; (try clear hb); (try clear hb2); (try clear hk); (try clear hi); (try clear ho0)) | ((with_reducible refine zBk (N := 6) rfl ?_); (try (refine gate_guard (by rfl) ?_; dsimp only)); refine zBj ?hg (N := 6) ?hd (cs := #[.int .i64 0, .slice none 0 0]) (t := 28) ?hr ?_; (case hd => rfl); (case hg => rfl); (case hr => first | (go_simp; done) | (go_simp; rfl)); intro gb321 hg w65 hbox hb; have n0_ := zA1.mk (Kd.zBi (by (with_reducible repeat (first | apply Kd.zAi | apply Kd.zAh | apply Kd.zAp)); exact HO_5.out) hb); have n1_ := zA1.mk (Kd.zBi (by (with_reducible repeat (first | apply Kd.zAi | apply Kd.zAh | apply Kd.zAp)); exact HO320.out) hb); have n2_ := zA1.mk (zAe (by repeat (first | (with_reducible first | exact HB.out | apply zA2 | apply zA0 | apply zA3) | exact HB.out)) hb); have n3_ := zA1.mk (hbox); have n4_ := zA1.mk ((by rw [hg]; exact (zAb (by repeat (first | (with_reducible first | exact HB.out | apply zA2 | apply zA0 | apply zA3) | exact HB.out))) : w.heap.size ≤ gb321)); have n5_ := zA1.mk ((by rw [hg]; exact (zAb (by repeat (first | (with_reducible first | exact HB.out | apply zA2 | apply zA0 | apply zA3) | exact HB.out))) : w.heap.size ≤ gb321)); clear HO_5; clear HO320; clear HB; have HO_5 := n0_; have HO320 := n1_; have HB := n2_; have BK321 := n3_; have GW321 := n4_; have GE321 := n5_; clear n0_ n1_ n2_ n3_ n4_ n5_; clear hb hbox hg; have hcz66_0 : w65.cell? ⟨gb321, 0, none⟩ = some (.int .i64 0) := (zA9 BK321.out 0).trans rfl; have hcz66_1 : w65.cell? ⟨gb321, 1, none⟩ = some (.slice none 0 0) := (zA9 BK321.out 1).trans rfl; have hfz66_0 := zAd BK321.out 0; have hfz66_1 := zAd BK321.out 1; obtain ⟨Ao67, co67, eo67⟩ := Kd.zC5 HO320.out; subst eo67; obtain ⟨Ao68, co68, eo68⟩ := Kd.zC5 HO_5.out; subst eo68) | (go_at_call 10; (with_reducible refine (liaison_Cuts.calls t317 _ _ t318 _ _ t312 t322 t325 _ ?side1 ?side2 ?side3 ?side4 ?side5 A15.out).mono ?_); (case side1 => refine (Kd.zAw (e := 68) (base := w.heap.size) (ok := fun k_ => True) (n := t318.length) (c := co67) ?_).2.2; exact (by (with_reducible repeat (first | apply Kd.zAi | apply Kd.zAh | apply Kd.zAp)); exact (Kd.zC3 (Kd.R_far (p := ⟨gb321, 1, none⟩) (Kd.R_far (p := ⟨gb321, 0, none⟩) (Kd.zCa HO320.out BK321.out (by decide)) (fun _ hk => hk.2) (.int .i64 t317)) (fun _ hk => hk.2) (.slice Ao67 t318.length co67)) (fun _ h_ => h_.1)))); (case side2 => exact (Kd.zAw HO320.out).2.1); (case side3 => refine (Kd.zAw (e := 3) (base := w.heap.size) (ok := fun k_ => True) (n := t312.length) (c := co68) ?_).2.2; exact (by (with_reducible repeat (first | apply Kd.zAi | apply Kd.zAh | apply Kd.zAp)); exact (Kd.zC3 (Kd.R_far (p := ⟨gb321, 1, none⟩) (Kd.R_far (p := ⟨gb321, 0, none⟩) (Kd.zCa HO_5.out BK321.out (by decide)) (fun _ hk => hk.2) (.int .i64 t317)) (fun _ hk => hk.2) (.slice Ao67 t318.length co67)) (fun _ h_ => h_.1)))); (case side4 => exact (Kd.zAw HO_5.out).2.1); (case side5 => exact Kd.zB1 HG.out (by repeat (first | (with_reducible first | exact HB.out | apply zA2 | apply zA0 | apply zA3 | refine zA4 ?_ GE321.out) | exact HB.out))); rintro e w69 ⟨v323, rfl, ho0, hb⟩; have n0_ := zA1.mk (Kd.zBi (by (with_reducible repeat (first | apply Kd.zAi | apply Kd.zAh | apply Kd.zAp)); exact (Kd.zC3 (Kd.R_far (p := ⟨gb321, 1, none⟩) (Kd.R_far (p := ⟨gb321, 0, none⟩) (Kd.zCa HO_5.out BK321.out (by decide)) (fun _ hk => hk.2) (.int .i64 t317)) (fun _ hk => hk.2) (.slice Ao67 t318.length co67)) (fun _ h_ => h_.1))) hb); have n1_ := zA1.mk (Kd.zBi (by (with_reducible repeat (first | apply Kd.zAi | apply Kd.zAh | apply Kd.zAp)); exact (Kd.zC3 (Kd.R_far (p := ⟨gb321, 1, none⟩) (Kd.R_far (p := ⟨gb321, 0, none⟩) (Kd.zCa HO320.out BK321.out (by decide)) (fun _ hk => hk.2) (.int .i64 t317)) (fun _ hk => hk.2) (.slice Ao67 t318.length co67)) (fun _ h_ => h_.1))) hb); have n2_ := zA1.mk (Kd.N_lower (Kd.N_mono (ok' := fun k_ => some k_ ≠ (.slice Ao68 t312.length co68 : Value).ownBlock ∧ some k_ ≠ (.slice Ao67 t318.length co67 : Value).ownBlock ∧ k_ ≠ gb321) (Kd.S_N (Kd.S_bound ho0)) (fun k_ hk_ => ⟨(Kd.fresh' (Kd.R_lt (by (with_reducible repeat (first | apply Kd.zAi | apply Kd.zAh | apply Kd.zAp)); exact (Kd.zC3 (Kd.R_far (p := ⟨gb321, 1, none⟩) (Kd.R_far (p := ⟨gb321, 0, none⟩) (Kd.zCa HO_5.out BK321.out (by decide)) (fun _ hk => hk.2) (.int .i64 t317)) (fun _ hk => hk.2) (.slice Ao67 t318.length co67)) (fun _ h_ => h_.1)))) k_ hk_.2.1), (Kd.fresh' (Kd.R_lt (by (with_reducible repeat (first | apply Kd.zAi | apply Kd.zAh | apply Kd.zAp)); exact (Kd.zC3 (Kd.R_far (p := ⟨gb321, 1, none⟩) (Kd.R_far (p := ⟨gb321, 0, none⟩) (Kd.zCa HO320.out BK321.out (by decide)) (fun _ hk => hk.2) (.int .i64 t317)) (fun _ hk => hk.2) (.slice Ao67 t318.length co67)) (fun _ h_ => h_.1)))) k_ hk_.2.1), (Kd.freshB (g := gb321) (o := .cells #[.int .i64 t317, .slice Ao67 t318.length co67] 28 (0, 0)) (by (with_reducible repeat (first | refine zA6 ?_ _ | refine zA8 ?_ | refine zA5 ?_ _)); refine zCj (cs := #[.int .i64 t317, .slice none 0 0]) ?_ 1 _ rfl; (with_reducible repeat (first | refine zA6 ?_ _ | refine zA8 ?_ | refine zA5 ?_ _)); refine zCj (cs := #[.int .i64 0, .slice none 0 0]) ?_ 0 _ rfl; (with_reducible repeat (first | refine zA6 ?_ _ | refine zA8 ?_ | refine zA5 ?_ _)); exact BK321.out) k_ hk_.2.1)⟩)) (zAb (by repeat (first | (with_reducible first | exact HB.out | apply zA2 | apply zA0 | apply zA3 | refine zA4 ?_ GE321.out) | exact HB.out)))); have n3_ := zA1.mk (zAt (g := gb321) (o := .cells #[.int .i64 t317, .slice Ao67 t318.length co67] 28 (0, 0)) (by (with_reducible repeat (first | refine zA6 ?_ _ | refine zA8 ?_ | refine zA5 ?_ _)); refine zCj (cs := #[.int .i64 t317, .slice none 0 0]) ?_ 1 _ rfl; (with_reducible repeat (first | refine zA6 ?_ _ | refine zA8 ?_ | refine zA5 ?_ _)); refine zCj (cs := #[.int .i64 0, .slice none 0 0]) ?_ 0 _ rfl; (with_reducible repeat (first | refine zA6 ?_ _ | refine zA8 ?_ | refine zA5 ?_ _)); exact BK321.out) hb); have n4_ := zA1.mk (zAe (by repeat (first | (with_reducible first | exact HB.out | apply zA2 | apply zA0 | apply zA3 | refine zA4 ?_ GE321.out) | exact HB.out)) hb); clear HO_5; clear HO320; clear BK321; clear HB; have HO_5 := n0_; have HO320 := n1_; have HO324 := n2_; have BK321 := n3_; have HB := n4_; clear n0_ n1_ n2_ n3_ n4_; (try clear hb); (try clear hb2); (try clear hk); (try clear hi); (try clear ho0); have hcz70_0 : w69.cell? ⟨gb321, 0, none⟩ = some (.int .i64 t317) := (zA9 BK321.out 0).trans rfl; have hcz70_1 : w69.cell? ⟨gb321, 1, none⟩ = some (.slice Ao67 t318.length co67) := (zA9 BK321.out 1).trans rfl; have hfz70_0 := zAd BK321.out 0; have hfz70_1 := zAd BK321.out 1) | (go_at_call 11; (with_reducible refine (zB2.calls kj3 t317 _ _ t318 _ _ t312 t326 t329 _ ?side1 ?side2 ?side3 ?side4 ?side5 A16.out).mono ?_); (case side1 => repeat (first | exact (Kd.zAw HO320.out).2.2 | (with_reducible refine Kd.zAf ?_ _) | (with_reducible refine Kd.zAk ?_ _) | (with_reducible refine Kd.zAv ?_))); (case side2 => exact (Kd.zAw HO320.out).2.1); (case side3 => repeat (first | exact (Kd.zAw HO_5.out).2.2 | (with_reducible refine Kd.zAf ?_ _) | (with_reducible refine Kd.zAk ?_ _) | (with_reducible refine Kd.zAv ?_))); (case side4 => exact (Kd.zAw HO_5.out).2.1); (case side5 => repeat (first | exact (Kd.zB1 HG.out HB.out) | (with_reducible refine Kd.zAf ?_ _) | (with_reducible refine Kd.zAk ?_ _) | (with_reducible refine Kd.zAv ?_))); rintro e w71 ⟨v327, rfl, ho0, hb⟩; have n0_ := zA1.mk (Kd.R_elder' (by (with_reducible repeat (first | apply Kd.zAi | apply Kd.zAh | apply Kd.zAp)); exact HO_5.out) (Kd.R_base ho0) hb); have n1_ := zA1.mk (Kd.zBi (by (with_reducible repeat (first | apply Kd.zAi | apply Kd.zAh | apply Kd.zAp)); exact HO320.out) hb); have n2_ := zA1.mk (Kd.N_elder' (by (with_reducible repeat (first | apply Kd.zBm | apply Kd.zBl | apply Kd.zBv)); exact HO324.out) (Kd.R_base ho0) hb); have n3_ := zA1.mk (Kd.zCk (Kd.R_new' ho0 (Kd.R_lt (by (with_reducible repeat (first | apply Kd.zAi | apply Kd.zAh | apply Kd.zAp)); exact HO_5.out))) (zAb (by repeat (first | (with_reducible first | exact HB.out | apply zA2 | apply zA0 | apply zA3 | refine zA4 ?_ GE321.out) | exact HB.out)))); have n4_ := zA1.mk (zAt (g := gb321) (o := .cells #[.int .i64 t317, .slice Ao67 t318.length co67] 28 (0, 0)) (by (with_reducible repeat (first | refine zA6 ?_ _ | refine zA8 ?_ | refine zA5 ?_ _)); exact BK321.out) hb); have n5_ := zA1.mk (zAe (by repeat (first | (with_reducible first | exact HB.out | apply zA2 | apply zA0 | apply zA3 | refine zA4 ?_ GE321.out) | exact HB.out)) hb); clear HO_5; clear HO320; clear HO324; clear BK321; clear HB; have HO_5 := n0_; have HO320 := n1_; have HO324 := n2_; have HO328 := n3_; have BK321 := n4_; have HB := n5_; clear n0_ n1_ n2_ n3_ n4_ n5_; (try clear hb); (try clear hb2); (try clear hk); (try clear hi); (try clear ho0); have hcz72_0 : w71.cell? ⟨gb321, 0, none⟩ = some (.int .i64 t317) := (zA9 BK321.out 0).trans rfl; have hcz72_1 : w71.cell? ⟨gb321, 1, none⟩ = some (.slice Ao67 t318.length co67) := (zA9 BK321.out 1).trans rfl; have hfz72_0 := zAd BK321.out 0; have hfz72_1 := zAd BK321.out 1) | (go_at_call 12; (with_reducible refine (zAm.calls kj3 t317 _ _ t318 _ _ t312 false _ ?side1 ?side2 ?side3 ?side4 A17.out).mono ?_); (case side1 => repeat (first | exact (Kd.zAw HO320.out).2.2 | (with_reducible refine Kd.zAf ?_ _) | (with_reducible refine Kd.zAk ?_ _) | (with_reducible refine Kd.zAv ?_))); (case side2 => exact (Kd.zAw HO320.out).2.1); (case side3 => repeat (first | exact (Kd.zAw HO_5.out).2.2 | (with_reducible refine Kd.zAf ?_ _) | (with_reducible refine Kd.zAk ?_ _) | (with_reducible refine Kd.zAv ?_))); (case side4 => exact (Kd.zAw HO_5.out).2.1); rintro e w73 ⟨rfl, hb⟩; have n0_ := zA1.mk (Kd.zBi (by (with_reducible repeat (first | apply Kd.zAi | apply Kd.zAh | apply Kd.zAp)); exact HO_5.out) hb); have n1_ := zA1.mk (Kd.zBi (by (with_reducible repeat (first | apply Kd.zAi | apply Kd.zAh | apply Kd.zAp)); exact HO320.out) hb); have n2_ := zA1.mk (Kd.N_below (by (with_reducible repeat (first | apply Kd.zBm | apply Kd.zBl | apply Kd.zBv)); exact HO324.out) hb); have n3_ := zA1.mk (Kd.zBi (by (with_reducible repeat (first | apply Kd.zAi | apply Kd.zAh | apply Kd.zAp)); exact HO328.out) hb); have n4_ := zA1.mk (zAt (g := gb321) (o := .cells #[.int .i64 t317, .slice Ao67 t318.length co67] 28 (0, 0)) (by (with_reducible repeat (first | refine zA6 ?_ _ | refine zA8 ?_ | refine zA5 ?_ _)); exact BK321.out) hb); have n5_ := zA1.mk (zAe (by repeat (first | (with_reducible first | exact HB.out | apply zA2 | apply zA0 | apply zA3 | refine zA4 ?_ GE321.out) | exact HB.out)) hb); clear HO_5; clear HO320; clear HO324; clear HO328; clear BK321; clear HB; have HO_5 := n0_; have HO320 := n1_; have HO324 := n2_; have HO328 := n3_; have BK321 := n4_; have HB := n5_; clear n0_ n1_ n2_ n3_ n4_ n5_; (try clear hb); (try clear hb2); (try clear hk); (try clear hi); obtain ⟨Ao74, co74, eo74⟩ := Kd.N_slice HO324.out; subst eo74; obtain ⟨Ao75, co75, eo75⟩ := Kd.zC5 HO328.out; subst eo75))
        go_ret
        exact ⟨by first | rfl | (simp [zAy, zAx] <;> rfl) | (simp [*, zAy, zAx] <;> rfl), by repeat (first | (with_reducible first | exact HB.out | apply zA2 | apply zA0 | apply zA3 | refine zA4 ?_ GE321.out) | exact HB.out)⟩
       ·rw [if_neg c63] at H
        have c63b0 : ((t326.length : Int) == 0) = false := beq_eq_false_iff_ne.mpr c63
        have c63b1 : ((t326.length : Int) != 0) = true := bne_iff_ne.mpr c63
        have c63b2 : ¬ (t326 = []) := fun h_ => c63 (by rw [h_]; rfl)
        obtain rfl := Option.some.inj H
        go_wp2_with (first | (go_at_call 9; (with_reducible refine (zAn.calls kj3 a0 t317 t318 _ A14.out).mono ?_); rintro e w76 ⟨v319, rfl, ho0, hb⟩; have n0_ := zA1.mk (Kd.zBi (by (with_reducible repeat (first | apply Kd.zAi | apply Kd.zAh | apply Kd.zAp)); exact HO_5.out) hb); have n1_ := zA1.mk (Kd.zCk ho0 (zAb (by repeat (first | (with_reducible first | exact HB.out | apply zA2 | apply zA0 | apply zA3) | exact HB.out)))); have n2_ := zA1.mk (zAe (by repeat (first | (with_reducible first | exact HB.out | apply zA2 | apply zA0 | apply zA3) | exact HB.out)) hb); clear HO_5; clear HB; have HO_5 := n0_; have HO320 := n1_; have HB := n2_; clear n0_ n1_ n2_; (try clear hb); (try clear hb2); (try clear hk); (try clear hi); (try clear ho0)) | ((with_reducible refine zBk (N := 6) rfl ?_); (try (refine gate_guard (by rfl) ?_; dsimp only)); refine zBj ?hg (N := 6) ?hd (cs := #[.int .i64 0, .slice none 0 0]) (t := 28) ?hr ?_; (case hd => rfl); (case hg => rfl); (case hr => first | (go_simp; done) | (go_simp; rfl)); intro gb321 hg w77 hbox hb; have n0_ := zA1.mk (Kd.zBi (by (with_reducible repeat (first | apply Kd.zAi | apply Kd.zAh | apply Kd.zAp)); exact HO_5.out) hb); have n1_ := zA1.mk (Kd.zBi (by (with_reducible repeat (first | apply Kd.zAi | apply Kd.zAh | apply Kd.zAp)); exact HO320.out) hb); have n2_ := zA1.mk (zAe (by repeat (first | (with_reducible first | exact HB.out | apply zA2 | apply zA0 | apply zA3) | exact HB.out)) hb); have n3_ := zA1.mk (hbox); have n4_ := zA1.mk ((by rw [hg]; exact (zAb (by repeat (first | (with_reducible first | exact HB.out | apply zA2 | apply zA0 | apply zA3) | exact HB.out))) : w.heap.size ≤ gb321)); have n5_ := zA1.mk ((by rw [hg]; exact (zAb (by repeat (first | (with_reducible first | exact HB.out | apply zA2 | apply zA0 | apply zA3) | exact HB.out))) : w.heap.size ≤ gb321)); clear HO_5; clear HO320; clear HB; have HO_5 := n0_; have HO320 := n1_; have HB := n2_; have BK321 := n3_; have GW321 := n4_; have GE321 := n5_; clear n0_ n1_ n2_ n3_ n4_ n5_; clear hb hbox hg; have hcz78_0 : w77.cell? ⟨gb321, 0, none⟩ = some (.int .i64 0) := (zA9 BK321.out 0).trans rfl; have hcz78_1 : w77.cell? ⟨gb321, 1, none⟩ = some (.slice none 0 0) := (zA9 BK321.out 1).trans rfl; have hfz78_0 := zAd BK321.out 0; have hfz78_1 := zAd BK321.out 1; obtain ⟨Ao79, co79, eo79⟩ := Kd.zC5 HO320.out; subst eo79; obtain ⟨Ao80, co80, eo80⟩ := Kd.zC5 HO_5.out; subst eo80) | (go_at_call 10; (with_reducible refine (liaison_Cuts.calls t317 _ _ t318 _ _ t312 t322 t325 _ ?side1 ?side2 ?side3 ?side4 ?side5 A15.out).mono ?_); (case side1 => refine (Kd.zAw (e := 68) (base := w.heap.size) (ok := fun k_ => True) (n := t318.length) (c := co79) ?_).2.2; exact (by (with_reducible repeat (first | apply Kd.zAi | apply Kd.zAh | apply Kd.zAp)); exact (Kd.zC3 (Kd.R_far (p := ⟨gb321, 1, none⟩) (Kd.R_far (p := ⟨gb321, 0, none⟩) (Kd.zCa HO320.out BK321.out (by decide)) (fun _ hk => hk.2) (.int .i64 t317)) (fun _ hk => hk.2) (.slice Ao79 t318.length co79)) (fun _ h_ => h_.1)))); (case side2 => exact (Kd.zAw HO320.out).2.1); (case side3 => refine (Kd.zAw (e := 3) (base := w.heap.size) (ok := fun k_ => True) (n := t312.length) (c := co80) ?_).2.2; exact (by (with_reducible repeat (first | apply Kd.zAi | apply Kd.zAh | apply Kd.zAp)); exact (Kd.zC3 (Kd.R_far (p := ⟨gb321, 1, none⟩) (Kd.R_far (p := ⟨gb321, 0, none⟩) (Kd.zCa HO_5.out BK321.out (by decide)) (fun _ hk => hk.2) (.int .i64 t317)) (fun _ hk => hk.2) (.slice Ao79 t318.length co79)) (fun _ h_ => h_.1)))); (case side4 => exact (Kd.zAw HO_5.out).2.1); (case side5 => exact Kd.zB1 HG.out (by repeat (first | (with_reducible first | exact HB.out | apply zA2 | apply zA0 | apply zA3 | refine zA4 ?_ GE321.out) | exact HB.out))); rintro e w81 ⟨v323, rfl, ho0, hb⟩; have n0_ := zA1.mk (Kd.zBi (by (with_reducible repeat (first | apply Kd.zAi | apply Kd.zAh | apply Kd.zAp)); exact (Kd.zC3 (Kd.R_far (p := ⟨gb321, 1, none⟩) (Kd.R_far (p := ⟨gb321, 0, none⟩) (Kd.zCa HO_5.out BK321.out (by decide)) (fun _ hk => hk.2) (.int .i64 t317)) (fun _ hk => hk.2) (.slice Ao79 t318.length co79)) (fun _ h_ => h_.1))) hb); have n1_ := zA1.mk (Kd.zBi (by (with_reducible repeat (first | apply Kd.zAi | apply Kd.zAh | apply Kd.zAp)); exact (Kd.zC3 (Kd.R_far (p := ⟨gb321, 1, none⟩) (Kd.R_far (p := ⟨gb321, 0, none⟩) (Kd.zCa HO320.out BK321.out (by decide)) (fun _ hk => hk.2) (.int .i64 t317)) (fun _ hk => hk.2) (.slice Ao79 t318.length co79)) (fun _ h_ => h_.1))) hb); have n2_ := zA1.mk (Kd.N_lower (Kd.N_mono (ok' := fun k_ => some k_ ≠ (.slice Ao80 t312.length co80 : Value).ownBlock ∧ some k_ ≠ (.slice Ao79 t318.length co79 : Value).ownBlock ∧ k_ ≠ gb321) (Kd.S_N (Kd.S_bound ho0)) (fun k_ hk_ => ⟨(Kd.fresh' (Kd.R_lt (by (with_reducible repeat (first | apply Kd.zAi | apply Kd.zAh | apply Kd.zAp)); exact (Kd.zC3 (Kd.R_far (p := ⟨gb321, 1, none⟩) (Kd.R_far (p := ⟨gb321, 0, none⟩) (Kd.zCa HO_5.out BK321.out (by decide)) (fun _ hk => hk.2) (.int .i64 t317)) (fun _ hk => hk.2) (.slice Ao79 t318.length co79)) (fun _ h_ => h_.1)))) k_ hk_.2.1), (Kd.fresh' (Kd.R_lt (by (with_reducible repeat (first | apply Kd.zAi | apply Kd.zAh | apply Kd.zAp)); exact (Kd.zC3 (Kd.R_far (p := ⟨gb321, 1, none⟩) (Kd.R_far (p := ⟨gb321, 0, none⟩) (Kd.zCa HO320.out BK321.out (by decide)) (fun _ hk => hk.2) (.int .i64 t317)) (fun _ hk => hk.2) (.slice Ao79 t318.length co79)) (fun _ h_ => h_.1)))) k_ hk_.2.1), (Kd.freshB (g := gb321) (o := .cells #[.int .i64 t317, .slice Ao79 t318.length co79] 28 (0, 0)) (by (with_reducible repeat (first | refine zA6 ?_ _ | refine zA8 ?_ | refine zA5 ?_ _)); refine zCj (cs := #[.int .i64 t317, .slice none 0 0]) ?_ 1 _ rfl; (with_reducible repeat (first | refine zA6 ?_ _ | refine zA8 ?_ | refine zA5 ?_ _)); refine zCj (cs := #[.int .i64 0, .slice none 0 0]) ?_ 0 _ rfl; (with_reducible repeat (first | refine zA6 ?_ _ | refine zA8 ?_ | refine zA5 ?_ _)); exact BK321.out) k_ hk_.2.1)⟩)) (zAb (by repeat (first | (with_reducible first | exact HB.out | apply zA2 | apply zA0 | apply zA3 | refine zA4 ?_ GE321.out) | exact HB.out)))); have n3_ := zA1.mk (zAt (g := gb321) (o := .cells #[.int .i64 t317, .slice Ao79 t318.length co79] 28 (0, 0)) (by (with_reducible repeat (first | refine zA6 ?_ _ | refine zA8 ?_ | refine zA5 ?_ _)); refine zCj (cs := #[.int .i64 t317, .slice none 0 0]) ?_ 1 _ rfl; (with_reducible repeat (first | refine zA6 ?_ _ | refine zA8 ?_ | refine zA5 ?_ _)); refine zCj (cs := #[.int .i64 0, .slice none 0 0]) ?_ 0 _ rfl; (with_reducible repeat (first | refine zA6 ?_ _ | refine zA8 ?_ | refine zA5 ?_ _)); exact BK321.out) hb); have n4_ := zA1.mk (zAe (by repeat (first | (with_reducible first | exact HB.out | apply zA2 | apply zA0 | apply zA3 | refine zA4 ?_ GE321.out) | exact HB.out)) hb); clear HO_5; clear HO320; clear BK321; clear HB; have HO_5 := n0_; have HO320 := n1_; have HO324 := n2_; have BK321 := n3_; have HB := n4_; clear n0_ n1_ n2_ n3_ n4_; (try clear hb); (try clear hb2); (try clear hk); (try clear hi); (try clear ho0); have hcz82_0 : w81.cell? ⟨gb321, 0, none⟩ = some (.int .i64 t317) := (zA9 BK321.out 0).trans rfl; have hcz82_1 : w81.cell? ⟨gb321, 1, none⟩ = some (.slice Ao79 t318.length co79) := (zA9 BK321.out 1).trans rfl; have hfz82_0 := zAd BK321.out 0; have hfz82_1 := zAd BK321.out 1) | (go_at_call 11; (with_reducible refine (zB2.calls kj3 t317 _ _ t318 _ _ t312 t326 t329 _ ?side1 ?side2 ?side3 ?side4 ?side5 A16.out).mono ?_); (case side1 => repeat (first | exact (Kd.zAw HO320.out).2.2 | (with_reducible refine Kd.zAf ?_ _) | (with_reducible refine Kd.zAk ?_ _) | (with_reducible refine Kd.zAv ?_))); (case side2 => exact (Kd.zAw HO320.out).2.1); (case side3 => repeat (first | exact (Kd.zAw HO_5.out).2.2 | (with_reducible refine Kd.zAf ?_ _) | (with_reducible refine Kd.zAk ?_ _) | (with_reducible refine Kd.zAv ?_))); (case side4 => exact (Kd.zAw HO_5.out).2.1); (case side5 => repeat (first | exact (Kd.zB1 HG.out HB.out) | (with_reducible refine Kd.zAf ?_ _) | (with_reducible refine Kd.zAk ?_ _) | (with_reducible refine Kd.zAv ?_))); rintro e w83 ⟨v327, rfl, ho0, hb⟩; have n0_ := zA1.mk (Kd.R_elder' (by (with_reducible repeat (first | apply Kd.zAi | apply Kd.zAh | apply Kd.zAp)); exact HO_5.out) (Kd.R_base ho0) hb); have n1_ := zA1.mk (Kd.zBi (by (with_reducible repeat (first | apply Kd.zAi | apply Kd.zAh | apply Kd.zAp)); exact HO320.out) hb); have n2_ := zA1.mk (Kd.N_elder' (by (with_reducible repeat (first | apply Kd.zBm | apply Kd.zBl | apply Kd.zBv)); exact HO324.out) (Kd.R_base ho0) hb); have n3_ := zA1.mk (Kd.zCk (Kd.R_new' ho0 (Kd.R_lt (by (with_reducible repeat (first | apply Kd.zAi | apply Kd.zAh | apply Kd.zAp)); exact HO_5.out))) (zAb (by repeat (first | (with_reducible first | exact HB.out | apply zA2 | apply zA0 | apply zA3 | refine zA4 ?_ GE321.out) | exact HB.out)))); have n4_ := zA1.mk (zAt (g := gb321) (o := .cells #[.int .i64 t317, .slice Ao79 t318.length co79] 28 (0, 0)) (by (with_reducible repeat (first | refine zA6 ?_ _ | refine zA8 ?_ | refine zA5 ?_ _)); exact BK321.out) hb); have n5_ := zA1.mk (zAe (by repeat (first | (with_reducible first | exact HB.out | apply zA2 | apply zA0 | apply zA3 | refine zA4 ?_ GE321.out) | exact HB.out)) hb); clear HO_5; clear HO320; clear HO324; clear BK321; clear HB; have HO_5 := n0_; have HO320 := n1_; have HO324 := n2_; have HO328 := n3_; have BK321 := n4_; have HB := n5_; clear n0_ n1_ n2_ n3_ n4_ n5_; (try clear hb); (try clear hb2); (try clear hk); (try clear hi); (try clear ho0); have hcz84_0 : w83.cell? ⟨gb321, 0, none⟩ = some (.int .i64 t317) := (zA9 BK321.out 0).trans rfl; have hcz84_1 : w83.cell? ⟨gb321, 1, none⟩ = some (.slice Ao79 t318.length co79) := (zA9 BK321.out 1).trans rfl; have hfz84_0 := zAd BK321.out 0; have hfz84_1 := zAd BK321.out 1) | (go_at_call 12; (with_reducible refine (zAm.calls kj3 t317 _ _ t318 _ _ t312 false _ ?side1 ?side2 ?side3 ?side4 A17.out).mono ?_); (case side1 => repeat (first | exact (Kd.zAw HO320.out).2.2 | (with_reducible refine Kd.zAf ?_ _) | (with_reducible refine Kd.zAk ?_ _) | (with_reducible refine Kd.zAv ?_))); (case side2 => exact (Kd.zAw HO320.out).2.1); (case side3 => repeat (first | exact (Kd.zAw HO_5.out).2.2 | (with_reducible refine Kd.zAf ?_ _) | (with_reducible refine Kd.zAk ?_ _) | (with_reducible refine Kd.zAv ?_))); (case side4 => exact (Kd.zAw HO_5.out).2.1); rintro e w85 ⟨rfl, hb⟩; have n0_ := zA1.mk (Kd.zBi (by (with_reducible repeat (first | apply Kd.zAi | apply Kd.zAh | apply Kd.zAp)); exact HO_5.out) hb); have n1_ := zA1.mk (Kd.zBi (by (with_reducible repeat (first | apply Kd.zAi | apply Kd.zAh | apply Kd.zAp)); exact HO320.out) hb); have n2_ := zA1.mk (Kd.N_below (by (with_reducible repeat (first | apply Kd.zBm | apply Kd.zBl | apply Kd.zBv)); exact HO324.out) hb); have n3_ := zA1.mk (Kd.zBi (by (with_reducible repeat (first | apply Kd.zAi | apply Kd.zAh | apply Kd.zAp)); exact HO328.out) hb); have n4_ := zA1.mk (zAt (g := gb321) (o := .cells #[.int .i64 t317, .slice Ao79 t318.length co79] 28 (0, 0)) (by (with_reducible repeat (first | refine zA6 ?_ _ | refine zA8 ?_ | refine zA5 ?_ _)); exact BK321.out) hb); have n5_ := zA1.mk (zAe (by repeat (first | (with_reducible first | exact HB.out | apply zA2 | apply zA0 | apply zA3 | refine zA4 ?_ GE321.out) | exact HB.out)) hb); clear HO_5; clear HO320; clear HO324; clear HO328; clear BK321; clear HB; have HO_5 := n0_; have HO320 := n1_; have HO324 := n2_; have HO328 := n3_; have BK321 := n4_; have HB := n5_; clear n0_ n1_ n2_ n3_ n4_ n5_; (try clear hb); (try clear hb2); (try clear hk); (try clear hi); obtain ⟨Ao86, co86, eo86⟩ := Kd.N_slice HO324.out; subst eo86; obtain ⟨Ao87, co87, eo87⟩ := Kd.zC5 HO328.out; subst eo87))
        go_ret
        exact ⟨by first | rfl | (simp [zAy, zAx] <;> rfl) | (simp [*, zAy, zAx] <;> rfl), by repeat (first | (with_reducible first | exact HB.out | apply zA2 | apply zA0 | apply zA3 | refine zA4 ?_ GE321.out) | exact HB.out)⟩
      ·rw [if_neg c62] at H
       have c62b0 : (t325 == 17) = false := beq_eq_false_iff_ne.mpr c62
       have c62b1 : (t325 != 17) = true := bne_iff_ne.mpr c62
       obtain rfl := Option.some.inj H
       go_wp2_with (first | (go_at_call 9; (with_reducible refine (zAn.calls kj3 a0 t317 t318 _ A14.out).mono ?_); rintro e w88 ⟨v319, rfl, ho0, hb⟩; have n0_ := zA1.mk (Kd.zBi (by (with_reducible repeat (first | apply Kd.zAi | apply Kd.zAh | apply Kd.zAp)); exact HO_5.out) hb); have n1_ := zA1.mk (Kd.zCk ho0 (zAb (by repeat (first | (with_reducible first | exact HB.out | apply zA2 | apply zA0 | apply zA3) | exact HB.out)))); have n2_ := zA1.mk (zAe (by repeat (first | (with_reducible first | exact HB.out | apply zA2 | apply zA0 | apply zA3) | exact HB.out)) hb); clear HO_5; clear HB; have HO_5 := n0_; have HO320 := n1_; have HB := n2_; clear n0_ n1_ n2_; (try clear hb); (try clear hb2); (try clear hk); (try clear hi); (try clear ho0)) | ((with_reducible refine zBk (N := 6) rfl ?_); (try (refine gate_guard (by rfl) ?_; dsimp only)); refine zBj ?hg (N := 6) ?hd (cs := #[.int .i64 0, .slice none 0 0]) (t := 28) ?hr ?_; (case hd => rfl); (case hg => rfl); (case hr => first | (go_simp; done) | (go_simp; rfl)); intro gb321 hg w89 hbox hb; have n0_ := zA1.mk (Kd.zBi (by (with_reducible repeat (first | apply Kd.zAi | apply Kd.zAh | apply Kd.zAp)); exact HO_5.out) hb); have n1_ := zA1.mk (Kd.zBi (by (with_reducible repeat (first | apply Kd.zAi | apply Kd.zAh | apply Kd.zAp)); exact HO320.out) hb); have n2_ := zA1.mk (zAe (by repeat (first | (with_reducible first | exact HB.out | apply zA2 | apply zA0 | apply zA3) | exact HB.out)) hb); have n3_ := zA1.mk (hbox); have n4_ := zA1.mk ((by rw [hg]; exact (zAb (by repeat (first | (with_reducible first | exact HB.out | apply zA2 | apply zA0 | apply zA3) | exact HB.out))) : w.heap.size ≤ gb321)); have n5_ := zA1.mk ((by rw [hg]; exact (zAb (by repeat (first | (with_reducible first | exact HB.out | apply zA2 | apply zA0 | apply zA3) | exact HB.out))) : w.heap.size ≤ gb321)); clear HO_5; clear HO320; clear HB; have HO_5 := n0_; have HO320 := n1_; have HB := n2_; have BK321 := n3_; have GW321 := n4_; have GE321 := n5_; clear n0_ n1_ n2_ n3_ n4_ n5_; clear hb hbox hg; have hcz90_0 : w89.cell? ⟨gb321, 0, none⟩ = some (.int .i64 0) := (zA9 BK321.out 0).trans rfl; have hcz90_1 : w89.cell? ⟨gb321, 1, none⟩ = some (.slice none 0 0) := (zA9 BK321.out 1).trans rfl; have hfz90_0 := zAd BK321.out 0; have hfz90_1 := zAd BK321.out 1; obtain ⟨Ao91, co91, eo91⟩ := Kd.zC5 HO320.out; subst eo91; obtain ⟨Ao92, co92, eo92⟩ := Kd.zC5 HO_5.out; subst eo92) | (go_at_call 10; (with_reducible refine (liaison_Cuts.calls t317 _ _ t318 _ _ t312 t322 t325 _ ?side1 ?side2 ?side3 ?side4 ?side5 A15.out).mono ?_); (case side1 => refine (Kd.zAw (e := 68) (base := w.heap.size) (ok := fun k_ => True) (n := t318.length) (c := co91) ?_).2.2; exact (by (with_reducible repeat (first | apply Kd.zAi | apply Kd.zAh | apply Kd.zAp)); exact (Kd.zC3 (Kd.R_far (p := ⟨gb321, 1, none⟩) (Kd.R_far (p := ⟨gb321, 0, none⟩) (Kd.zCa HO320.out BK321.out (by decide)) (fun _ hk => hk.2) (.int .i64 t317)) (fun _ hk => hk.2) (.slice Ao91 t318.length co91)) (fun _ h_ => h_.1)))); (case side2 => exact (Kd.zAw HO320.out).2.1); (case side3 => refine (Kd.zAw (e := 3) (base := w.heap.size) (ok := fun k_ => True) (n := t312.length) (c := co92) ?_).2.2; exact (by (with_reducible repeat (first | apply Kd.zAi | apply Kd.zAh | apply Kd.zAp)); exact (Kd.zC3 (Kd.R_far (p := ⟨gb321, 1, none⟩) (Kd.R_far (p := ⟨gb321, 0, none⟩) (Kd.zCa HO_5.out BK321.out (by decide)) (fun _ hk => hk.2) (.int .i64 t317)) (fun _ hk => hk.2) (.slice Ao91 t318.length co91)) (fun _ h_ => h_.1)))); (case side4 => exact (Kd.zAw HO_5.out).2.1); (case side5 => exact Kd.zB1 HG.out (by repeat (first | (with_reducible first | exact HB.out | apply zA2 | apply zA0 | apply zA3 | refine zA4 ?_ GE321.out) | exact HB.out))); rintro e w93 ⟨v323, rfl, ho0, hb⟩; have n0_ := zA1.mk (Kd.zBi (by (with_reducible repeat (first | apply Kd.zAi | apply Kd.zAh | apply Kd.zAp)); exact (Kd.zC3 (Kd.R_far (p := ⟨gb321, 1, none⟩) (Kd.R_far (p := ⟨gb321, 0, none⟩) (Kd.zCa HO_5.out BK321.out (by decide)) (fun _ hk => hk.2) (.int .i64 t317)) (fun _ hk => hk.2) (.slice Ao91 t318.length co91)) (fun _ h_ => h_.1))) hb); have n1_ := zA1.mk (Kd.zBi (by (with_reducible repeat (first | apply Kd.zAi | apply Kd.zAh | apply Kd.zAp)); exact (Kd.zC3 (Kd.R_far (p := ⟨gb321, 1, none⟩) (Kd.R_far (p := ⟨gb321, 0, none⟩) (Kd.zCa HO320.out BK321.out (by decide)) (fun _ hk => hk.2) (.int .i64 t317)) (fun _ hk => hk.2) (.slice Ao91 t318.length co91)) (fun _ h_ => h_.1))) hb); have n2_ := zA1.mk (Kd.N_lower (Kd.N_mono (ok' := fun k_ => some k_ ≠ (.slice Ao92 t312.length co92 : Value).ownBlock ∧ some k_ ≠ (.slice Ao91 t318.length co91 : Value).ownBlock ∧ k_ ≠ gb321) (Kd.S_N (Kd.S_bound ho0)) (fun k_ hk_ => ⟨(Kd.fresh' (Kd.R_lt (by (with_reducible repeat (first | apply Kd.zAi | apply Kd.zAh | apply Kd.zAp)); exact (Kd.zC3 (Kd.R_far (p := ⟨gb321, 1, none⟩) (Kd.R_far (p := ⟨gb321, 0, none⟩) (Kd.zCa HO_5.out BK321.out (by decide)) (fun _ hk => hk.2) (.int .i64 t317)) (fun _ hk => hk.2) (.slice Ao91 t318.length co91)) (fun _ h_ => h_.1)))) k_ hk_.2.1), (Kd.fresh' (Kd.R_lt (by (with_reducible repeat (first | apply Kd.zAi | apply Kd.zAh | apply Kd.zAp)); exact (Kd.zC3 (Kd.R_far (p := ⟨gb321, 1, none⟩) (Kd.R_far (p := ⟨gb321, 0, none⟩) (Kd.zCa HO320.out BK321.out (by decide)) (fun _ hk => hk.2) (.int .i64 t317)) (fun _ hk => hk.2) (.slice Ao91 t318.length co91)) (fun _ h_ => h_.1)))) k_ hk_.2.1), (Kd.freshB (g := gb321) (o := .cells #[.int .i64 t317, .slice Ao91 t318.length co91] 28 (0, 0)) (by (with_reducible repeat (first | refine zA6 ?_ _ | refine zA8 ?_ | refine zA5 ?_ _)); refine zCj (cs := #[.int .i64 t317, .slice none 0 0]) ?_ 1 _ rfl; (with_reducible repeat (first | refine zA6 ?_ _ | refine zA8 ?_ | refine zA5 ?_ _)); refine zCj (cs := #[.int .i64 0, .slice none 0 0]) ?_ 0 _ rfl; (with_reducible repeat (first | refine zA6 ?_ _ | refine zA8 ?_ | refine zA5 ?_ _)); exact BK321.out) k_ hk_.2.1)⟩)) (zAb (by repeat (first | (with_reducible first | exact HB.out | apply zA2 | apply zA0 | apply zA3 | refine zA4 ?_ GE321.out) | exact HB.out)))); have n3_ := zA1.mk (zAt (g := gb321) (o := .cells #[.int .i64 t317, .slice Ao91 t318.length co91] 28 (0, 0)) (by (with_reducible repeat (first | refine zA6 ?_ _ | refine zA8 ?_ | refine zA5 ?_ _)); refine zCj (cs := #[.int .i64 t317, .slice none 0 0]) ?_ 1 _ rfl; (with_reducible repeat (first | refine zA6 ?_ _ | refine zA8 ?_ | refine zA5 ?_ _)); refine zCj (cs := #[.int .i64 0, .slice none 0 0]) ?_ 0 _ rfl; (with_reducible repeat (first | refine zA6 ?_ _ | refine zA8 ?_ | refine zA5 ?_ _)); exact BK321.out) hb); have n4_ := zA1.mk (zAe (by repeat (first | (with_reducible first | exact HB.out | apply zA2 | apply zA0 | apply zA3 | refine zA4 ?_ GE321.out) | exact HB.out)) hb); clear HO_5; clear HO320; clear BK321; clear HB; have HO_5 := n0_; have HO320 := n1_; have HO324 := n2_; have BK321 := n3_; have HB := n4_; clear n0_ n1_ n2_ n3_ n4_; (try clear hb); (try clear hb2); (try clear hk); (try clear hi); (try clear ho0); have hcz94_0 : w93.cell? ⟨gb321, 0, none⟩ = some (.int .i64 t317) := (zA9 BK321.out 0).trans rfl; have hcz94_1 : w93.cell? ⟨gb321, 1, none⟩ = some (.slice Ao91 t318.length co91) := (zA9 BK321.out 1).trans rfl; have hfz94_0 := zAd BK321.out 0; have hfz94_1 := zAd BK321.out 1) | (go_at_call 11; (with_reducible refine (zB2.calls kj3 t317 _ _ t318 _ _ t312 t326 t329 _ ?side1 ?side2 ?side3 ?side4 ?side5 A16.out).mono ?_); (case side1 => repeat (first | exact (Kd.zAw HO320.out).2.2 | (with_reducible refine Kd.zAf ?_ _) | (with_reducible refine Kd.zAk ?_ _) | (with_reducible refine Kd.zAv ?_))); (case side2 => exact (Kd.zAw HO320.out).2.1); (case side3 => repeat (first | exact (Kd.zAw HO_5.out).2.2 | (with_reducible refine Kd.zAf ?_ _) | (with_reducible refine Kd.zAk ?_ _) | (with_reducible refine Kd.zAv ?_))); (case side4 => exact (Kd.zAw HO_5.out).2.1); (case side5 => repeat (first | exact (Kd.zB1 HG.out HB.out) | (with_reducible refine Kd.zAf ?_ _) | (with_reducible refine Kd.zAk ?_ _) | (with_reducible refine Kd.zAv ?_))); rintro e w95 ⟨v327, rfl, ho0, hb⟩; have n0_ := zA1.mk (Kd.R_elder' (by (with_reducible repeat (first | apply Kd.zAi | apply Kd.zAh | apply Kd.zAp)); exact HO_5.out) (Kd.R_base ho0) hb); have n1_ := zA1.mk (Kd.zBi (by (with_reducible repeat (first | apply Kd.zAi | apply Kd.zAh | apply Kd.zAp)); exact HO320.out) hb); have n2_ := zA1.mk (Kd.N_elder' (by (with_reducible repeat (first | apply Kd.zBm | apply Kd.zBl | apply Kd.zBv)); exact HO324.out) (Kd.R_base ho0) hb); have n3_ := zA1.mk (Kd.zCk (Kd.R_new' ho0 (Kd.R_lt (by (with_reducible repeat (first | apply Kd.zAi | apply Kd.zAh | apply Kd.zAp)); exact HO_5.out))) (zAb (by repeat (first | (with_reducible first | exact HB.out | apply zA2 | apply zA0 | apply zA3 | refine zA4 ?_ GE321.out) | exact HB.out)))); have n4_ := zA1.mk (zAt (g := gb321) (o := .cells #[.int .i64 t317, .slice Ao91 t318.length co91] 28 (0, 0)) (by (with_reducible repeat (first | refine zA6 ?_ _ | refine zA8 ?_ | refine zA5 ?_ _)); exact BK321.out) hb); have n5_ := zA1.mk (zAe (by repeat (first | (with_reducible first | exact HB.out | apply zA2 | apply zA0 | apply zA3 | refine zA4 ?_ GE321.out) | exact HB.out)) hb); clear HO_5; clear HO320; clear HO324; clear BK321; clear HB; have HO_5 := n0_; have HO320 := n1_; have HO324 := n2_; have HO328 := n3_; have BK321 := n4_; have HB := n5_; clear n0_ n1_ n2_ n3_ n4_ n5_; (try clear hb); (try clear hb2); (try clear hk); (try clear hi); (try clear ho0); have hcz96_0 : w95.cell? ⟨gb321, 0, none⟩ = some (.int .i64 t317) := (zA9 BK321.out 0).trans rfl; have hcz96_1 : w95.cell? ⟨gb321, 1, none⟩ = some (.slice Ao91 t318.length co91) := (zA9 BK321.out 1).trans rfl; have hfz96_0 := zAd BK321.out 0; have hfz96_1 := zAd BK321.out 1) | (go_at_call 12; (with_reducible refine (zAm.calls kj3 t317 _ _ t318 _ _ t312 false _ ?side1 ?side2 ?side3 ?side4 A17.out).mono ?_); (case side1 => repeat (first | exact (Kd.zAw HO320.out).2.2 | (with_reducible refine Kd.zAf ?_ _) | (with_reducible refine Kd.zAk ?_ _) | (with_reducible refine Kd.zAv ?_))); (case side2 => exact (Kd.zAw HO320.out).2.1); (case side3 => repeat (first | exact (Kd.zAw HO_5.out).2.2 | (with_reducible refine Kd.zAf ?_ _) | (with_reducible refine Kd.zAk ?_ _) | (with_reducible refine Kd.zAv ?_))); (case side4 => exact (Kd.zAw HO_5.out).2.1); rintro e w97 ⟨rfl, hb⟩; have n0_ := zA1.mk (Kd.zBi (by (with_reducible repeat (first | apply Kd.zAi | apply Kd.zAh | apply Kd.zAp)); exact HO_5.out) hb); have n1_ := zA1.mk (Kd.zBi (by (with_reducible repeat (first | apply Kd.zAi | apply Kd.zAh | apply Kd.zAp)); exact HO320.out) hb); have n2_ := zA1.mk (Kd.N_below (by (with_reducible repeat (first | apply Kd.zBm | apply Kd.zBl | apply Kd.zBv)); exact HO324.out) hb); have n3_ := zA1.mk (Kd.zBi (by (with_reducible repeat (first | apply Kd.zAi | apply Kd.zAh | apply Kd.zAp)); exact HO328.out) hb); have n4_ := zA1.mk (zAt (g := gb321) (o := .cells #[.int .i64 t317, .slice Ao91 t318.length co91] 28 (0, 0)) (by (with_reducible repeat (first | refine zA6 ?_ _ | refine zA8 ?_ | refine zA5 ?_ _)); exact BK321.out) hb); have n5_ := zA1.mk (zAe (by repeat (first | (with_reducible first | exact HB.out | apply zA2 | apply zA0 | apply zA3 | refine zA4 ?_ GE321.out) | exact HB.out)) hb); clear HO_5; clear HO320; clear HO324; clear HO328; clear BK321; clear HB; have HO_5 := n0_; have HO320 := n1_; have HO324 := n2_; have HO328 := n3_; have BK321 := n4_; have HB := n5_; clear n0_ n1_ n2_ n3_ n4_ n5_; (try clear hb); (try clear hb2); (try clear hk); (try clear hi); obtain ⟨Ao98, co98, eo98⟩ := Kd.N_slice HO324.out; subst eo98))
       go_ret
       exact ⟨by first | rfl | (simp [zAy, zAx] <;> rfl) | (simp [*, zAy, zAx] <;> rfl), by repeat (first | (with_reducible first | exact HB.out | apply zA2 | apply zA0 | apply zA3 | refine zA4 ?_ GE321.out) | exact HB.out)⟩
     ·rw [if_neg c61] at H
      have c61b0 : ((t322.length : Int) == 0) = false := beq_eq_false_iff_ne.mpr c61
      have c61b1 : ((t322.length : Int) != 0) = true := bne_iff_ne.mpr c61
      have c61b2 : ¬ (t322 = []) := fun h_ => c61 (by rw [h_]; rfl)
      obtain rfl := Option.some.inj H
      go_wp2_with (first | (go_at_call 9; (with_reducible refine (zAn.calls kj3 a0 t317 t318 _ A14.out).mono ?_); rintro e w99 ⟨v319, rfl, ho0, hb⟩; have n0_ := zA1.mk (Kd.zBi (by (with_reducible repeat (first | apply Kd.zAi | apply Kd.zAh | apply Kd.zAp)); exact HO_5.out) hb); have n1_ := zA1.mk (Kd.zCk ho0 (zAb (by repeat (first | (with_reducible first | exact HB.out | apply zA2 | apply zA0 | apply zA3) | exact HB.out)))); have n2_ := zA1.mk (zAe (by repeat (first | (with_reducible first | exact HB.out | apply zA2 | apply zA0 | apply zA3) | exact HB.out)) hb); clear HO_5; clear HB; have HO_5 := n0_; have HO320 := n1_; have HB := n2_; clear n0_ n1_ n2_; (try clear hb); (try clear hb2); (try clear hk); (try clear hi); (try clear ho0)) | ((with_reducible refine zBk (N := 6) rfl ?_); (try (refine gate_guard (by rfl) ?_; dsimp only)); refine zBj ?hg (N := 6) ?hd (cs := #[.int .i64 0, .slice none 0 0]) (t := 28) ?hr ?_; (case hd => rfl); (case hg => rfl); (case hr => first | (go_simp; done) | (go_simp; rfl)); intro gb321 hg w100 hbox hb; have n0_ := zA1.mk (Kd.zBi (by (with_reducible repeat (first | apply Kd.zAi | apply Kd.zAh | apply Kd.zAp)); exact HO_5.out) hb); have n1_ := zA1.mk (Kd.zBi (by (with_reducible repeat (first | apply Kd.zAi | apply Kd.zAh | apply Kd.zAp)); exact HO320.out) hb); have n2_ := zA1.mk (zAe (by repeat (first | (with_reducible first | exact HB.out | apply zA2 | apply zA0 | apply zA3) | exact HB.out)) hb); have n3_ := zA1.mk (hbox); have n4_ := zA1.mk ((by rw [hg]; exact (zAb (by repeat (first | (with_reducible first | exact HB.out | apply zA2 | apply zA0 | apply zA3) | exact HB.out))) : w.heap.size ≤ gb321)); have n5_ := zA1.mk ((by rw [hg]; exact (zAb (by repeat (first | (with_reducible first | exact HB.out | apply zA2 | apply zA0 | apply zA3) | exact HB.out))) : w.heap.size ≤ gb321)); clear HO_5; clear HO320; clear HB; have HO_5 := n0_; have HO320 := n1_; have HB := n2_; have BK321 := n3_; have GW321 := n4_; have GE321 := n5_; clear n0_ n1_ n2_ n3_ n4_ n5_; clear hb hbox hg; have hcz101_0 : w100.cell? ⟨gb321, 0, none⟩ = some (.int .i64 0) := (zA9 BK321.out 0).trans rfl; have hcz101_1 : w100.cell? ⟨gb321, 1, none⟩ = some (.slice none 0 0) := (zA9 BK321.out 1).trans rfl; have hfz101_0 := zAd BK321.out 0; have hfz101_1 := zAd BK321.out 1; obtain ⟨Ao102, co102, eo102⟩ := Kd.zC5 HO320.out; subst eo102; obtain ⟨Ao103, co103, eo103⟩ := Kd.zC5 HO_5.out; subst eo103) | (go_at_call 10; (with_reducible refine (liaison_Cuts.calls t317 _ _ t318 _ _ t312 t322 t325 _ ?side1 ?side2 ?side3 ?side4 ?side5 A15.out).mono ?_); (case side1 => refine (Kd.zAw (e := 68) (base := w.heap.size) (ok := fun k_ => True) (n := t318.length) (c := co102) ?_).2.2; exact (by (with_reducible repeat (first | apply Kd.zAi | apply Kd.zAh | apply Kd.zAp)); exact (Kd.zC3 (Kd.R_far (p := ⟨gb321, 1, none⟩) (Kd.R_far (p := ⟨gb321, 0, none⟩) (Kd.zCa HO320.out BK321.out (by decide)) (fun _ hk => hk.2) (.int .i64 t317)) (fun _ hk => hk.2) (.slice Ao102 t318.length co102)) (fun _ h_ => h_.1)))); (case side2 => exact (Kd.zAw HO320.out).2.1); (case side3 => refine (Kd.zAw (e := 3) (base := w.heap.size) (ok := fun k_ => True) (n := t312.length) (c := co103) ?_).2.2; exact (by (with_reducible repeat (first | apply Kd.zAi | apply Kd.zAh | apply Kd.zAp)); exact (Kd.zC3 (Kd.R_far (p := ⟨gb321, 1, none⟩) (Kd.R_far (p := ⟨gb321, 0, none⟩) (Kd.zCa HO_5.out BK321.out (by decide)) (fun _ hk => hk.2) (.int .i64 t317)) (fun _ hk => hk.2) (.slice Ao102 t318.length co102)) (fun _ h_ => h_.1)))); (case side4 => exact (Kd.zAw HO_5.out).2.1); (case side5 => exact Kd.zB1 HG.out (by repeat (first | (with_reducible first | exact HB.out | apply zA2 | apply zA0 | apply zA3 | refine zA4 ?_ GE321.out) | exact HB.out))); rintro e w104 ⟨v323, rfl, ho0, hb⟩; have n0_ := zA1.mk (Kd.zBi (by (with_reducible repeat (first | apply Kd.zAi | apply Kd.zAh | apply Kd.zAp)); exact (Kd.zC3 (Kd.R_far (p := ⟨gb321, 1, none⟩) (Kd.R_far (p := ⟨gb321, 0, none⟩) (Kd.zCa HO_5.out BK321.out (by decide)) (fun _ hk => hk.2) (.int .i64 t317)) (fun _ hk => hk.2) (.slice Ao102 t318.length co102)) (fun _ h_ => h_.1))) hb); have n1_ := zA1.mk (Kd.zBi (by (with_reducible repeat (first | apply Kd.zAi | apply Kd.zAh | apply Kd.zAp)); exact (Kd.zC3 (Kd.R_far (p := ⟨gb321, 1, none⟩) (Kd.R_far (p := ⟨gb321, 0, none⟩) (Kd.zCa HO320.out BK321.out (by decide)) (fun _ hk => hk.2) (.int .i64 t317)) (fun _ hk => hk.2) (.slice Ao102 t318.length co102)) (fun _ h_ => h_.1))) hb); have n2_ := zA1.mk (Kd.N_lower (Kd.N_mono (ok' := fun k_ => some k_ ≠ (.slice Ao103 t312.length co103 : Value).ownBlock ∧ some k_ ≠ (.slice Ao102 t318.length co102 : Value).ownBlock ∧ k_ ≠ gb321) (Kd.S_N (Kd.S_bound ho0)) (fun k_ hk_ => ⟨(Kd.fresh' (Kd.R_lt (by (with_reducible repeat (first | apply Kd.zAi | apply Kd.zAh | apply Kd.zAp)); exact (Kd.zC3 (Kd.R_far (p := ⟨gb321, 1, none⟩) (Kd.R_far (p := ⟨gb321, 0, none⟩) (Kd.zCa HO_5.out BK321.out (by decide)) (fun _ hk => hk.2) (.int .i64 t317)) (fun _ hk => hk.2) (.slice Ao102 t318.length co102)) (fun _ h_ => h_.1)))) k_ hk_.2.1), (Kd.fresh' (Kd.R_lt (by (with_reducible repeat (first | apply Kd.zAi | apply Kd.zAh | apply Kd.zAp)); exact (Kd.zC3 (Kd.R_far (p := ⟨gb321, 1, none⟩) (Kd.R_far (p := ⟨gb321, 0, none⟩) (Kd.zCa HO320.out BK321.out (by decide)) (fun _ hk => hk.2) (.int .i64 t317)) (fun _ hk => hk.2) (.slice Ao102 t318.length co102)) (fun _ h_ => h_.1)))) k_ hk_.2.1), (Kd.freshB (g := gb321) (o := .cells #[.int .i64 t317, .slice Ao102 t318.length co102] 28 (0, 0)) (by (with_reducible repeat (first | refine zA6 ?_ _ | refine zA8 ?_ | refine zA5 ?_ _)); refine zCj (cs := #[.int .i64 t317, .slice none 0 0]) ?_ 1 _ rfl; (with_reducible repeat (first | refine zA6 ?_ _ | refine zA8 ?_ | refine zA5 ?_ _)); refine zCj (cs := #[.int .i64 0, .slice none 0 0]) ?_ 0 _ rfl; (with_reducible repeat (first | refine zA6 ?_ _ | refine zA8 ?_ | refine zA5 ?_ _)); exact BK321.out) k_ hk_.2.1)⟩)) (zAb (by repeat (first | (with_reducible first | exact HB.out | apply zA2 | apply zA0 | apply zA3 | refine zA4 ?_ GE321.out) | exact HB.out)))); have n3_ := zA1.mk (zAt (g := gb321) (o := .cells #[.int .i64 t317, .slice Ao102 t318.length co102] 28 (0, 0)) (by (with_reducible repeat (first | refine zA6 ?_ _ | refine zA8 ?_ | refine zA5 ?_ _)); refine zCj (cs := #[.int .i64 t317, .slice none 0 0]) ?_ 1 _ rfl; (with_reducible repeat (first | refine zA6 ?_ _ | refine zA8 ?_ | refine zA5 ?_ _)); refine zCj (cs := #[.int .i64 0, .slice none 0 0]) ?_ 0 _ rfl; (with_reducible repeat (first | refine zA6 ?_ _ | refine zA8 ?_ | refine zA5 ?_ _)); exact BK321.out) hb); have n4_ := zA1.mk (zAe (by repeat (first | (with_reducible first | exact HB.out | apply zA2 | apply zA0 | apply zA3 | refine zA4 ?_ GE321.out) | exact HB.out)) hb); clear HO_5; clear HO320; clear BK321; clear HB; have HO_5 := n0_; have HO320 := n1_; have HO324 := n2_; have BK321 := n3_; have HB := n4_; clear n0_ n1_ n2_ n3_ n4_; (try clear hb); (try clear hb2); (try clear hk); (try clear hi); (try clear ho0); have hcz105_0 : w104.cell? ⟨gb321, 0, none⟩ = some (.int .i64 t317) := (zA9 BK321.out 0).trans rfl; have hcz105_1 : w104.cell? ⟨gb321, 1, none⟩ = some (.slice Ao102 t318.length co102) := (zA9 BK321.out 1).trans rfl; have hfz105_0 := zAd BK321.out 0; have hfz105_1 := zAd BK321.out 1) | (go_at_call 11; (with_reducible refine (zB2.calls kj3 t317 _ _ t318 _ _ t312 t326 t329 _ ?side1 ?side2 ?side3 ?side4 ?side5 A16.out).mono ?_); (case side1 => repeat (first | exact (Kd.zAw HO320.out).2.2 | (with_reducible refine Kd.zAf ?_ _) | (with_reducible refine Kd.zAk ?_ _) | (with_reducible refine Kd.zAv ?_))); (case side2 => exact (Kd.zAw HO320.out).2.1); (case side3 => repeat (first | exact (Kd.zAw HO_5.out).2.2 | (with_reducible refine Kd.zAf ?_ _) | (with_reducible refine Kd.zAk ?_ _) | (with_reducible refine Kd.zAv ?_))); (case side4 => exact (Kd.zAw HO_5.out).2.1); (case side5 => repeat (first | exact (Kd.zB1 HG.out HB.out) | (with_reducible refine Kd.zAf ?_ _) | (with_reducible refine Kd.zAk ?_ _) | (with_reducible refine Kd.zAv ?_))); rintro e w106 ⟨v327, rfl, ho0, hb⟩; have n0_ := zA1.mk (Kd.R_elder' (by (with_reducible repeat (first | apply Kd.zAi | apply Kd.zAh | apply Kd.zAp)); exact HO_5.out) (Kd.R_base ho0) hb); have n1_ := zA1.mk (Kd.zBi (by (with_reducible repeat (first | apply Kd.zAi | apply Kd.zAh | apply Kd.zAp)); exact HO320.out) hb); have n2_ := zA1.mk (Kd.N_elder' (by (with_reducible repeat (first | apply Kd.zBm | apply Kd.zBl | apply Kd.zBv)); exact HO324.out) (Kd.R_base ho0) hb); have n3_ := zA1.mk (Kd.zCk (Kd.R_new' ho0 (Kd.R_lt (by (with_reducible repeat (first | apply Kd.zAi | apply Kd.zAh | apply Kd.zAp)); exact HO_5.out))) (zAb (by repeat (first | (with_reducible first | exact HB.out | apply zA2 | apply zA0 | apply zA3 | refine zA4 ?_ GE321.out) | exact HB.out)))); have n4_ := zA1.mk (zAt (g := gb321) (o := .cells #[.int .i64 t317, .slice Ao102 t318.length co102] 28 (0, 0)) (by (with_reducible repeat (first | refine zA6 ?_ _ | refine zA8 ?_ | refine zA5 ?_ _)); exact BK321.out) hb); have n5_ := zA1.mk (zAe (by repeat (first | (with_reducible first | exact HB.out | apply zA2 | apply zA0 | apply zA3 | refine zA4 ?_ GE321.out) | exact HB.out)) hb); clear HO_5; clear HO320; clear HO324; clear BK321; clear HB; have HO_5 := n0_; have HO320 := n1_; have HO324 := n2_; have HO328 := n3_; have BK321 := n4_; have HB := n5_; clear n0_ n1_ n2_ n3_ n4_ n5_; (try clear hb); (try clear hb2); (try clear hk); (try clear hi); (try clear ho0); have hcz107_0 : w106.cell? ⟨gb321, 0, none⟩ = some (.int .i64 t317) := (zA9 BK321.out 0).trans rfl; have hcz107_1 : w106.cell? ⟨gb321, 1, none⟩ = some (.slice Ao102 t318.length co102) := (zA9 BK321.out 1).trans rfl; have hfz107_0 := zAd BK321.out 0; have hfz107_1 := zAd BK321.out 1) | (go_at_call 12; (with_reducible refine (zAm.calls kj3 t317 _ _ t318 _ _ t312 false _ ?side1 ?side2 ?side3 ?side4 A17.out).mono ?_); (case side1 => repeat (first | exact (Kd.zAw HO320.out).2.2 | (with_reducible refine Kd.zAf ?_ _) | (with_reducible refine Kd.zAk ?_ _) | (with_reducible refine Kd.zAv ?_))); (case side2 => exact (Kd.zAw HO320.out).2.1); (case side3 => repeat (first | exact (Kd.zAw HO_5.out).2.2 | (with_reducible refine Kd.zAf ?_ _) | (with_reducible refine Kd.zAk ?_ _) | (with_reducible refine Kd.zAv ?_))); (case side4 => exact (Kd.zAw HO_5.out).2.1); rintro e w108 ⟨rfl, hb⟩; have n0_ := zA1.mk (Kd.zBi (by (with_reducible repeat (first | apply Kd.zAi | apply Kd.zAh | apply Kd.zAp)); exact HO_5.out) hb); have n1_ := zA1.mk (Kd.zBi (by (with_reducible repeat (first | apply Kd.zAi | apply Kd.zAh | apply Kd.zAp)); exact HO320.out) hb); have n2_ := zA1.mk (Kd.N_below (by (with_reducible repeat (first | apply Kd.zBm | apply Kd.zBl | apply Kd.zBv)); exact HO324.out) hb); have n3_ := zA1.mk (Kd.zBi (by (with_reducible repeat (first | apply Kd.zAi | apply Kd.zAh | apply Kd.zAp)); exact HO328.out) hb); have n4_ := zA1.mk (zAt (g := gb321) (o := .cells #[.int .i64 t317, .slice Ao102 t318.length co102] 28 (0, 0)) (by (with_reducible repeat (first | refine zA6 ?_ _ | refine zA8 ?_ | refine zA5 ?_ _)); exact BK321.out) hb); have n5_ := zA1.mk (zAe (by repeat (first | (with_reducible first | exact HB.out | apply zA2 | apply zA0 | apply zA3 | refine zA4 ?_ GE321.out) | exact HB.out)) hb); clear HO_5; clear HO320; clear HO324; clear HO328; clear BK321; clear HB; have HO_5 := n0_; have HO320 := n1_; have HO324 := n2_; have HO328 := n3_; have BK321 := n4_; have HB := n5_; clear n0_ n1_ n2_ n3_ n4_ n5_; (try clear hb); (try clear hb2); (try clear hk); (try clear hi); obtain ⟨Ao109, co109, eo109⟩ := Kd.N_slice HO324.out; subst eo109))
      go_ret
      exact ⟨by first | rfl | (simp [zAy, zAx] <;> rfl) | (simp [*, zAy, zAx] <;> rfl), by repeat (first | (with_reducible first | exact HB.out | apply zA2 | apply zA0 | apply zA3 | refine zA4 ?_ GE321.out) | exact HB.out)⟩
end
end Go.Proofs.YtbghfbhlbfcloaaDoor.PL
namespace Go.Proofs.YtbghfbhlbfcloaaDoor.PL
section
set_option linter.unusedVariables false
set_option linter.unusedSimpArgs false
open Go.RowKit Go.Proofs.YtbghfbhlbfcloaaDoorW.PrintWords Go.Proofs.YtbghfbhlbfcloaaDoorW.PrintLast Go.Proofs.YtbghfbhlbfcloaaDoorW.PrintMore

/-! ### the reference's cuts -/
theorem sub_tab : ((List.range 64).all fun m => (SB m).all fun x => (decide (lo x = lo m) == x.testBit (lo m)) && (decide ((EI x).length < (EI m).length) == (wo m x != 0))) = true := by kernel_rfl
theorem sub_f {m x : Nat} (hm : m < 64) (hx : x ∈ SO m) : decide (lo x = lo m) = x.testBit (lo m) ∧ decide ((EI x).length < (EI m).length) = (wo m x != 0) := by
 have h := List.all_eq_true.1 (List.all_eq_true.1 sub_tab m (List.mem_range.2 hm)) x ((isort_perm leM (SB m)).mem_iff.1 hx)
 simp only [Bool.and_eq_true, beq_iff_eq] at h
 exact h
theorem EI_head {m : Nat} (hm : m < 64) (h0 : m ≠ 0) : rd (EI m) 0 = ((lo m : Nat) : Int) := by
 obtain ⟨_, l2, l3, l4⟩ := lo_f m hm h0
 have hhead : (EI m).head? = some ((lo m : Nat) : Int) := by unfold EI; rw [List.head?_map, l4]; rfl
 have hlen := EI_pos hm h0
 have := rdI (EI m) 0 hlen
 rw [show ((0 : Nat) : Int) = 0 from rfl] at this
 rw [this]
 rw [List.head?_eq_getElem?, List.getElem?_eq_getElem hlen] at hhead
 exact Option.some.inj hhead
theorem rd6 (l : List Nat) (i : Nat) (h : i < l.length) : rd_L6 (l.map EI) (i : Int) = EI l[i] := by
 unfold rd_L6
 rw [Int.toNat_natCast, List.getD_eq_getElem?_getD, List.getElem?_map, List.getElem?_eq_getElem h]; rfl
theorem cuts_l {A : List Nat} {E : List S68} (hA : Gd A) (hE : Ed A E) {m : Nat} (hm : m < 64) (h0 : m ≠ 0) (n : Int) (l : List Nat) (hl : l.length ≤ 64) (hs : ∀ x ∈ l, x ∈ SO m ∧ wo m x ≠ 0) : ∀ (c i : Nat) (out : List S41), i + c = l.length → out.length ≤ i → ∀ k, 300 + c ≤ k →
  zAo.l0 k (EI m) out (l.map EI) (i : Int) n E = some (out ++ ((l.drop i).filter (cutQ A m)).map (cutOf m))
 | 0, i, out, hi, ho, k, hk => by
  obtain ⟨k, rfl⟩ : ∃ q, k = q + 1 := ⟨k - 1, by omega⟩
  have hlm : (l.map EI).length = l.length := List.length_map _
  rw [zAo.l0, if_neg (by omega), List.drop_eq_nil_of_le (by omega)]
  simp
 | c + 1, i, out, hi, ho, k, hk => by
  obtain ⟨k, rfl⟩ : ∃ q, k = q + 1 := ⟨k - 1, by omega⟩
  have hlm : (l.map EI).length = l.length := List.length_map _
  have hlt : i < l.length := by omega
  obtain ⟨hx, hw⟩ := hs l[i] (List.getElem_mem hlt)
  obtain ⟨hx1, hx2, hx3⟩ := SO_mem.1 hx
  have hml := EI_len m
  have hxl := EI_len l[i]
  have hmp := EI_pos hm h0
  have hxp := EI_pos hx1 hx2
  have hlo := (sub_f hm hx).1
  rw [zAo.l0, if_pos (by omega), if_pos (by omega), rd6 l i hlt, without_f k (EI m) (EI l[i]) (by omega) (by omega) (by omega), Option.bind_some, EI_wo, if_pos (by omega), if_pos (by omega), EI_head hx1 hx2, EI_head hm h0, wr1 i (by omega), List.drop_eq_getElem_cons hlt]
  by_cases hq : lo l[i] = lo m
  ·rw [decide_eq_true hq] at hlo
   rw [if_pos (by rw [hq]), rcB_f hA hE n (wo_lt m l[i] hm) hw k (by omega), Option.bind_some]
   have hc : cutQ A m l[i] = cB A (wo m l[i]) := by
    unfold cutQ
    rw [← hlo, bne_iff_ne.2 hw]
    rfl
   cases e : cB A (wo m l[i]) with
   | true =>
    rw [if_pos rfl, if_pos (by omega), List.filter_cons_of_pos (by rw [hc, e]), List.map_cons]
    have ih := cuts_l hA hE hm h0 n l hl hs c (i + 1) (out ++ [cutOf m l[i]]) (by omega) (by simp; omega) k (by omega)
    rw [List.append_assoc] at ih
    exact ih
   | false =>
    rw [if_neg (by decide), List.filter_cons_of_neg (by rw [hc, e]; decide)]
    exact cuts_l hA hE hm h0 n l hl hs c (i + 1) out (by omega) (by omega) k (by omega)
  ·rw [decide_eq_false hq] at hlo
   rw [if_neg (by omega), List.filter_cons_of_neg (by unfold cutQ; rw [← hlo]; simp)]
   exact cuts_l hA hE hm h0 n l hl hs c (i + 1) out (by omega) (by omega) k (by omega)
theorem cuts_f {A : List Nat} {E : List S68} (hA : Gd A) (hE : Ed A E) {m : Nat} (hm : m < 64) (h0 : m ≠ 0) (n : Int) (k : Nat) (hk : 14000 ≤ k) : zAo.f k n E (EI m) = some ((cutsM A m).map (cutOf m)) := by
 have hml := EI_len m
 have hmp := EI_pos hm h0
 have e1 : wrap64 (((EI m).length : Int) - 1) = ((EI m).length : Int) - 1 := by unfold wrap64; omega
 unfold zAo.f
 rw [e1, subsets_f _ hA hE hm n k hk, Option.bind_some]
 have hlen := SO_len m
 have hf := List.length_filter_le (kp A (((EI m).length : Int) - 1)) (SO m)
 have hkp : ∀ x ∈ SO m, kp A (((EI m).length : Int) - 1) x = ((wo m x != 0) && cB A x) := by
  intro x hx
  unfold kp
  rw [← (sub_f hm hx).2]
  congr 1
  exact decide_eq_decide.2 (by omega)
 have h := cuts_l hA hE hm h0 n ((SO m).filter (kp A (((EI m).length : Int) - 1))) (by omega) (fun x hx => by
  obtain ⟨h1, h2⟩ := List.mem_filter.1 hx
  rw [hkp x h1, Bool.and_eq_true] at h2
  exact ⟨h1, bne_iff_ne.1 h2.1⟩) _ 0 [] (Nat.zero_add _) (by simp) k (by omega)
 have h' : zAo.l0 k (EI m) [] (((SO m).filter (kp A (((EI m).length : Int) - 1))).map EI) 0 n E = some (((((SO m).filter (kp A (((EI m).length : Int) - 1))).drop 0).filter (cutQ A m)).map (cutOf m)) := h
 rw [h', List.drop_zero, List.filter_filter]
 congr 2
 unfold cutsM
 refine List.filter_congr fun x hx => ?_
 rw [hkp x hx]
 unfold cutQ
 cases x.testBit (lo m) <;> cases (wo m x != 0) <;> cases cB A x <;> cases cB A (wo m x) <;> rfl

/-! ### joints -/
def jnB (A : List Nat) (m i : Nat) : Bool := !cB A (wo m (2 ^ i))
def jn (A : List Nat) (m : Nat) (s : List Nat) : List Int := if 2 < (EI m).length then (s.filter (jnB A m)).map fun i : Nat => (i : Int) else []
theorem one_tab : ((List.range 6).all fun i => EI (2 ^ i) == [((i : Nat) : Int)]) = true := by kernel_rfl
theorem one_f (i : Nat) (hi : i < 6) : EI (2 ^ i) = [((i : Nat) : Int)] := by
 have h := List.all_eq_true.1 one_tab i (List.mem_range.2 hi)
 exact eq_of_beq h
theorem big_tab : ((List.range 64).all fun m => (List.range 6).all fun i => !(decide (2 < (EI m).length)) || (wo m (2 ^ i) != 0)) = true := by kernel_rfl
theorem big_f {m i : Nat} (hm : m < 64) (hi : i < 6) (h : 2 < (EI m).length) : wo m (2 ^ i) ≠ 0 := by
 have h1 := List.all_eq_true.1 (List.all_eq_true.1 big_tab m (List.mem_range.2 hm)) i (List.mem_range.2 hi)
 rw [decide_eq_true h] at h1
 exact bne_iff_ne.1 h1
theorem rdEl {m i : Nat} (h : i < (El m).length) : rd (EI m) (i : Int) = (((El m)[i] : Nat) : Int) := by
 have hl : i < (EI m).length := by unfold EI; rw [List.length_map]; exact h
 rw [rdI _ i hl]
 exact List.getElem_map _
theorem pow6 {i : Nat} (h : i < 6) : 2 ^ i < 64 := Nat.pow_lt_pow_right (m := i) (n := 6) (by decide) h
theorem joints_l {A : List Nat} (hA : Gd A) {m : Nat} (hm : m < 64) (n : Int) : ∀ (c i : Nat) (out : List Int), i + c = (El m).length → out.length ≤ i → ∀ k, 800 + c ≤ k →
  zB2.l0 k (EI m) (LI A) (m : Int) out (EI m) ((EI m).length : Int) (i : Int) = some (out ++ jn A m ((El m).drop i), 0)
 | 0, i, out, hi, ho, k, hk => by
  obtain ⟨k, rfl⟩ : ∃ q, k = q + 1 := ⟨k - 1, by omega⟩
  have hel : (EI m).length = (El m).length := by unfold EI; exact List.length_map _
  rw [zB2.l0, if_neg (by omega), List.drop_eq_nil_of_le (by omega)]
  unfold jn
  split <;> simp
 | c + 1, i, out, hi, ho, k, hk => by
  obtain ⟨k, rfl⟩ : ∃ q, k = q + 1 := ⟨k - 1, by omega⟩
  have hel : (EI m).length = (El m).length := by unfold EI; exact List.length_map _
  have hml := EI_len m
  have hlt : i < (El m).length := by omega
  have hi6 := (El_mem.1 (List.getElem_mem hlt)).1
  rw [zB2.l0, if_pos (by omega), if_pos (by omega), if_pos (by omega), rdEl hlt, wr1 i (by omega), List.drop_eq_getElem_cons hlt]
  by_cases hb : 2 < (EI m).length
  ·have hw := big_f hm hi6 hb
   rw [if_pos (by omega), if_pos (by omega), shl_f _ hi6, andNotI m _ hm (pow6 hi6), cB_f hA (wo_lt m _ hm) hw k (by omega), Option.bind_some]
   unfold jn
   rw [if_pos hb]
   cases e : cB A (wo m (2 ^ (El m)[i])) with
   | true =>
    rw [if_pos rfl, List.filter_cons_of_neg (by unfold jnB; rw [e]; decide)]
    have ih := joints_l hA hm n c (i + 1) out (by omega) (by omega) k (by omega)
    unfold jn at ih
    rw [if_pos hb] at ih
    exact ih
   | false =>
    rw [if_neg (by decide), if_pos (by omega), List.filter_cons_of_pos (by unfold jnB; rw [e]; rfl), List.map_cons]
    have ih := joints_l hA hm n c (i + 1) (out ++ [(((El m)[i] : Nat) : Int)]) (by omega) (by simp; omega) k (by omega)
    unfold jn at ih
    rw [if_pos hb, List.append_assoc] at ih
    exact ih
  ·rw [if_neg (by omega), joints_l hA hm n c (i + 1) out (by omega) (by omega) k (by omega)]
   unfold jn
   rw [if_neg hb, if_neg hb]
theorem rjoints_l {A : List Nat} {E : List S68} (hA : Gd A) (hE : Ed A E) {m : Nat} (hm : m < 64) (n : Int) : ∀ (c i : Nat) (out : List Int), i + c = (El m).length → out.length ≤ i → ∀ k, 300 + 2 * c ≤ k →
  zAg.l0 k (EI m) out (i : Int) n E = some (out ++ jn A m ((El m).drop i))
 | 0, i, out, hi, ho, k, hk => by
  obtain ⟨k, rfl⟩ : ∃ q, k = q + 2 := ⟨k - 2, by omega⟩
  have hel : (EI m).length = (El m).length := by unfold EI; exact List.length_map _
  rw [zAg.l0, if_neg (by omega), zAg.j1, if_neg (by decide), List.drop_eq_nil_of_le (by omega)]
  unfold jn
  split <;> simp
 | c + 1, i, out, hi, ho, k, hk => by
  obtain ⟨k, rfl⟩ : ∃ q, k = q + 2 := ⟨k - 2, by omega⟩
  have hel : (EI m).length = (El m).length := by unfold EI; exact List.length_map _
  have hml := EI_len m
  have hlt : i < (El m).length := by omega
  have hi6 := (El_mem.1 (List.getElem_mem hlt)).1
  rw [zAg.l0, if_pos (by omega), zAg.j1]
  by_cases hb : 2 < (EI m).length
  ·have hw := big_f hm hi6 hb
   rw [if_pos (decide_eq_true (by omega)), if_pos (by omega), if_pos (by omega), rdEl hlt, ← one_f _ hi6, without_f k (EI m) _ (by omega) (by have := EI_len (2 ^ (El m)[i]); omega) (by have := EI_len (2 ^ (El m)[i]); omega), Option.bind_some, EI_wo, rcB_f hA hE n (wo_lt m _ hm) hw k (by omega), Option.bind_some, wr1 i (by omega), List.drop_eq_getElem_cons hlt, one_f _ hi6]
   unfold jn
   rw [if_pos hb]
   cases e : cB A (wo m (2 ^ (El m)[i])) with
   | true =>
    rw [if_pos rfl, List.filter_cons_of_neg (by unfold jnB; rw [e]; decide)]
    have ih := rjoints_l hA hE hm n c (i + 1) out (by omega) (by omega) k (by omega)
    unfold jn at ih
    rw [if_pos hb] at ih
    exact ih
   | false =>
    rw [if_neg (by decide), if_pos (by omega), List.filter_cons_of_pos (by unfold jnB; rw [e]; rfl), List.map_cons]
    have ih := rjoints_l hA hE hm n c (i + 1) (out ++ [(((El m)[i] : Nat) : Int)]) (by omega) (by simp; omega) k (by omega)
    unfold jn at ih
    rw [if_pos hb, List.append_assoc] at ih
    exact ih
  ·rw [if_neg (by simp; omega)]
   unfold jn
   rw [if_neg hb, List.append_nil]

/-! ### the law -/
theorem lcu_l {m : Nat} (l : List Nat) (hl : l.length ≤ 64) : ∀ (c i : Nat), i + c = l.length → ∀ k, 60 + c ≤ k → zA7.l0 k (l.map (cutOf m)) (l.map (cutOf m)) (i : Int) = some true
 | 0, i, hi, k, hk => by
  obtain ⟨k, rfl⟩ : ∃ q, k = q + 1 := ⟨k - 1, by omega⟩
  have hlm : (l.map (cutOf m)).length = l.length := List.length_map _
  rw [zA7.l0, if_neg (by omega)]
 | c + 1, i, hi, k, hk => by
  obtain ⟨k, rfl⟩ : ∃ q, k = q + 1 := ⟨k - 1, by omega⟩
  have hlm : (l.map (cutOf m)).length = l.length := List.length_map _
  have e : zBu (l.map (cutOf m)) (i : Int) = cutOf m l[i] := by
   unfold zBu
   rw [Int.toNat_natCast, List.getD_eq_getElem?_getD, List.getElem?_map, List.getElem?_eq_getElem (by omega)]; rfl
  have h1 := EI_len l[i]
  have h2 := EI_len (wo m l[i])
  rw [zA7.l0, if_pos (by omega), if_pos (by omega), if_pos (by omega), e, same_f k (cutOf m l[i]).f0 _ (by show (EI l[i]).length < _; omega) (by show (EI l[i]).length < _; omega), Option.bind_some, if_pos (decide_eq_true rfl), same_f k (cutOf m l[i]).f1 _ (by show (EI (wo m l[i])).length < _; omega) (by show (EI (wo m l[i])).length < _; omega), Option.bind_some, if_pos (decide_eq_true rfl), wr1 i (by omega)]
  exact lcu_l l hl c (i + 1) (by omega) k (by omega)
/-- WHATEVER THE BITS: TRUE. -/
theorem cuts_plain (bits set : Int) (h0 : 0 ≤ set) (h1 : set < 256) : zA7.f 20000 bits set = some true := by
 obtain ⟨s, rfl⟩ : ∃ s : Nat, set = (s : Int) := ⟨set.toNat, by omega⟩
 have hs : s < 256 := by omega
 have hm : s % 64 < 64 := Nat.mod_lt _ (by decide)
 unfold zA7.f
 rw [chosen_f 20000 (by decide) s hs, Option.bind_some]
 have hkn : zCh.f = some true := rfl
 rw [hkn, Option.bind_some, if_pos rfl]
 generalize hmm : s % 64 = m at hm
 by_cases hz : m = 0
 ·subst hz
  rfl
 ·have hpos := EI_pos hm hz
  have hel := EI_len m
  have heq : (EI m).length = (El m).length := by unfold EI; exact List.length_map _
  rw [show (((EI m).length : Int) == 0) = false from beq_eq_false_iff_ne.2 (by omega)]
  obtain ⟨A, hA, hlk, hE, hsym⟩ := linked_f (tb bits) CU.k (by decide)
  have hlk2 : zB5.f 19999 6 (Eg (tb bits)) = some (LI A) := up (fun k => zB5.mono 6 (Eg (tb bits)) k) hlk 19999 (by decide)
  have hop := opened_f (tb bits) A m CU.k hm hz (by decide) hlk
  have hop2 := opened_f (tb bits) A m 19999 hm hz (by decide) hlk2
  have hC : liaison_Cuts.f 6 (Eg (tb bits)) (EI m) = some (if cB A m = true then ((cutsM A m).map (cutOf m), 0) else ([], 17)) := CU_plain (tb bits) hA hm hz hop
  have hJ : zB2.f 19999 6 (Eg (tb bits)) (EI m) = some (if cB A m = true then (jn A m (El m), 0) else ([], 17)) := by
   unfold zB2.f
   rw [hop2, Option.bind_some, if_pos rfl, cB_f hA hm hz 19999 (by decide), Option.bind_some]
   cases cB A m with
   | false => rfl
   | true =>
    rw [if_pos rfl, if_pos rfl]
    exact joints_l hA hm 6 (El m).length 0 [] (Nat.zero_add _) (by simp) 19999 (by omega)
  change zA7.j0 (19999 + 1) bits (EI m) false = some true
  rw [zA7.j0, if_neg (by decide), pairs_f bits 19999 (by decide), Option.bind_some, hC, Option.bind_some, hJ, Option.bind_some, rcB_f hA hE 6 hm hz 19999 (by decide), Option.bind_some]
  cases e : cB A m with
  | false => rfl
  | true =>
   have hl : (cutsM A m).length ≤ 64 := by
    have h1 := SO_len m
    have h2 := List.length_filter_le (fun x => cutQ A m x && cB A x) (SO m)
    exact Nat.le_trans h2 h1
   have hjl : (jn A m (El m)).length ≤ 6 := by
    unfold jn
    split
    ·rw [List.length_map]
     have := List.length_filter_le (jnB A m) (El m)
     omega
    ·simp
   have hj : zAg.f 19999 6 (Eg (tb bits)) (EI m) = some (jn A m (El m)) := by
    unfold zAg.f
    exact rjoints_l hA hE hm 6 (El m).length 0 [] (Nat.zero_add _) (by simp) 19999 (by omega)
   rw [if_pos rfl, if_pos rfl, if_pos rfl, cuts_f hA hE hm hz 6 19999 (by decide), Option.bind_some, if_pos rfl, if_pos rfl, if_pos rfl, hj, Option.bind_some, same_f 19999 _ _ (by show (jn A m (El m)).length < _; omega) (by show (jn A m (El m)).length < _; omega), Option.bind_some, decide_eq_true rfl]
   change zA7.j1 (19998 + 1) _ _ false = some true
   rw [zA7.j1, if_neg (by decide)]
   exact lcu_l (cutsM A m) hl (cutsM A m).length 0 (by omega) 19998 (by omega)
end
end Go.Proofs.YtbghfbhlbfcloaaDoor.PL
