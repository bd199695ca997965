/- Put together by this session's program pack.py. -/
import Derived.Below
import Derived.Deep.Draws
import Derived.Deep.AppendLies
import Derived.Maps.AppendAt
import Derived.OwnWalk
import Derived.Laws.BytesArg
import Derived.Laws.MakeOwn
import Derived.Laws.OwnMore
import Derived.Deep.OwnRows
import Derived.Tactics
import Derived.Lib.ConvBytes
import Derived.Laws.Slices
import Derived.WalkKit
import Derived.KernelRfl
import Derived.RowKit3
import Derived.Deep.LoopGhost
import Derived.Deep.QuietTactic
import Derived.BigQuiet
import Derived.WideLaws
import Derived.Deep.DeepCutAuto
import Derived.Deep.CutBlock
import Derived.Deep.RegionHeld3
import Derived.Laws.Rows
import Derived.Lib.AppendStr
import Derived.ArgAppend
import Derived.Laws.IdiomCopy
import Derived.OrdersHeld
import Derived.Laws.BitsLemmas
import Derived.RowKit
import Derived.Sort.Grow
import Derived.Shelf.SlSortCmp.InsertionK
import Derived.WalkSpells
import Derived.Shelf.SlGeneric
import Derived.Shelf.SlSortCmp.NoneTotal
import Derived.Ground.SlsfProg
import Derived.RangeFuncNested
import Derived.RangeFuncBound
import Derived.RangeFuncCalls
import Derived.RangeFuncLeaves
import Derived.Shelf.Abstract
import Derived.Shelf.RegionOpen
import Derived.OwnWalkIn
import Derived.TacticsInMore
import Derived.LoopNIn
import Derived.LoopIn
import Derived.OrdersIn
import Derived.RangeFuncKeeps
import Derived.RangeFuncWrites
import Derived.Shelf.SlicesQ.IndexFunc
import Derived.Shelf.GgClosure.StringsIndexFuncTop
import Derived.Ground.SlgfProg
import Derived.Ground.GgwProg
import Derived.Test.YtbghfbhlbfcloaaGreatDoorSw0
import Derived.Test.YtbghfbhlbfcloaaGreatDoorSp0
import Derived.Test.YtbghfbhlbfcloaaGreatDoorSp1
import Derived.Test.YtbghfbhlbfcloaaGreatDoorSp2
import Derived.Test.YtbghfbhlbfcloaaGreatDoorSp3
namespace Go.Proofs.YtbghfbhlbfcloaaGreatDoor.PL
section
open Go.RowKit Go.Proofs.YtbghfbhlbfcloaaGreatDoorW.PrintWords Go.Proofs.YtbghfbhlbfcloaaGreatDoorW.PrintLast Go.Proofs.YtbghfbhlbfcloaaGreatDoorW.PrintMore
attribute [local go_sem] zBr zBp zBy zBx zBm zBl zBq zBo   -- for this text's walks alone
set_option linter.unusedVariables false
set_option linter.unusedSimpArgs false
mutual
def zAb.j0 : Nat → Int → Int → List Int → Bool → Option (Bool)
 | 0, _, _, _, _ => none
 | k + 1, x0, x2, x7, x19 => if x19 = true then ((zC7.f).bind fun t314 => (some t314)) else ((zAj.f k x0).bind fun bt315 => ((liaison_Subsets.f bt315.1 bt315.2 x7 x2).bind fun bt320 => (if x2 < 1 then (zAb.j1 k x2 x7 bt320.1 bt320.2 true bt315.1 bt315.2) else (zAb.j1 k x2 x7 bt320.1 bt320.2 (decide (x2 > (x7.length : Int))) bt315.1 bt315.2))))
def zAb.j1 : Nat → Int → List Int → List (List Int) → Int → Bool → Int → List (S58) → Option (Bool)
 | 0, _, _, _, _, _, _, _ => none
 | k + 1, x2, x7, x9, x10, x37, x320000, x320001 => if x37 = true then (if (x9.length : Int) = 0 then (some (x10 == 2)) else (some false)) else (if x10 = 0 then ((zA5.f k x320000 x320001 x7 x2).bind fun t324 => ((zAm.f k x9 t324).bind fun t327 => (some t327))) else (some false))
end
def zAb.f (k : Nat) (a0 : Int) (a1 : Int) (a2 : Int) : Option (Bool) := (zB0.f k a1).bind fun t310 => ((zC7.f).bind fun t313 => (if t313 = true then (zAb.j0 k a0 a2 t310 ((t310.length : Int) == 0)) else (zAb.j0 k a0 a2 t310 true)))
theorem zAb.zBt : ∀ k, (∀ y0 y1 y2 y3, LeO (zAb.j0 k y0 y1 y2 y3) (zAb.j0 (k + 1) y0 y1 y2 y3)) ∧ (∀ y0 y1 y2 y3 y4 y5 y6, LeO (zAb.j1 k y0 y1 y2 y3 y4 y5 y6) (zAb.j1 (k + 1) y0 y1 y2 y3 y4 y5 y6))
 | 0 => ⟨fun _ _ _ _ r h => by simp [zAb.j0] at h, fun _ _ _ _ _ _ _ r h => by simp [zAb.j1] at h⟩
 | k + 1 => by
  obtain ⟨ih0, ih1⟩ := zAb.zBt k
  refine ⟨?_, ?_⟩
  ·intro y0 y1 y2 y3
   unfold zAb.j0
   repeat' first
   | (with_reducible exact ih0 _ _ _ _)
   | (with_reducible exact ih1 _ _ _ _ _ _ _)
   | (with_reducible exact zB0.mono _ _)
   | (with_reducible exact zAj.mono _ _)
   | (with_reducible exact zAm.mono _ _ _)
   | (with_reducible exact zA5.mono _ _ _ _ _)
   | (with_reducible exact LeO.refl _)
   | (with_reducible exact LeO.none _)
   | (with_reducible refine LeO.ite ?_ ?_)
   | (with_reducible refine LeO.bind ?_ (fun _ => ?_))
  ·intro y0 y1 y2 y3 y4 y5 y6
   unfold zAb.j1
   repeat' first
   | (with_reducible exact ih0 _ _ _ _)
   | (with_reducible exact ih1 _ _ _ _ _ _ _)
   | (with_reducible exact zB0.mono _ _)
   | (with_reducible exact zAj.mono _ _)
   | (with_reducible exact zAm.mono _ _ _)
   | (with_reducible exact zA5.mono _ _ _ _ _)
   | (with_reducible exact LeO.refl _)
   | (with_reducible exact LeO.none _)
   | (with_reducible refine LeO.ite ?_ ?_)
   | (with_reducible refine LeO.bind ?_ (fun _ => ?_))
theorem zAb.mono : ∀ a0 a1 a2 k, LeO (zAb.f k a0 a1 a2) (zAb.f (k + 1) a0 a1 a2) := by
 intro a0 a1 a2 k
 obtain ⟨ih0, ih1⟩ := zAb.zBt k
 unfold zAb.f
 repeat' first
   | (with_reducible exact ih0 _ _ _ _)
   | (with_reducible exact ih1 _ _ _ _ _ _ _)
   | (with_reducible exact zB0.mono _ _)
   | (with_reducible exact zAj.mono _ _)
   | (with_reducible exact zAm.mono _ _ _)
   | (with_reducible exact zA5.mono _ _ _ _ _)
   | (with_reducible exact LeO.refl _)
   | (with_reducible exact LeO.none _)
   | (with_reducible refine LeO.ite ?_ ?_)
   | (with_reducible refine LeO.bind ?_ (fun _ => ?_))
set_option maxHeartbeats 8000000 in
set_option maxRecDepth 100000 in
theorem zAb.calls (k : Nat) (a0 : Int) (a1 : Int) (a2 : Int) (r : Bool) (w : World) (hG : Kd.C (Kd.int .u8) w (some tabA) tabL.length tabL) (h : zAb.f k a0 a1 a2 = some r) :
  Calls Tryz.prog 3 #[.int .u16 a0, .int .u8 a1, .int .i64 a2] w fun e w' => e = .returned (.bool r) ∧ Below w.heap.size w w' := by
 have hu28 := Tryz.underlying28
 have HB := zA1.mk (Below.refl w.heap.size w)
 have HG := zA1.mk hG
 clear hG
 have H : ((zB0.f k a1).bind fun t310 => ((zC7.f).bind fun t313 => (if t313 = true then (zAb.j0 k a0 a2 t310 ((t310.length : Int) == 0)) else (zAb.j0 k a0 a2 t310 true)))) = some r := h
 clear h
 replace H := Option.bind_eq_some_iff.mp H
 obtain ⟨t310, A40, H⟩ := H
 replace H : ((zC7.f).bind fun t313 => (if t313 = true then (zAb.j0 k a0 a2 t310 ((t310.length : Int) == 0)) else (zAb.j0 k a0 a2 t310 true))) = some r := H
 have A4 := zA1.mk A40
 clear A40
 have HC5 := zA1.mk H
 clear H
 go_enter Tryz.func3, Tryz.ntmps3
 go_upto_region 2 with (first | ((with_reducible refine zAz (f := 6) rfl ?_); refine zC0 (some 12) rfl rfl Tryz.func6 (by kernel_rfl) rfl #[.int .u8 a1] rfl (by (try simp only [List.map_toArray, List.map_cons, List.map_nil]); first | done | rfl | (simp only [List.length_drop, List.length_take]; rfl)) ?_; (with_reducible refine (zB0.calls k a1 t310 _ A4.out).mono ?_); rintro e w6 ⟨v311, rfl, ho0, hb⟩; refine ⟨_, rfl, ?_⟩; have n0_ := zA1.mk (Kd.R_lower ho0 (zAc (by repeat (first | (with_reducible first | exact HB.out | apply zA2 | apply zA0 | apply zA3) | exact HB.out)))); have n1_ := zA1.mk (zAf (by repeat (first | (with_reducible first | exact HB.out | apply zA2 | apply zA0 | apply zA3) | exact HB.out)) hb); clear HB; have HO312 := n0_; have HB := n1_; clear n0_ n1_; (try clear hb); (try clear hb2); (try clear hk); (try clear hi); (try clear ho0)))
 (try simp only [Act.put, List.setIfInBounds_toArray, List.set_cons_zero, List.set_cons_succ])
 go_cut [19] (fun v19 wc => ∃ (kq : Nat) (x19_4 : Bool), v19 = .bool x19_4 ∧ zA1 (zAb.j0 kq a0 a2 t310 x19_4 = some r) ∧ zA1 (kq ≤ k) ∧ zA1 (Kd.R (Kd.int .i64) 3 wc w.heap.size (fun _ => True) v311 t310) ∧ zA1 (Below w.heap.size w wc))
 case first =>
  have H := HC5.out
  clear HC5
  replace H := Option.bind_eq_some_iff.mp H
  obtain ⟨t313, A70, H⟩ := H
  replace H : (if t313 = true then (zAb.j0 k a0 a2 t310 ((t310.length : Int) == 0)) else (zAb.j0 k a0 a2 t310 true)) = some r := H
  have A7 := zA1.mk A70
  clear A70
  by_cases c8 : t313 = true
  ·subst c8
   have H1 : (zAb.j0 k a0 a2 t310 ((t310.length : Int) == 0)) = some r := by rw [if_pos rfl] at H; exact H
   clear H
   have H := H1
   clear H1
   have H' := zA1.mk H
   clear H
   go_wp2_with (first | ((with_reducible refine zAz (f := 7) rfl ?_); refine zC0 (some 13) rfl rfl Tryz.func7 (by kernel_rfl) rfl #[] rfl (by (try simp only [List.map_toArray, List.map_cons, List.map_nil]); first | done | rfl | (simp only [List.length_drop, List.length_take]; rfl)) ?_; (with_reducible refine (zC7.calls  true _ ?side1 A7.out).mono ?_); (case side1 => repeat (first | exact (Kd.zAv HG.out HB.out) | (with_reducible refine Kd.zAp ?_ _) | (with_reducible refine Kd.zB8 ?_ _) | (with_reducible refine Kd.zBd ?_))); rintro e w9 ⟨rfl, hb⟩; refine ⟨_, rfl, ?_⟩; have n0_ := zA1.mk (Kd.zC5 (by (with_reducible repeat (first | apply Kd.zAu | apply Kd.zAt | apply Kd.zB7)); exact HO312.out) hb); have n1_ := zA1.mk (zAf (by repeat (first | (with_reducible first | exact HB.out | apply zA2 | apply zA0 | apply zA3) | exact HB.out)) hb); clear HO312; clear HB; have HO312 := n0_; have HB := n1_; clear n0_ n1_; (try clear hb); (try clear hb2); (try clear hk); (try clear hi); obtain ⟨Ao10, co10, eo10⟩ := Kd.zC3 HO312.out; subst eo10))
   go_meet
   case rel => exact ⟨_, (((t310.length : Int) == 0)), (by first | rfl | (simp; done) | (simp [*]; done)), H', ⟨by first | omega | exact Nat.le_refl _⟩, ⟨by (with_reducible repeat (first | apply Kd.zAu | apply Kd.zAt | apply Kd.zB7)); exact HO312.out⟩, ⟨by repeat (first | (with_reducible first | exact HB.out | apply zA2 | apply zA0 | apply zA3) | exact HB.out)⟩⟩
  ·replace c8 := Bool.eq_false_iff.mpr c8
   subst c8
   have H1 : (zAb.j0 k a0 a2 t310 true) = some r := by rw [if_neg (show ¬ (false = true) by decide)] at H; exact H
   clear H
   have H := H1
   clear H1
   have H' := zA1.mk H
   clear H
   go_wp2_with (first | ((with_reducible refine zAz (f := 7) rfl ?_); refine zC0 (some 13) rfl rfl Tryz.func7 (by kernel_rfl) rfl #[] rfl (by (try simp only [List.map_toArray, List.map_cons, List.map_nil]); first | done | rfl | (simp only [List.length_drop, List.length_take]; rfl)) ?_; (with_reducible refine (zC7.calls  false _ ?side1 A7.out).mono ?_); (case side1 => repeat (first | exact (Kd.zAv HG.out HB.out) | (with_reducible refine Kd.zAp ?_ _) | (with_reducible refine Kd.zB8 ?_ _) | (with_reducible refine Kd.zBd ?_))); rintro e w11 ⟨rfl, hb⟩; refine ⟨_, rfl, ?_⟩; have n0_ := zA1.mk (Kd.zC5 (by (with_reducible repeat (first | apply Kd.zAu | apply Kd.zAt | apply Kd.zB7)); exact HO312.out) hb); have n1_ := zA1.mk (zAf (by repeat (first | (with_reducible first | exact HB.out | apply zA2 | apply zA0 | apply zA3) | exact HB.out)) hb); clear HO312; clear HB; have HO312 := n0_; have HB := n1_; clear n0_ n1_; (try clear hb); (try clear hb2); (try clear hk); (try clear hi)))
   go_meet
   case rel => exact ⟨_, (true), (by first | rfl | (simp; done) | (simp [*]; done)), H', ⟨by first | omega | exact Nat.le_refl _⟩, ⟨by (with_reducible repeat (first | apply Kd.zAu | apply Kd.zAt | apply Kd.zB7)); exact HO312.out⟩, ⟨by repeat (first | (with_reducible first | exact HB.out | apply zA2 | apply zA0 | apply zA3) | exact HB.out)⟩⟩
 case rest =>
  clear HC5
  try clear p2
  try clear c3
  try clear c6
  try clear c7
  try clear c8
  obtain ⟨kq, x19_4, rfl, HA, HJ4, HO_7, HB⟩ := hcut
  cases kq with
  | zero => exact absurd HA.out (by simp [zAb.j0])
  | succ kj4 =>
   have H := HA.out
   clear HA
   simp only [zAb.j0] at H
   by_cases c12 : x19_4 = true
   ·subst c12
    have H1 : ((zC7.f).bind fun t314 => (some t314)) = some r := by rw [if_pos rfl] at H; exact H
    clear H
    have H := H1
    clear H1
    replace H := Option.bind_eq_some_iff.mp H
    obtain ⟨t314, A130, H⟩ := H
    replace H : (some t314) = some r := H
    have A13 := zA1.mk A130
    clear A130
    obtain rfl := Option.some.inj H
    go_wp2_with (first | ((with_reducible refine zAz (f := 7) rfl ?_); refine zC0 (some 20) rfl rfl Tryz.func7 (by kernel_rfl) rfl #[] rfl (by (try simp only [List.map_toArray, List.map_cons, List.map_nil]); first | done | rfl | (simp only [List.length_drop, List.length_take]; rfl)) ?_; (with_reducible refine (zC7.calls  t314 _ ?side1 A13.out).mono ?_); (case side1 => repeat (first | exact (Kd.zAv HG.out HB.out) | (with_reducible refine Kd.zAp ?_ _) | (with_reducible refine Kd.zB8 ?_ _) | (with_reducible refine Kd.zBd ?_))); rintro e w14 ⟨rfl, hb⟩; refine ⟨_, rfl, ?_⟩; have n0_ := zA1.mk (Kd.zC5 (by (with_reducible repeat (first | apply Kd.zAu | apply Kd.zAt | apply Kd.zB7)); exact HO_7.out) hb); have n1_ := zA1.mk (zAf (by repeat (first | (with_reducible first | exact HB.out | apply zA2 | apply zA0 | apply zA3) | exact HB.out)) hb); clear HO_7; clear HB; have HO_7 := n0_; have HB := n1_; clear n0_ n1_; (try clear hb); (try clear hb2); (try clear hk); (try clear hi)))
    go_ret
    exact ⟨by first | rfl | (simp [zAo, zAn] <;> rfl) | (simp [*, zAo, zAn] <;> rfl), by repeat (first | (with_reducible first | exact HB.out | apply zA2 | apply zA0 | apply zA3) | exact HB.out)⟩
   ·replace c12 := Bool.eq_false_iff.mpr c12
    subst c12
    have H1 : ((zAj.f kj4 a0).bind fun bt315 => ((liaison_Subsets.f bt315.1 bt315.2 t310 a2).bind fun bt320 => (if a2 < 1 then (zAb.j1 kj4 a2 t310 bt320.1 bt320.2 true bt315.1 bt315.2) else (zAb.j1 kj4 a2 t310 bt320.1 bt320.2 (decide (a2 > (t310.length : Int))) bt315.1 bt315.2)))) = some r := by rw [if_neg (show ¬ (false = true) by decide)] at H; exact H
    clear H
    have H := H1
    clear H1
    replace H := Option.bind_eq_some_iff.mp H
    obtain ⟨⟨t315, t316⟩, A150, H⟩ := H
    replace H : ((liaison_Subsets.f t315 t316 t310 a2).bind fun bt320 => (if a2 < 1 then (zAb.j1 kj4 a2 t310 bt320.1 bt320.2 true t315 t316) else (zAb.j1 kj4 a2 t310 bt320.1 bt320.2 (decide (a2 > (t310.length : Int))) t315 t316))) = some r := H
    have A15 := zA1.mk A150
    clear A150
    replace H := Option.bind_eq_some_iff.mp H
    obtain ⟨⟨t320, t323⟩, A160, H⟩ := H
    replace H : (if a2 < 1 then (zAb.j1 kj4 a2 t310 t320 t323 true t315 t316) else (zAb.j1 kj4 a2 t310 t320 t323 (decide (a2 > (t310.length : Int))) t315 t316)) = some r := H
    have A16 := zA1.mk A160
    clear A160
    have HC17 := zA1.mk H
    clear H
    go_upto_region 6 with (first | ((with_reducible refine zAz (f := 8) rfl ?_); refine zC0 (some 22) rfl rfl Tryz.func8 (by kernel_rfl) rfl #[.int .u16 a0] rfl (by (try simp only [List.map_toArray, List.map_cons, List.map_nil]); first | done | rfl | (simp only [List.length_drop, List.length_take]; rfl)) ?_; (with_reducible refine (zAj.calls kj4 a0 t315 t316 _ A15.out).mono ?_); rintro e w18 ⟨v317, rfl, ho0, hb⟩; refine ⟨_, rfl, ?_⟩; have n0_ := zA1.mk (Kd.zC5 (by (with_reducible repeat (first | apply Kd.zAu | apply Kd.zAt | apply Kd.zB7)); exact HO_7.out) hb); have n1_ := zA1.mk (Kd.R_lower ho0 (zAc (by repeat (first | (with_reducible first | exact HB.out | apply zA2 | apply zA0 | apply zA3) | exact HB.out)))); have n2_ := zA1.mk (zAf (by repeat (first | (with_reducible first | exact HB.out | apply zA2 | apply zA0 | apply zA3) | exact HB.out)) hb); clear HO_7; clear HB; have HO_7 := n0_; have HO318 := n1_; have HB := n2_; clear n0_ n1_ n2_; (try clear hb); (try clear hb2); (try clear hk); (try clear hi); (try clear ho0)) | ((with_reducible refine zBh (N := 8) rfl ?_); (try (refine gate_guard (by rfl) ?_; dsimp only)); refine zBg ?hg (N := 8) ?hd (cs := #[.int .i64 0, .slice none 0 0]) (t := 28) ?hr ?_; (case hd => rfl); (case hg => rfl); (case hr => first | (go_simp; done) | (go_simp; rfl)); intro gb319 hg w19 hbox hb; have n0_ := zA1.mk (Kd.zC5 (by (with_reducible repeat (first | apply Kd.zAu | apply Kd.zAt | apply Kd.zB7)); exact HO_7.out) hb); have n1_ := zA1.mk (Kd.zC5 (by (with_reducible repeat (first | apply Kd.zAu | apply Kd.zAt | apply Kd.zB7)); exact HO318.out) hb); have n2_ := zA1.mk (zAf (by repeat (first | (with_reducible first | exact HB.out | apply zA2 | apply zA0 | apply zA3) | exact HB.out)) hb); have n3_ := zA1.mk (hbox); have n4_ := zA1.mk ((by rw [hg]; exact (zAc (by repeat (first | (with_reducible first | exact HB.out | apply zA2 | apply zA0 | apply zA3) | exact HB.out))) : w.heap.size ≤ gb319)); have n5_ := zA1.mk ((by rw [hg]; exact (zAc (by repeat (first | (with_reducible first | exact HB.out | apply zA2 | apply zA0 | apply zA3) | exact HB.out))) : w.heap.size ≤ gb319)); clear HO_7; clear HO318; clear HB; have HO_7 := n0_; have HO318 := n1_; have HB := n2_; have BK319 := n3_; have GW319 := n4_; have GE319 := n5_; clear n0_ n1_ n2_ n3_ n4_ n5_; clear hb hbox hg; have hcz20_0 : w19.cell? ⟨gb319, 0, none⟩ = some (.int .i64 0) := (zA8 BK319.out 0).trans rfl; have hcz20_1 : w19.cell? ⟨gb319, 1, none⟩ = some (.slice none 0 0) := (zA8 BK319.out 1).trans rfl; have hfz20_0 := zAd BK319.out 0; have hfz20_1 := zAd BK319.out 1; obtain ⟨Ao21, co21, eo21⟩ := Kd.zC3 HO318.out; subst eo21; obtain ⟨Ao22, co22, eo22⟩ := Kd.zC3 HO_7.out; subst eo22) | ((with_reducible refine zAz (f := 9) rfl ?_); refine zC0 (some 27) rfl rfl Tryz.func9 (by kernel_rfl) rfl #[.agg #[.int .i64 t315, .slice Ao21 t316.length co21], .slice Ao22 t310.length co22, .int .i64 a2] rfl (by (try simp only [List.map_toArray, List.map_cons, List.map_nil]); first | done | rfl | (simp only [List.length_drop, List.length_take]; rfl)) ?_; (with_reducible refine (liaison_Subsets.calls t315 _ _ t316 _ _ t310 a2 t320 t323 _ ?side1 ?side2 ?side3 ?side4 ?side5 A16.out).mono ?_); (case side1 => refine (Kd.zBe (e := 58) (base := w.heap.size) (ok := fun k_ => True) (n := t316.length) (c := co21) ?_).2.2; exact (by (with_reducible repeat (first | apply Kd.zAu | apply Kd.zAt | apply Kd.zB7)); exact (Kd.R_mono (Kd.R_far (p := ⟨gb319, 1, none⟩) (Kd.R_far (p := ⟨gb319, 0, none⟩) (Kd.R_types HO318.out BK319.out (by decide)) (fun _ hk => hk.2) (.int .i64 t315)) (fun _ hk => hk.2) (.slice Ao21 t316.length co21)) (fun _ h_ => h_.1)))); (case side2 => exact (Kd.zBe HO318.out).2.1); (case side3 => refine (Kd.zBe (e := 3) (base := w.heap.size) (ok := fun k_ => True) (n := t310.length) (c := co22) ?_).2.2; exact (by (with_reducible repeat (first | apply Kd.zAu | apply Kd.zAt | apply Kd.zB7)); exact (Kd.R_mono (Kd.R_far (p := ⟨gb319, 1, none⟩) (Kd.R_far (p := ⟨gb319, 0, none⟩) (Kd.R_types HO_7.out BK319.out (by decide)) (fun _ hk => hk.2) (.int .i64 t315)) (fun _ hk => hk.2) (.slice Ao21 t316.length co21)) (fun _ h_ => h_.1)))); (case side4 => exact (Kd.zBe HO_7.out).2.1); (case side5 => exact Kd.zAv HG.out (by repeat (first | (with_reducible first | exact HB.out | apply zA2 | apply zA0 | apply zA3 | refine zA4 ?_ GE319.out) | exact HB.out))); rintro e w23 ⟨v321, rfl, ho0, hb⟩; refine ⟨_, rfl, ?_⟩; have n0_ := zA1.mk (Kd.zC5 (by (with_reducible repeat (first | apply Kd.zAu | apply Kd.zAt | apply Kd.zB7)); exact (Kd.R_mono (Kd.R_far (p := ⟨gb319, 1, none⟩) (Kd.R_far (p := ⟨gb319, 0, none⟩) (Kd.R_types HO_7.out BK319.out (by decide)) (fun _ hk => hk.2) (.int .i64 t315)) (fun _ hk => hk.2) (.slice Ao21 t316.length co21)) (fun _ h_ => h_.1))) hb); have n1_ := zA1.mk (Kd.zC5 (by (with_reducible repeat (first | apply Kd.zAu | apply Kd.zAt | apply Kd.zB7)); exact (Kd.R_mono (Kd.R_far (p := ⟨gb319, 1, none⟩) (Kd.R_far (p := ⟨gb319, 0, none⟩) (Kd.R_types HO318.out BK319.out (by decide)) (fun _ hk => hk.2) (.int .i64 t315)) (fun _ hk => hk.2) (.slice Ao21 t316.length co21)) (fun _ h_ => h_.1))) hb); have n2_ := zA1.mk (Kd.N_lower (Kd.N_mono (ok' := fun k_ => some k_ ≠ (.slice Ao22 t310.length co22 : Value).ownBlock ∧ some k_ ≠ (.slice Ao21 t316.length co21 : Value).ownBlock ∧ k_ ≠ gb319) (Kd.S_N (Kd.S_bound ho0)) (fun k_ hk_ => ⟨(Kd.fresh' (Kd.R_lt (by (with_reducible repeat (first | apply Kd.zAu | apply Kd.zAt | apply Kd.zB7)); exact (Kd.R_mono (Kd.R_far (p := ⟨gb319, 1, none⟩) (Kd.R_far (p := ⟨gb319, 0, none⟩) (Kd.R_types HO_7.out BK319.out (by decide)) (fun _ hk => hk.2) (.int .i64 t315)) (fun _ hk => hk.2) (.slice Ao21 t316.length co21)) (fun _ h_ => h_.1)))) k_ hk_.2.1), (Kd.fresh' (Kd.R_lt (by (with_reducible repeat (first | apply Kd.zAu | apply Kd.zAt | apply Kd.zB7)); exact (Kd.R_mono (Kd.R_far (p := ⟨gb319, 1, none⟩) (Kd.R_far (p := ⟨gb319, 0, none⟩) (Kd.R_types HO318.out BK319.out (by decide)) (fun _ hk => hk.2) (.int .i64 t315)) (fun _ hk => hk.2) (.slice Ao21 t316.length co21)) (fun _ h_ => h_.1)))) k_ hk_.2.1), (Kd.freshB (g := gb319) (o := .cells #[.int .i64 t315, .slice Ao21 t316.length co21] 28 (0, 0)) (by (with_reducible repeat (first | refine zA7 ?_ _ | refine zA9 ?_ | refine zA6 ?_ _)); refine blk_put (cs := #[.int .i64 t315, .slice none 0 0]) ?_ 1 _ rfl; (with_reducible repeat (first | refine zA7 ?_ _ | refine zA9 ?_ | refine zA6 ?_ _)); refine blk_put (cs := #[.int .i64 0, .slice none 0 0]) ?_ 0 _ rfl; (with_reducible repeat (first | refine zA7 ?_ _ | refine zA9 ?_ | refine zA6 ?_ _)); exact BK319.out) k_ hk_.2.1)⟩)) (zAc (by repeat (first | (with_reducible first | exact HB.out | apply zA2 | apply zA0 | apply zA3 | refine zA4 ?_ GE319.out) | exact HB.out)))); have n3_ := zA1.mk (zAs (g := gb319) (o := .cells #[.int .i64 t315, .slice Ao21 t316.length co21] 28 (0, 0)) (by (with_reducible repeat (first | refine zA7 ?_ _ | refine zA9 ?_ | refine zA6 ?_ _)); refine blk_put (cs := #[.int .i64 t315, .slice none 0 0]) ?_ 1 _ rfl; (with_reducible repeat (first | refine zA7 ?_ _ | refine zA9 ?_ | refine zA6 ?_ _)); refine blk_put (cs := #[.int .i64 0, .slice none 0 0]) ?_ 0 _ rfl; (with_reducible repeat (first | refine zA7 ?_ _ | refine zA9 ?_ | refine zA6 ?_ _)); exact BK319.out) hb); have n4_ := zA1.mk (zAf (by repeat (first | (with_reducible first | exact HB.out | apply zA2 | apply zA0 | apply zA3 | refine zA4 ?_ GE319.out) | exact HB.out)) hb); clear HO_7; clear HO318; clear BK319; clear HB; have HO_7 := n0_; have HO318 := n1_; have HO322 := n2_; have BK319 := n3_; have HB := n4_; clear n0_ n1_ n2_ n3_ n4_; (try clear hb); (try clear hb2); (try clear hk); (try clear hi); (try clear ho0)))
    (try simp only [Act.put, List.setIfInBounds_toArray, List.set_cons_zero, List.set_cons_succ])
    go_cut [37] (fun v37 wc => ∃ (kq : Nat) (x37_16 : Bool), v37 = .bool x37_16 ∧ zA1 (zAb.j1 kq a2 t310 t320 t323 x37_16 t315 t316 = some r) ∧ zA1 (kq ≤ kj4) ∧ zA1 (Kd.R (Kd.int .i64) 3 wc w.heap.size (fun _ => True) (.slice Ao22 t310.length co22) t310) ∧ zA1 (Kd.N (Kd.slice 3 (Kd.int .i64)) 23 wc w.heap.size (fun k_ => some k_ ≠ ((.slice Ao22 t310.length co22) : Value).ownBlock ∧ some k_ ≠ ((.slice Ao21 t316.length co21) : Value).ownBlock ∧ k_ ≠ gb319) v321 t320) ∧ zA1 (Kd.R k58 58 wc w.heap.size (fun _ => True) (.slice Ao21 t316.length co21) t316) ∧ zA1 (wc.heap[gb319]? = some (.cells #[.int .i64 t315, (.slice Ao21 t316.length co21)] 28 (0, 0))) ∧ zA1 (Below w.heap.size w wc))
    case first =>
     have H := HC17.out
     clear HC17
     by_cases c24 : a2 < 1
     ·rw [if_pos c24] at H
      have c24b0 : decide (a2 < 1) = true := decide_eq_true c24
      clear c24
      (first | rw [c24b0] | (simp only [i64_w, i32_w]; rw [c24b0]) | skip)
      have H' := zA1.mk H
      clear H
      go_wp2
      go_meet
      case rel => exact ⟨_, (true), (by first | rfl | (simp; done) | (simp [*]; done)), H', ⟨by have := HJ4.out; first | omega | exact Nat.le_refl _⟩, ⟨by (with_reducible repeat (first | apply Kd.zAu | apply Kd.zAt | apply Kd.zB7)); exact HO_7.out⟩, ⟨by (with_reducible repeat (first | apply Kd.N_alloc | apply Kd.N_drewN | apply Kd.N_drew)); exact HO322.out⟩, ⟨by (with_reducible repeat (first | apply Kd.zAu | apply Kd.zAt | apply Kd.zB7)); exact HO318.out⟩, ⟨by (with_reducible repeat (first | refine zA7 ?_ _ | refine zA9 ?_ | refine zA6 ?_ _)); exact BK319.out⟩, ⟨by repeat (first | (with_reducible first | exact HB.out | apply zA2 | apply zA0 | apply zA3 | refine zA4 ?_ GE319.out) | exact HB.out)⟩⟩
     ·rw [if_neg c24] at H
      have c24b0 : decide (a2 < 1) = false := decide_eq_false c24
      clear c24
      (first | rw [c24b0] | (simp only [i64_w, i32_w]; rw [c24b0]) | skip)
      have H' := zA1.mk H
      clear H
      go_wp2
      go_meet
      case rel => exact ⟨_, (decide (a2 > (t310.length : Int))), (by first | rfl | (simp; done) | (simp [*]; done)), H', ⟨by have := HJ4.out; first | omega | exact Nat.le_refl _⟩, ⟨by (with_reducible repeat (first | apply Kd.zAu | apply Kd.zAt | apply Kd.zB7)); exact HO_7.out⟩, ⟨by (with_reducible repeat (first | apply Kd.N_alloc | apply Kd.N_drewN | apply Kd.N_drew)); exact HO322.out⟩, ⟨by (with_reducible repeat (first | apply Kd.zAu | apply Kd.zAt | apply Kd.zB7)); exact HO318.out⟩, ⟨by (with_reducible repeat (first | refine zA7 ?_ _ | refine zA9 ?_ | refine zA6 ?_ _)); exact BK319.out⟩, ⟨by repeat (first | (with_reducible first | exact HB.out | apply zA2 | apply zA0 | apply zA3 | refine zA4 ?_ GE319.out) | exact HB.out)⟩⟩
    case rest =>
     clear HC17
     try clear c1
     try clear c2
     try clear p2
     try clear c3
     try clear c6
     try clear c7
     try clear c8
     try clear c9
     try clear c12
     try clear c24
     try clear c24b0
     try clear hcz20_0
     try clear hcz20_1
     try clear hfz20_0
     try clear hfz20_1
     try clear p2
     obtain ⟨kq, x37_16, rfl, HA, HJ16, HO_7, HO_9, HO_320001, BK319, HB⟩ := hcut
     cases kq with
     | zero => exact absurd HA.out (by simp [zAb.j1])
     | succ kj16 =>
      have H := HA.out
      clear HA
      simp only [zAb.j1] at H
      by_cases c25 : x37_16 = true
      ·subst c25
       have H1 : (if (t320.length : Int) = 0 then (some (t323 == 2)) else (some false)) = some r := by rw [if_pos rfl] at H; exact H
       clear H
       have H := H1
       clear H1
       by_cases c26 : (t320.length : Int) = 0
       ·rw [if_pos c26] at H
        have c26b0 : ((t320.length : Int) == 0) = true := beq_iff_eq.mpr c26
        have c26b1 : ((t320.length : Int) != 0) = false := bne_eq_false_iff_eq.mpr c26
        clear c26
        obtain rfl := Option.some.inj H
        obtain ⟨Ao27, co27, eo27⟩ := Kd.N_slice HO_9.out
        subst eo27
        go_wp2
        go_ret
        exact ⟨by first | rfl | (simp [zAo, zAn] <;> rfl) | (simp [*, zAo, zAn] <;> rfl), by repeat (first | (with_reducible first | exact HB.out | apply zA2 | apply zA0 | apply zA3 | refine zA4 ?_ GE319.out) | exact HB.out)⟩
       ·rw [if_neg c26] at H
        have c26b0 : ((t320.length : Int) == 0) = false := beq_eq_false_iff_ne.mpr c26
        have c26b1 : ((t320.length : Int) != 0) = true := bne_iff_ne.mpr c26
        have c26b2 : ¬ (t320 = []) := fun h_ => c26 (by rw [h_]; rfl)
        obtain rfl := Option.some.inj H
        obtain ⟨Ao28, co28, eo28⟩ := Kd.N_slice HO_9.out
        subst eo28
        go_wp2
        go_ret
        exact ⟨by first | rfl | (simp [zAo, zAn] <;> rfl) | (simp [*, zAo, zAn] <;> rfl), by repeat (first | (with_reducible first | exact HB.out | apply zA2 | apply zA0 | apply zA3 | refine zA4 ?_ GE319.out) | exact HB.out)⟩
      ·replace c25 := Bool.eq_false_iff.mpr c25
       subst c25
       have H1 : (if t323 = 0 then ((zA5.f kj16 t315 t316 t310 a2).bind fun t324 => ((zAm.f kj16 t320 t324).bind fun t327 => (some t327))) else (some false)) = some r := by rw [if_neg (show ¬ (false = true) by decide)] at H; exact H
       clear H
       have H := H1
       clear H1
       by_cases c29 : t323 = 0
       ·rw [if_pos c29] at H
        have c29b0 : (t323 == 0) = true := beq_iff_eq.mpr c29
        have c29b1 : (t323 != 0) = false := bne_eq_false_iff_eq.mpr c29
        clear c29
        replace H := Option.bind_eq_some_iff.mp H
        obtain ⟨t324, A300, H⟩ := H
        replace H : ((zAm.f kj16 t320 t324).bind fun t327 => (some t327)) = some r := H
        have A30 := zA1.mk A300
        clear A300
        replace H := Option.bind_eq_some_iff.mp H
        obtain ⟨t327, A310, H⟩ := H
        replace H : (some t327) = some r := H
        have A31 := zA1.mk A310
        clear A310
        obtain rfl := Option.some.inj H
        have hcz32_0 : wc.cell? ⟨gb319, 0, none⟩ = some (.int .i64 t315) := (zA8 BK319.out 0).trans rfl
        have hcz32_1 : wc.cell? ⟨gb319, 1, none⟩ = some (.slice Ao21 t316.length co21) := (zA8 BK319.out 1).trans rfl
        have hfz32_0 := zAd BK319.out 0
        have hfz32_1 := zAd BK319.out 1
        go_wp2_with (first | (go_at_call 11; (with_reducible refine (zA5.calls kj16 t315 _ _ t316 _ _ t310 a2 t324 _ ?side1 ?side2 ?side3 ?side4 A30.out).mono ?_); (case side1 => repeat (first | exact (Kd.zBe HO_320001.out).2.2 | (with_reducible refine Kd.zAp ?_ _) | (with_reducible refine Kd.zB8 ?_ _) | (with_reducible refine Kd.zBd ?_))); (case side2 => exact (Kd.zBe HO_320001.out).2.1); (case side3 => repeat (first | exact (Kd.zBe HO_7.out).2.2 | (with_reducible refine Kd.zAp ?_ _) | (with_reducible refine Kd.zB8 ?_ _) | (with_reducible refine Kd.zBd ?_))); (case side4 => exact (Kd.zBe HO_7.out).2.1); rintro e w33 ⟨v325, rfl, ho0, hb⟩; have n0_ := zA1.mk (Kd.zC5 (by (with_reducible repeat (first | apply Kd.zAu | apply Kd.zAt | apply Kd.zB7)); exact HO_7.out) hb); have n1_ := zA1.mk (Kd.N_elder' (by (with_reducible repeat (first | apply Kd.N_alloc | apply Kd.N_drewN | apply Kd.N_drew)); exact HO_9.out) (Kd.N_base ho0) hb); have n2_ := zA1.mk (Kd.zC5 (by (with_reducible repeat (first | apply Kd.zAu | apply Kd.zAt | apply Kd.zB7)); exact HO_320001.out) hb); have n3_ := zA1.mk (Kd.N_lower (Kd.N_mono (ok' := fun k_ => some k_ ≠ (.slice Ao22 t310.length co22 : Value).ownBlock ∧ some k_ ≠ (v321 : Value).ownBlock ∧ some k_ ≠ (.slice Ao21 t316.length co21 : Value).ownBlock ∧ k_ ≠ gb319) ho0 (fun k_ hk_ => ⟨(Kd.fresh' (Kd.R_lt (by (with_reducible repeat (first | apply Kd.zAu | apply Kd.zAt | apply Kd.zB7)); exact HO_7.out)) k_ hk_), (Kd.fresh' (Kd.N_lt (by (with_reducible repeat (first | apply Kd.N_alloc | apply Kd.N_drewN | apply Kd.N_drew)); exact HO_9.out)) k_ hk_), (Kd.fresh' (Kd.R_lt (by (with_reducible repeat (first | apply Kd.zAu | apply Kd.zAt | apply Kd.zB7)); exact HO_320001.out)) k_ hk_), (Kd.freshB (g := gb319) (o := .cells #[.int .i64 t315, .slice Ao21 t316.length co21] 28 (0, 0)) (by (with_reducible repeat (first | refine zA7 ?_ _ | refine zA9 ?_ | refine zA6 ?_ _)); exact BK319.out) k_ hk_)⟩)) (zAc (by repeat (first | (with_reducible first | exact HB.out | apply zA2 | apply zA0 | apply zA3 | refine zA4 ?_ GE319.out) | exact HB.out)))); have n4_ := zA1.mk (zAs (g := gb319) (o := .cells #[.int .i64 t315, .slice Ao21 t316.length co21] 28 (0, 0)) (by (with_reducible repeat (first | refine zA7 ?_ _ | refine zA9 ?_ | refine zA6 ?_ _)); exact BK319.out) hb); have n5_ := zA1.mk (zAf (by repeat (first | (with_reducible first | exact HB.out | apply zA2 | apply zA0 | apply zA3 | refine zA4 ?_ GE319.out) | exact HB.out)) hb); clear HO_7; clear HO_9; clear HO_320001; clear BK319; clear HB; have HO_7 := n0_; have HO_9 := n1_; have HO_320001 := n2_; have HO326 := n3_; have BK319 := n4_; have HB := n5_; clear n0_ n1_ n2_ n3_ n4_ n5_; (try clear hb); (try clear hb2); (try clear hk); (try clear hi); (try clear ho0); obtain ⟨Ao34, co34, eo34⟩ := Kd.N_slice HO_9.out; subst eo34; obtain ⟨Ao35, co35, eo35⟩ := Kd.N_slice HO326.out; subst eo35) | (go_at_call 10; (with_reducible refine (zAm.calls kj16 _ _ t320 _ _ t324 t327 _ ?side1 ?side2 ?side3 ?side4 A31.out).mono ?_); (case side1 => repeat (first | exact (Kd.N_reads' HO_9.out).2.2 | (with_reducible refine Kd.zAp ?_ _) | (with_reducible refine Kd.zB8 ?_ _) | (with_reducible refine Kd.zBd ?_))); (case side2 => exact (Kd.N_reads' HO_9.out).2.1); (case side3 => repeat (first | exact (Kd.N_reads' HO326.out).2.2 | (with_reducible refine Kd.zAp ?_ _) | (with_reducible refine Kd.zB8 ?_ _) | (with_reducible refine Kd.zBd ?_))); (case side4 => exact (Kd.N_reads' HO326.out).2.1); rintro e w' ⟨rfl, ⟨nd, rfl⟩⟩))
        go_ret
        exact ⟨by first | rfl | (simp [zAo, zAn] <;> rfl) | (simp [*, zAo, zAn] <;> rfl), by repeat (first | (with_reducible first | exact HB.out | apply zA2 | apply zA0 | apply zA3 | refine zA4 ?_ GE319.out) | exact HB.out)⟩
       ·rw [if_neg c29] at H
        have c29b0 : (t323 == 0) = false := beq_eq_false_iff_ne.mpr c29
        have c29b1 : (t323 != 0) = true := bne_iff_ne.mpr c29
        obtain rfl := Option.some.inj H
        go_wp2
        go_ret
        exact ⟨by first | rfl | (simp [zAo, zAn] <;> rfl) | (simp [*, zAo, zAn] <;> rfl), by repeat (first | (with_reducible first | exact HB.out | apply zA2 | apply zA0 | apply zA3 | refine zA4 ?_ GE319.out) | exact HB.out)⟩
end
end Go.Proofs.YtbghfbhlbfcloaaGreatDoor.PL
namespace Go.Proofs.YtbghfbhlbfcloaaGreatDoor.PL
section
set_option linter.unusedVariables false
set_option linter.unusedSimpArgs false
open Go.RowKit Go.Proofs.YtbghfbhlbfcloaaGreatDoorW.PrintWords Go.Proofs.YtbghfbhlbfcloaaGreatDoorW.PrintLast Go.Proofs.YtbghfbhlbfcloaaGreatDoorW.PrintMore
theorem subsets_plain (bits set most : Int) (h0 : 0 ≤ set) (h1 : set < 256) : zAb.f 20000 bits set most = some true := by
 obtain ⟨s, rfl⟩ : ∃ s : Nat, set = (s : Int) := ⟨set.toNat, by omega⟩
 have hs : s < 256 := by omega
 have hm : s % 64 < 64 := Nat.mod_lt _ (by decide)
 unfold zAb.f
 rw [chosen_f 20000 (by decide) s hs, Option.bind_some]
 have hkn : zC7.f = some true := rfl
 rw [hkn, Option.bind_some, if_pos rfl]
 generalize hmm : s % 64 = m at hm
 by_cases hz : m = 0
 ·subst hz
  rfl
 ·have hpos := EI_pos hm hz
  have hel := EI_len m
  rw [show (((EI m).length : Int) == 0) = false from beq_eq_false_iff_ne.2 (by omega)]
  obtain ⟨A, hA, hlk, hE, hsym⟩ := linked_f (tb bits) CU.k (by decide)
  have hop := opened_f (tb bits) A m CU.k hm hz (by decide) hlk
  have hS : liaison_Subsets.f 6 (Eg (tb bits)) (EI m) most = some (if most < 1 ∨ ((EI m).length : Int) < most then ([], 2) else (((SO m).filter (kp A most)).map EI, 0)) := SU_plain (tb bits) hA hm hop most
  change zAb.j0 (19999 + 1) bits most (EI m) false = some true
  rw [zAb.j0, if_neg (by decide), pairs_f bits 19999 (by decide), Option.bind_some, hS, Option.bind_some]
  have bad : ∀ x : Bool, x = true → (most < 1 ∨ ((EI m).length : Int) < most) → zAb.j1 19999 most (EI m) (if most < 1 ∨ ((EI m).length : Int) < most then (([] : List (List Int)), (2 : Int)) else (((SO m).filter (kp A most)).map EI, 0)).1 (if most < 1 ∨ ((EI m).length : Int) < most then (([] : List (List Int)), (2 : Int)) else (((SO m).filter (kp A most)).map EI, 0)).2 x 6 (Eg (tb bits)) = some true := fun x hx h => by
   subst hx
   rw [if_pos h]
   rfl
  by_cases h1 : most < 1
  ·rw [if_pos h1]
   exact bad true rfl (.inl h1)
  ·rw [if_neg h1]
   by_cases h2 : ((EI m).length : Int) < most
   ·exact bad _ (decide_eq_true h2) (.inr h2)
   ·have h : ¬ (most < 1 ∨ ((EI m).length : Int) < most) := fun h => h.elim h1 h2
    rw [if_neg h, decide_eq_false h2]
    change zAb.j1 (19998 + 1) most (EI m) _ _ false 6 (Eg (tb bits)) = some true
    have hl := SO_len m
    have hf := List.length_filter_le (kp A most) (SO m)
    rw [zAb.j1, if_neg (by decide), if_pos rfl, subsets_f most hA hE hm 6 19998 (by decide), Option.bind_some, sameLists_f 19998 _ _ (by rw [List.length_map]; omega) 6 (fun x hx => by
     obtain ⟨y, _, rfl⟩ := List.mem_map.1 hx
     exact EI_len y) (by decide) (by rw [List.length_map]; omega), Option.bind_some, decide_eq_true rfl]
end
end Go.Proofs.YtbghfbhlbfcloaaGreatDoor.PL
