/- Put together by this session's program pack.py. -/
import Derived.Below
import Derived.Deep.Draws
import Derived.Deep.AppendLies
import Derived.Maps.AppendAt
import Derived.OwnWalk
import Derived.Laws.BytesArg
import Derived.Laws.MakeOwn
import Derived.Laws.OwnMore
import Derived.Deep.OwnRows
import Derived.Tactics
import Derived.Lib.ConvBytes
import Derived.Laws.Slices
import Derived.WalkKit
import Derived.KernelRfl
import Derived.RowKit3
import Derived.Deep.LoopGhost
import Derived.Deep.QuietTactic
import Derived.BigQuiet
import Derived.WideLaws
import Derived.Deep.DeepCutAuto
import Derived.Deep.CutBlock
import Derived.Deep.RegionHeld3
import Derived.Laws.Rows
import Derived.Lib.AppendStr
import Derived.ArgAppend
import Derived.Laws.IdiomCopy
import Derived.OrdersHeld
import Derived.Laws.BitsLemmas
import Derived.RowKit
import Derived.Sort.Grow
import Derived.Shelf.SlSortCmp.InsertionK
import Derived.Shelf.SlGeneric
import Derived.Shelf.SlSortCmp.NoneTotal
import Derived.Ground.SlsfProg
import Derived.WalkSpells
import Derived.RangeFuncNested
import Derived.RangeFuncBound
import Derived.RangeFuncCalls
import Derived.RangeFuncLeaves
import Derived.Shelf.Abstract
import Derived.Shelf.RegionOpen
import Derived.OwnWalkIn
import Derived.TacticsInMore
import Derived.LoopNIn
import Derived.LoopIn
import Derived.OrdersIn
import Derived.RangeFuncKeeps
import Derived.RangeFuncWrites
import Derived.Shelf.SlicesQ.IndexFunc
import Derived.Shelf.GgClosure.StringsIndexFuncTop
import Derived.Ground.SlgfProg
import Derived.Ground.GgwProg
import Derived.Test.YtbghfbhlbfcloaaGreatDoorHw0
import Derived.Test.YtbghfbhlbfcloaaGreatDoorHp0
import Derived.Test.YtbghfbhlbfcloaaGreatDoorHp1
namespace Go.Proofs.YtbghfbhlbfcloaaGreatDoor.PL
section
open Go.RowKit Go.Proofs.YtbghfbhlbfcloaaGreatDoorW.PrintWords Go.Proofs.YtbghfbhlbfcloaaGreatDoorW.PrintLast Go.Proofs.YtbghfbhlbfcloaaGreatDoorW.PrintMore
attribute [local go_sem] zBu zBs zC3 zC2 zBn zBm zBt zBr   -- for this text's walks alone
set_option linter.unusedVariables false
set_option linter.unusedSimpArgs false
def zB7.l0 : Nat → List Int → List Int → List Int → Int → Int → Option (Int)
 | 0, _, _, _, _, _ => none
 | k + 1, x0, x1, x9, x10, x11 => if x11 < x10 then (if 0 ≤ x11 then (if x11 < (x9.length : Int) then (if x11 ≥ (x1.length : Int) then (some 1) else (if x11 < (x1.length : Int) then ((zC7.f (rd x9 x11) (rd x1 x11)).bind fun t180 => (if t180 = 0 then (zB7.l0 k x0 x1 x9 x10 (wrap64 (x11 + 1))) else (some t180))) else (none))) else (none)) else (none)) else (if (x0.length : Int) < (x1.length : Int) then (some (-1)) else (some 0))
def zB7.f (k : Nat) (l0 : List Int) (l1 : List Int) : Option (Int) := zB7.l0 k l0 l1 l0 (l0.length : Int) 0
theorem zB7.zBv : ∀ k, (∀ y0 y1 y2 y3 y4, LeO (zB7.l0 k y0 y1 y2 y3 y4) (zB7.l0 (k + 1) y0 y1 y2 y3 y4))
 | 0 => fun _ _ _ _ _ r h => by simp [zB7.l0] at h
 | k + 1 => by
  have ih0 := zB7.zBv k
  ·intro y0 y1 y2 y3 y4
   unfold zB7.l0
   repeat' first
   | (with_reducible exact ih0 _ _ _ _ _)
   | (with_reducible exact LeO.refl _)
   | (with_reducible exact LeO.none _)
   | (with_reducible refine LeO.ite ?_ ?_)
   | (with_reducible refine LeO.bind ?_ (fun _ => ?_))
theorem zB7.mono : ∀ a0 a1 k, LeO (zB7.f k a0 a1) (zB7.f (k + 1) a0 a1) := by
 intro a0 a1 k
 have ih0 := zB7.zBv k
 unfold zB7.f
 repeat' first
   | (with_reducible exact ih0 _ _ _ _ _)
   | (with_reducible exact LeO.refl _)
   | (with_reducible exact LeO.none _)
   | (with_reducible refine LeO.ite ?_ ?_)
   | (with_reducible refine LeO.bind ?_ (fun _ => ?_))
set_option maxHeartbeats 8000000 in
set_option maxRecDepth 100000 in
theorem zB7.calls (k : Nat) (A0 : Option Addr) (c0 : Nat) (l0 : List Int) (A1 : Option Addr) (c1 : Nat) (l1 : List Int) (r : Int) (w : World) (hr0 : Kd.C (Kd.int .i64) w A0 l0.length l0) (hc0 : l0.length ≤ c0) (hr1 : Kd.C (Kd.int .i64) w A1 l1.length l1) (hc1 : l1.length ≤ c1) (h : zB7.f k l0 l1 = some r) :
  Calls Tryz.prog 58 #[.slice A0 l0.length c0, .slice A1 l1.length c1] w fun e w' => e = .returned (.int .i64 r) ∧ zB0 w w' := by
 have HR0 := zA2.mk hr0
 have HC0 := zA2.mk hc0
 clear hr0 hc0
 have HR1 := zA2.mk hr1
 have HC1 := zA2.mk hc1
 clear hr1 hc1
 have H : (zB7.l0 k l0 l1 l0 (l0.length : Int) 0) = some r := h
 clear h
 have H' := zA2.mk H
 clear H
 go_enter Tryz.func58, Tryz.ntmps58
 go_wp2
 go_loopg [11] k (fun kq v11 w' => ∃ (x11_1 : Int), v11 = .int .i64 x11_1 ∧ zA2 (zB7.l0 kq l0 l1 l0 (l0.length : Int) x11_1 = some r) ∧ zA2 (kq ≤ k) ∧ zB0 w w')
 case atStart => exact ⟨(0), (by first | rfl | (simp; done) | (simp [*]; done)), H', ⟨Nat.le_refl _⟩, by repeat (first | exact zB0.refl _ | apply zB0.step)⟩
 case round =>
  clear H'
  try clear c1
  try clear p2
  obtain ⟨x11_1, rfl, HA, HK1, ⟨m1, rfl⟩⟩ := hrel
  cases gk with
  | zero => exact absurd HA.out (by simp [zB7.l0])
  | succ k1 =>
   have H := HA.out
   clear HA
   simp only [zB7.l0] at H
   by_cases c3 : x11_1 < (l0.length : Int)
   ·rw [if_pos c3] at H
    have c3b0 : decide (x11_1 < (l0.length : Int)) = true := decide_eq_true c3
    clear c3
    by_cases c4 : 0 ≤ x11_1
    rotate_left
    ·rw [if_neg c4] at H
     exact absurd H (by simp)
    rw [if_pos c4] at H
    have c4b0 : decide (0 ≤ x11_1) = true := decide_eq_true c4
    clear c4
    by_cases c5 : x11_1 < (l0.length : Int)
    rotate_left
    ·rw [if_neg c5] at H
     exact absurd H (by simp)
    rw [if_pos c5] at H
    have c5b0 : decide (x11_1 < (l0.length : Int)) = true := decide_eq_true c5
    clear c5
    by_cases c6 : x11_1 ≥ (l1.length : Int)
    ·rw [if_pos c6] at H
     have c6b0 : decide ((l1.length : Int) ≤ x11_1) = true := decide_eq_true c6
     clear c6
     obtain rfl := Option.some.inj H
     have p178 : 0 ≤ (x11_1 : Int) := of_decide_eq_true (by first | (with_reducible assumption) | assumption)
     have q178 : x11_1 < (l0.length : Int) := of_decide_eq_true (by first | (with_reducible assumption) | assumption)
     obtain ⟨ad178, e178, hx178_0⟩ := Kd.zC6 HR0.out x11_1 p178 q178
     cases e178
     replace p178 := eq_true p178
     replace q178 := eq_true q178
     go_wp2
     go_ret
     exact ⟨by first | rfl | (simp; done) | (simp [*]; done), by repeat (first | exact zB0.refl _ | apply zB0.step)⟩
    ·rw [if_neg c6] at H
     have c6b0 : decide ((l1.length : Int) ≤ x11_1) = false := decide_eq_false c6
     clear c6
     by_cases c7 : x11_1 < (l1.length : Int)
     rotate_left
     ·rw [if_neg c7] at H
      exact absurd H (by simp)
     rw [if_pos c7] at H
     have c7b0 : decide (x11_1 < (l1.length : Int)) = true := decide_eq_true c7
     clear c7
     replace H := Option.bind_eq_some_iff.mp H
     obtain ⟨t180, A80, H⟩ := H
     replace H : (if t180 = 0 then (zB7.l0 k1 l0 l1 l0 (l0.length : Int) (wrap64 (x11_1 + 1))) else (some t180)) = some r := H
     have A8 := zA2.mk A80
     clear A80
     by_cases c9 : t180 = 0
     ·rw [if_pos c9] at H
      have c9b0 : (t180 == 0) = true := beq_iff_eq.mpr c9
      have c9b1 : (t180 != 0) = false := bne_eq_false_iff_eq.mpr c9
      clear c9
      have H' := zA2.mk H
      clear H
      have p178 : 0 ≤ (x11_1 : Int) := of_decide_eq_true (by first | (with_reducible assumption) | assumption)
      have q178 : x11_1 < (l0.length : Int) := of_decide_eq_true (by first | (with_reducible assumption) | assumption)
      obtain ⟨ad178, e178, hx178_0⟩ := Kd.zC6 HR0.out x11_1 p178 q178
      cases e178
      replace p178 := eq_true p178
      replace q178 := eq_true q178
      have p179 : 0 ≤ (x11_1 : Int) := of_decide_eq_true (by first | (with_reducible assumption) | assumption)
      have q179 : x11_1 < (l1.length : Int) := of_decide_eq_true (by first | (with_reducible assumption) | assumption)
      obtain ⟨ad179, e179, hx179_0⟩ := Kd.zC6 HR1.out x11_1 p179 q179
      cases e179
      replace p179 := eq_true p179
      replace q179 := eq_true q179
      go_wp2_with (first | ((with_reducible refine zAp (f := 64) rfl ?_); refine zBq (some 26) rfl rfl Tryz.func64 (by kernel_rfl) rfl #[.int .i64 (rd l0 x11_1), .int .i64 (rd l1 x11_1)] rfl (by (try simp only [List.map_toArray, List.map_cons, List.map_nil]); first | done | rfl | (simp only [List.length_drop, List.length_take]; rfl)) ?_; (with_reducible refine (zC7.calls (rd l0 x11_1) (rd l1 x11_1) t180 _ A8.out).mono ?_); rintro e w' ⟨rfl, ⟨nd, rfl⟩⟩; refine ⟨_, rfl, ?_⟩))
      go_roundg k1
      case measure => have := HK1.out; omega
      case rel => exact ⟨(wrap64 (x11_1 + 1)), (by first | rfl | (simp; done) | (simp [*]; done)), H', ⟨by have := HK1.out; omega⟩, by repeat (first | exact zB0.refl _ | apply zB0.step)⟩
     ·rw [if_neg c9] at H
      have c9b0 : (t180 == 0) = false := beq_eq_false_iff_ne.mpr c9
      have c9b1 : (t180 != 0) = true := bne_iff_ne.mpr c9
      obtain rfl := Option.some.inj H
      have p178 : 0 ≤ (x11_1 : Int) := of_decide_eq_true (by first | (with_reducible assumption) | assumption)
      have q178 : x11_1 < (l0.length : Int) := of_decide_eq_true (by first | (with_reducible assumption) | assumption)
      obtain ⟨ad178, e178, hx178_0⟩ := Kd.zC6 HR0.out x11_1 p178 q178
      cases e178
      replace p178 := eq_true p178
      replace q178 := eq_true q178
      have p179 : 0 ≤ (x11_1 : Int) := of_decide_eq_true (by first | (with_reducible assumption) | assumption)
      have q179 : x11_1 < (l1.length : Int) := of_decide_eq_true (by first | (with_reducible assumption) | assumption)
      obtain ⟨ad179, e179, hx179_0⟩ := Kd.zC6 HR1.out x11_1 p179 q179
      cases e179
      replace p179 := eq_true p179
      replace q179 := eq_true q179
      go_wp2_with (first | ((with_reducible refine zAp (f := 64) rfl ?_); refine zBq (some 26) rfl rfl Tryz.func64 (by kernel_rfl) rfl #[.int .i64 (rd l0 x11_1), .int .i64 (rd l1 x11_1)] rfl (by (try simp only [List.map_toArray, List.map_cons, List.map_nil]); first | done | rfl | (simp only [List.length_drop, List.length_take]; rfl)) ?_; (with_reducible refine (zC7.calls (rd l0 x11_1) (rd l1 x11_1) t180 _ A8.out).mono ?_); rintro e w' ⟨rfl, ⟨nd, rfl⟩⟩; refine ⟨_, rfl, ?_⟩))
      go_ret
      exact ⟨by first | rfl | (simp; done) | (simp [*]; done), by repeat (first | exact zB0.refl _ | apply zB0.step)⟩
   ·rw [if_neg c3] at H
    have c3b0 : decide (x11_1 < (l0.length : Int)) = false := decide_eq_false c3
    clear c3
    by_cases c10 : (l0.length : Int) < (l1.length : Int)
    ·rw [if_pos c10] at H
     have c10b0 : decide ((l0.length : Int) < (l1.length : Int)) = true := decide_eq_true c10
     have c10b1 : decide (l0.length < l1.length) = true := decide_eq_true (Int.ofNat_lt.mp c10)
     clear c10
     obtain rfl := Option.some.inj H
     go_wp2
     go_ret
     exact ⟨by first | rfl | (simp; done) | (simp [*]; done), by repeat (first | exact zB0.refl _ | apply zB0.step)⟩
    ·rw [if_neg c10] at H
     have c10b0 : decide ((l0.length : Int) < (l1.length : Int)) = false := decide_eq_false c10
     have c10b1 : decide (l0.length < l1.length) = false := decide_eq_false (fun h => c10 (Int.ofNat_lt.mpr h))
     clear c10
     obtain rfl := Option.some.inj H
     go_wp2
     go_ret
     exact ⟨by first | rfl | (simp; done) | (simp [*]; done), by repeat (first | exact zB0.refl _ | apply zB0.step)⟩
end
end Go.Proofs.YtbghfbhlbfcloaaGreatDoor.PL
namespace Go.Proofs.YtbghfbhlbfcloaaGreatDoor.PL
section
open Go.RowKit Go.Proofs.YtbghfbhlbfcloaaGreatDoorW.PrintWords Go.Proofs.YtbghfbhlbfcloaaGreatDoorW.PrintLast Go.Proofs.YtbghfbhlbfcloaaGreatDoorW.PrintMore
attribute [local go_sem] zBu zBs zC3 zC2 zBn zBm zBt zBr   -- for this text's walks alone
set_option linter.unusedVariables false
set_option linter.unusedSimpArgs false
def zBz.f (k : Nat) (l0 : List Int) (l1 : List Int) : Option (Int) := if (l0.length : Int) = (l1.length : Int) then ((zB7.f k l0 l1).bind fun t181 => (some t181)) else (some (wrap64 ((l0.length : Int) - (l1.length : Int))))
theorem zBz.mono : ∀ a0 a1 k, LeO (zBz.f k a0 a1) (zBz.f (k + 1) a0 a1) := by
 intro a0 a1 k
 unfold zBz.f
 repeat' first
   | (with_reducible exact zB7.mono _ _ _)
   | (with_reducible exact LeO.refl _)
   | (with_reducible exact LeO.none _)
   | (with_reducible refine LeO.ite ?_ ?_)
   | (with_reducible refine LeO.bind ?_ (fun _ => ?_))
set_option maxHeartbeats 8000000 in
set_option maxRecDepth 100000 in
theorem zBz.calls (k : Nat) (A0 : Option Addr) (c0 : Nat) (l0 : List Int) (A1 : Option Addr) (c1 : Nat) (l1 : List Int) (r : Int) (w : World) (hr0 : Kd.C (Kd.int .i64) w A0 l0.length l0) (hc0 : l0.length ≤ c0) (hr1 : Kd.C (Kd.int .i64) w A1 l1.length l1) (hc1 : l1.length ≤ c1) (h : zBz.f k l0 l1 = some r) :
  Calls Tryz.prog 32 #[.slice A0 l0.length c0, .slice A1 l1.length c1] w fun e w' => e = .returned (.int .i64 r) ∧ zB0 w w' := by
 have HR0 := zA2.mk hr0
 have HC0 := zA2.mk hc0
 clear hr0 hc0
 have HR1 := zA2.mk hr1
 have HC1 := zA2.mk hc1
 clear hr1 hc1
 have H : (if (l0.length : Int) = (l1.length : Int) then ((zB7.f k l0 l1).bind fun t181 => (some t181)) else (some (wrap64 ((l0.length : Int) - (l1.length : Int))))) = some r := h
 clear h
 by_cases c3 : (l0.length : Int) = (l1.length : Int)
 ·rw [if_pos c3] at H
  have c3b0 : ((l0.length : Int) == (l1.length : Int)) = true := beq_iff_eq.mpr c3
  have c3b1 : ((l0.length : Int) != (l1.length : Int)) = false := bne_eq_false_iff_eq.mpr c3
  have c3b2 : (l0.length == l1.length) = true := by first | simpa using c3 | (simp at c3 ⊢; omega)
  clear c3
  replace H := Option.bind_eq_some_iff.mp H
  obtain ⟨t181, A40, H⟩ := H
  replace H : (some t181) = some r := H
  have A4 := zA2.mk A40
  clear A40
  obtain rfl := Option.some.inj H
  go_enter Tryz.func32, Tryz.ntmps32
  go_wp2_with (first | ((with_reducible refine zAp (f := 58) rfl ?_); refine zBq (some 17) rfl rfl Tryz.func58 (by kernel_rfl) rfl #[.slice A0 l0.length c0, .slice A1 l1.length c1] rfl (by (try simp only [List.map_toArray, List.map_cons, List.map_nil]); first | done | rfl | (simp only [List.length_drop, List.length_take]; rfl)) ?_; (with_reducible refine (zB7.calls k _ _ l0 _ _ l1 t181 _ ?side1 ?side2 ?side3 ?side4 A4.out).mono ?_); (case side1 => repeat (first | exact HR0.out | (with_reducible refine Kd.zAj ?_ _) | (with_reducible refine Kd.zAs ?_ _) | (with_reducible refine Kd.zB2 ?_))); (case side2 => exact HC0.out); (case side3 => repeat (first | exact HR1.out | (with_reducible refine Kd.zAj ?_ _) | (with_reducible refine Kd.zAs ?_ _) | (with_reducible refine Kd.zB2 ?_))); (case side4 => exact HC1.out); rintro e w' ⟨rfl, ⟨nd, rfl⟩⟩; refine ⟨_, rfl, ?_⟩))
  go_ret
  exact ⟨by first | rfl | (simp; done) | (simp [*]; done), by repeat (first | exact zB0.refl _ | apply zB0.step)⟩
 ·rw [if_neg c3] at H
  have c3b0 : ((l0.length : Int) == (l1.length : Int)) = false := beq_eq_false_iff_ne.mpr c3
  have c3b1 : ((l0.length : Int) != (l1.length : Int)) = true := bne_iff_ne.mpr c3
  have c3b2 : (l0.length == l1.length) = false := by first | simpa using c3 | (simp at c3 ⊢; omega)
  obtain rfl := Option.some.inj H
  go_enter Tryz.func32, Tryz.ntmps32
  go_wp2
  go_ret
  exact ⟨by first | rfl | (simp; done) | (simp [*]; done), by repeat (first | exact zB0.refl _ | apply zB0.step)⟩
end
end Go.Proofs.YtbghfbhlbfcloaaGreatDoor.PL
namespace Go.Proofs.YtbghfbhlbfcloaaGreatDoor.PL
section
open Go.RowKit Go.Proofs.YtbghfbhlbfcloaaGreatDoorW.PrintWords Go.Proofs.YtbghfbhlbfcloaaGreatDoorW.PrintLast Go.Proofs.YtbghfbhlbfcloaaGreatDoorW.PrintMore
attribute [local go_sem] zBu zBs zC3 zC2 zBn zBm zBt zBr   -- for this text's walks alone
set_option linter.unusedVariables false
set_option linter.unusedSimpArgs false
def zCd.f (k : Nat) (l0_0 : List Int) (l0_1 : List Int) (l1_0 : List Int) (l1_1 : List Int) : Option (Int) := (zBz.f k l0_0 l1_0).bind fun t184 => (some t184)
theorem zCd.mono : ∀ a0 a1 a2 a3 k, LeO (zCd.f k a0 a1 a2 a3) (zCd.f (k + 1) a0 a1 a2 a3) := by
 intro a0 a1 a2 a3 k
 unfold zCd.f
 repeat' first
   | (with_reducible exact zBz.mono _ _ _)
   | (with_reducible exact LeO.refl _)
   | (with_reducible exact LeO.none _)
   | (with_reducible refine LeO.ite ?_ ?_)
   | (with_reducible refine LeO.bind ?_ (fun _ => ?_))
set_option maxHeartbeats 8000000 in
set_option maxRecDepth 100000 in
theorem zCd.exact (k : Nat) (A0_0 : Option Addr) (c0_0 : Nat) (l0_0 : List Int) (A0_1 : Option Addr) (c0_1 : Nat) (l0_1 : List Int) (A1_0 : Option Addr) (c1_0 : Nat) (l1_0 : List Int) (A1_1 : Option Addr) (c1_1 : Nat) (l1_1 : List Int) (r : Int) (w : World) (hr0_0 : Kd.C (Kd.int .i64) w A0_0 l0_0.length l0_0) (hc0_0 : l0_0.length ≤ c0_0) (hr0_1 : Kd.C (Kd.int .i64) w A0_1 l0_1.length l0_1) (hc0_1 : l0_1.length ≤ c0_1) (hr1_0 : Kd.C (Kd.int .i64) w A1_0 l1_0.length l1_0) (hc1_0 : l1_0.length ≤ c1_0) (hr1_1 : Kd.C (Kd.int .i64) w A1_1 l1_1.length l1_1) (hc1_1 : l1_1.length ≤ c1_1) (h : zCd.f k l0_0 l0_1 l1_0 l1_1 = some r) :
  Calls Tryz.prog 38 #[.agg #[.slice A0_0 l0_0.length c0_0, .slice A0_1 l0_1.length c0_1], .agg #[.slice A1_0 l1_0.length c1_0, .slice A1_1 l1_1.length c1_1]] w fun e w' => e = .returned (.int .i64 r) ∧ Below w.heap.size w w' ∧ Gr w w' := by
 have hu46 := Tryz.underlying46
 have HR0_0 := zA2.mk hr0_0
 have HC0_0 := zA2.mk hc0_0
 clear hr0_0 hc0_0
 have HR0_1 := zA2.mk hr0_1
 have HC0_1 := zA2.mk hc0_1
 clear hr0_1 hc0_1
 have HR1_0 := zA2.mk hr1_0
 have HC1_0 := zA2.mk hc1_0
 clear hr1_0 hc1_0
 have HR1_1 := zA2.mk hr1_1
 have HC1_1 := zA2.mk hc1_1
 clear hr1_1 hc1_1
 have HB := zA2.mk (Below.refl w.heap.size w)
 have HX := zA2.mk (Gr.refl w)
 have H : ((zBz.f k l0_0 l1_0).bind fun t184 => (some t184)) = some r := h
 clear h
 replace H := Option.bind_eq_some_iff.mp H
 obtain ⟨t184, A30, H⟩ := H
 replace H : (some t184) = some r := H
 have A3 := zA2.mk A30
 clear A30
 obtain rfl := Option.some.inj H
 go_enter Tryz.func38, Tryz.ntmps38
 go_wp2_with (first | ((with_reducible refine zBl (N := 2) rfl ?_); refine box_eventG ?hg (N := 2) ?hd (cs := #[.slice A0_0 l0_0.length c0_0, .slice A0_1 l0_1.length c0_1]) (t := 46) ?hr ?_; (case hd => rfl); (case hg => rfl); (case hr => first | (go_simp; done) | (go_simp; rfl)); intro gb182 hg w4 hbox hb hgr; have HX0 := zA2.mk (Gr.trans (by repeat (first | (with_reducible first | exact HX.out | apply Gr.alloc | apply Gr.drewN | apply Gr.drew) | exact HX.out)) hgr); clear hgr; clear HX; have HX := HX0; clear HX0; have n0_ := zA2.mk (zAe (by repeat (first | (with_reducible first | exact HB.out | apply zA1 | apply zA0 | apply zA3) | exact HB.out)) hb); have n1_ := zA2.mk (hbox); have n2_ := zA2.mk ((by rw [hg]; exact (zAb (by repeat (first | (with_reducible first | exact HB.out | apply zA1 | apply zA0 | apply zA3) | exact HB.out))) : w.heap.size ≤ gb182)); have n3_ := zA2.mk ((by rw [hg]; exact (zAb (by repeat (first | (with_reducible first | exact HB.out | apply zA1 | apply zA0 | apply zA3) | exact HB.out))) : w.heap.size ≤ gb182)); clear HB; have HB := n0_; have BK182 := n1_; have GW182 := n2_; have GE182 := n3_; clear n0_ n1_ n2_ n3_; clear hb hbox hg) | ((with_reducible refine zBl (N := 3) rfl ?_); refine box_eventG ?hg (N := 3) ?hd (cs := #[.slice A1_0 l1_0.length c1_0, .slice A1_1 l1_1.length c1_1]) (t := 46) ?hr ?_; (case hd => rfl); (case hg => rfl); (case hr => first | (go_simp; done) | (go_simp; rfl)); intro gb183 hg w5 hbox hb hgr; have HX0 := zA2.mk (Gr.trans (by repeat (first | (with_reducible first | exact HX.out | apply Gr.alloc | apply Gr.drewN | apply Gr.drew) | exact HX.out)) hgr); clear hgr; clear HX; have HX := HX0; clear HX0; have n0_ := zA2.mk (zAl (g := gb182) (o := .cells #[.slice A0_0 l0_0.length c0_0, .slice A0_1 l0_1.length c0_1] 46 (0, 0)) (by (with_reducible repeat (first | refine zA6 ?_ _ | refine zA8 ?_ | refine zA5 ?_ _)); exact BK182.out) hb); have n1_ := zA2.mk (zAe (by repeat (first | (with_reducible first | exact HB.out | apply zA1 | apply zA0 | apply zA3 | refine zA4 ?_ GE182.out) | exact HB.out)) hb); have n2_ := zA2.mk (hbox); have n3_ := zA2.mk ((by rw [hg]; exact (zAb (by repeat (first | (with_reducible first | exact HB.out | apply zA1 | apply zA0 | apply zA3 | refine zA4 ?_ GE182.out) | exact HB.out))) : w.heap.size ≤ gb183)); have n4_ := zA2.mk ((by rw [hg]; exact (zAb (by repeat (first | (with_reducible first | exact HB.out | apply zA1 | apply zA0 | apply zA3 | refine zA4 ?_ GE182.out) | exact HB.out))) : w.heap.size ≤ gb183)); have n5_ := zA2.mk ((by rw [hg]; exact Nat.ne_of_lt (zC8 (g := gb182) (o := .cells #[.slice A0_0 l0_0.length c0_0, .slice A0_1 l0_1.length c0_1] 46 (0, 0)) (by (with_reducible repeat (first | refine zA6 ?_ _ | refine zA8 ?_ | refine zA5 ?_ _)); exact BK182.out)) : gb182 ≠ gb183)); have n6_ := zA2.mk ((by rw [hg]; exact Nat.ne_of_gt (zC8 (g := gb182) (o := .cells #[.slice A0_0 l0_0.length c0_0, .slice A0_1 l0_1.length c0_1] 46 (0, 0)) (by (with_reducible repeat (first | refine zA6 ?_ _ | refine zA8 ?_ | refine zA5 ?_ _)); exact BK182.out)) : gb183 ≠ gb182)); clear BK182; clear HB; have BK182 := n0_; have HB := n1_; have BK183 := n2_; have GW183 := n3_; have GE183 := n4_; have NB182_183 := n5_; have NB183_182 := n6_; clear n0_ n1_ n2_ n3_ n4_ n5_ n6_; clear hb hbox hg; have hnb6 := NB182_183.out; have hnc6 := NB183_182.out; have hcz7_0 : w5.cell? ⟨gb182, 0, none⟩ = some (.slice A0_0 l0_0.length c0_0) := (zA7 BK182.out 0).trans rfl; have hcz7_1 : w5.cell? ⟨gb182, 1, none⟩ = some (.slice A0_1 l0_1.length c0_1) := (zA7 BK182.out 1).trans rfl; have hfz7_0 := zA9 BK182.out 0; have hfz7_1 := zA9 BK182.out 1; have hcz8_0 : w5.cell? ⟨gb183, 0, none⟩ = some (.slice A1_0 l1_0.length c1_0) := (zA7 BK183.out 0).trans rfl; have hcz8_1 : w5.cell? ⟨gb183, 1, none⟩ = some (.slice A1_1 l1_1.length c1_1) := (zA7 BK183.out 1).trans rfl; have hfz8_0 := zA9 BK183.out 0; have hfz8_1 := zA9 BK183.out 1) | ((with_reducible refine zAp (f := 32) rfl ?_); refine zBq (some 9) rfl rfl Tryz.func32 (by kernel_rfl) rfl #[.slice A0_0 l0_0.length c0_0, .slice A1_0 l1_0.length c1_0] rfl (by (try simp only [List.map_toArray, List.map_cons, List.map_nil]); first | done | rfl | (simp only [List.length_drop, List.length_take]; rfl)) ?_; (with_reducible refine (zBz.calls k _ _ l0_0 _ _ l1_0 t184 _ ?side1 ?side2 ?side3 ?side4 A3.out).mono ?_); (case side1 => repeat (first | exact (Kd.zAk HR0_0.out HB.out) | (with_reducible refine Kd.zAj ?_ _) | (with_reducible refine Kd.zAs ?_ _) | (with_reducible refine Kd.zB2 ?_))); (case side2 => exact HC0_0.out); (case side3 => repeat (first | exact (Kd.zAk HR1_0.out HB.out) | (with_reducible refine Kd.zAj ?_ _) | (with_reducible refine Kd.zAs ?_ _) | (with_reducible refine Kd.zB2 ?_))); (case side4 => exact HC1_0.out); rintro e w' ⟨rfl, ⟨nd, rfl⟩⟩; refine ⟨_, rfl, ?_⟩))
 go_ret
 exact ⟨by first | rfl | (simp [zAr, zAq] <;> rfl) | (simp [*, zAr, zAq] <;> rfl), by repeat (first | (with_reducible first | exact HB.out | apply zA1 | apply zA0 | apply zA3 | refine zA4 ?_ GE182.out | refine zA4 ?_ GE183.out) | exact HB.out), (by repeat (first | (with_reducible first | exact HX.out | apply Gr.alloc | apply Gr.drewN | apply Gr.drew) | exact HX.out))⟩
theorem zCd.calls (k : Nat) (A0_0 : Option Addr) (c0_0 : Nat) (l0_0 : List Int) (A0_1 : Option Addr) (c0_1 : Nat) (l0_1 : List Int) (A1_0 : Option Addr) (c1_0 : Nat) (l1_0 : List Int) (A1_1 : Option Addr) (c1_1 : Nat) (l1_1 : List Int) (r : Int) (w : World) (hr0_0 : Kd.C (Kd.int .i64) w A0_0 l0_0.length l0_0) (hc0_0 : l0_0.length ≤ c0_0) (hr0_1 : Kd.C (Kd.int .i64) w A0_1 l0_1.length l0_1) (hc0_1 : l0_1.length ≤ c0_1) (hr1_0 : Kd.C (Kd.int .i64) w A1_0 l1_0.length l1_0) (hc1_0 : l1_0.length ≤ c1_0) (hr1_1 : Kd.C (Kd.int .i64) w A1_1 l1_1.length l1_1) (hc1_1 : l1_1.length ≤ c1_1) (h : zCd.f k l0_0 l0_1 l1_0 l1_1 = some r) :
  Calls Tryz.prog 38 #[.agg #[.slice A0_0 l0_0.length c0_0, .slice A0_1 l0_1.length c0_1], .agg #[.slice A1_0 l1_0.length c1_0, .slice A1_1 l1_1.length c1_1]] w fun e w' => e = .returned (.int .i64 r) ∧ Below w.heap.size w w' :=
 (zCd.exact k A0_0 c0_0 l0_0 A0_1 c0_1 l0_1 A1_0 c1_0 l1_0 A1_1 c1_1 l1_1 r w hr0_0 hc0_0 hr0_1 hc0_1 hr1_0 hc1_0 hr1_1 hc1_1 h).mono fun _ _ h_ => ⟨h_.1, h_.2.1⟩
end
end Go.Proofs.YtbghfbhlbfcloaaGreatDoor.PL
namespace Go.Proofs.YtbghfbhlbfcloaaGreatDoor.PL
section
open Go.RowKit Go.Proofs.YtbghfbhlbfcloaaGreatDoorW.PrintWords Go.Proofs.YtbghfbhlbfcloaaGreatDoorW.PrintLast Go.Proofs.YtbghfbhlbfcloaaGreatDoorW.PrintMore
set_option linter.unusedVariables false
set_option linter.unusedSimpArgs false
section
variable {P : Program} {ops : Array Oper} {Q : Exit → Act → World → Prop}
theorem uponIn_of {o : Oper} {a : Act} {K : Act → World → Prop} {n l : Nat} {r : Result Next} (h : o.upon P a K Q r) : o.uponIn (Fence.wide.inRound l) n P a K Q r := by
 cases r with
 | ok x w =>
  cases x <;> simp only [Oper.upon, Oper.uponIn] at h ⊢ <;> first | exact h | skip
  ·refine ⟨by simp [Fence.wide], CallsIn.inRound l (callsIn_wide.2 (Calls.mono h (fun e w'' he => ?_)))⟩
   cases e <;> exact he
  ·refine ⟨by simp [Fence.wide], fun c cs _ => ?_⟩
   obtain ⟨v, w', hr, hs⟩ := h c cs
   exact ⟨v, w', hr, stepsIn_wide.2 hs⟩
 | halt x w => cases x <;> simp only [Oper.upon, Oper.uponIn] at h ⊢ <;> exact h
theorem wpAnyIn_of (hL : ¬ LetsOut Q) (hnd : ∀ (i : Nat) (o : Oper), ops[i]? = some o → ∀ c, o.op ≠ .defer c) {n l : Nat} : ∀ (fuel : Nat) (listed : Array Bool) (a : Act) (w : World), wpAny P .any ops Q fuel listed a w → wpAnyIn (Fence.wide.inRound l) n P .any ops Q fuel listed a w
 | 0, listed, a, w, h => h
 | fuel + 1, listed, a, w, h => by
  refine ⟨h.1, fun i hi => ?_⟩
  have h1 := h.2 i hi
  unfold wpOp at h1
  unfold wpOpIn
  cases ho : ops[i]? with
  | none =>
   rw [ho] at h1
   exact wpAnyIn_of hL hnd fuel _ a w h1
  | some o =>
   rw [ho] at h1
   simp only at h1 ⊢
   split
   ·rename_i hw
    rw [if_pos hw] at h1
    rcases h1 with h1 | h1
    ·refine ⟨fun _ _ => trivial, ?_⟩
     rw [Oper.semAt_eq _ _ _ (hnd i o ho)]
     exact uponIn_of (Oper.wp_mono (fun a w hh => wpAnyIn_of hL hnd fuel _ a w hh) h1)
    ·exact absurd h1.2 hL
   ·rename_i hw
    rw [if_neg hw] at h1
    exact ⟨fun _ _ => trivial, wpAnyIn_of hL hnd fuel _ _ w h1⟩
theorem start_in {id n l m : Nat} {a : Act} {w : World} {S : World → Prop} {ds : List Nat} (L : Array Bool) (hm : P.follows .mixedOrders = true) (hn : ops.size = n) (hl : Array.replicate n false = L) (hL : ¬ LetsOut Q) (hnd : ∀ (i : Nat) (o : Oper), ops[i]? = some o → ∀ c, o.op ≠ .defer c)
  (hS : S w.drew) (h : S w.drew → zC4 P .any ops Q S ds n L a w.drew) : (Code.region id ops true).wpIn (Fence.wide.inRound l) m P Q a w := by
 subst hn
 subst hl
 exact wpIn_region_any hm (wpAnyIn_of hL hnd _ _ a _ (wpAny_of_last _ _ _ _ (h hS)))
end
end
end Go.Proofs.YtbghfbhlbfcloaaGreatDoor.PL
namespace Go.Proofs.YtbghfbhlbfcloaaGreatDoor.PL
section
open Go.RowKit Go.Proofs.YtbghfbhlbfcloaaGreatDoorW.PrintWords Go.Proofs.YtbghfbhlbfcloaaGreatDoorW.PrintLast Go.Proofs.YtbghfbhlbfcloaaGreatDoorW.PrintMore
attribute [local go_sem] Oper.semAt_some
set_option linter.unusedVariables false
set_option linter.unusedSimpArgs false
def nextS (m s : Int) : Int := Go.bits .and .u64 (IntKind.u64.wrap (s - 1)) m
def Chain (m : Int) : Int → List Int → Prop
 | s, [] => s = 0
 | s, a :: r => a = s ∧ 0 < s ∧ 0 ≤ nextS m s ∧ nextS m s < s ∧ Chain m (nextS m s) r
theorem grown_of_below {W W' : World} (h : Below W.heap.size W W') : W.grownBy W' none := ⟨h.os, h.tape, h.output, h.size, fun k hk _ => h.block k hk⟩
theorem wide_depth : ¬ Fence.wide.depth.isSome = true := by simp [Fence.wide]
structure Kq (n₁ mB lB : Nat) (W W' : World) : Prop where mk ::
 b : Below n₁ W W'
 m : W'.heap[mB]? = W.heap[mB]?
 l : W'.heap[lB]? = W.heap[lB]?
theorem Kq.refl (n₁ mB lB : Nat) (W : World) : Kq n₁ mB lB W W := ⟨Below.refl _ _, rfl, rfl⟩
theorem Kq.trans {n₁ mB lB : Nat} {A B C : World} (h : Kq n₁ mB lB A B) (k : Kq n₁ mB lB B C) : Kq n₁ mB lB A C := ⟨h.b.trans k.b, k.m.trans h.m, k.l.trans h.l⟩
theorem Kq.of {n n₁ mB lB : Nat} {A B : World} (h : Below n A B) (h1 : n₁ ≤ n) (hm : mB < n) (hl : lB < n) : Kq n₁ mB lB A B := ⟨h.mono h1, h.block _ hm, h.block _ hl⟩
theorem cell_of_heap {W W' : World} {k : Nat} (h : W'.heap[k]? = W.heap[k]?) (o : Nat) : W'.cell? ⟨k, o, none⟩ = W.cell? ⟨k, o, none⟩ := by simp only [World.cell?, h]
set_option maxRecDepth 100000 in
set_option maxHeartbeats 2000000 in
theorem subsets_in (k : Nat) (AL : Option Addr) (cL : Nat) (L : List Int) (m : Int) (ms : List Int) (cn : Int → Bool) (mB lB n₀ : Nat) (n l : Nat) (J Jx : List Int → World → Prop) (W : World) (hn0 : n₀ ≤ W.heap.size)
  (hJ : AbidesFrom W.heap.size J)
  (hm : W.cell? ⟨mB, 0, none⟩ = some (.int .u64 m)) (hl : W.cell? ⟨lB, 0, none⟩ = some (.slice AL L.length cL))
  (hC : ∀ W', Kq n₀ mB lB W W' → Kd.C (Kd.int .u64) W' AL L.length L) (hcL : L.length ≤ cL) (hG : ∀ W', Kq n₀ mB lB W W' → Kd.C (Kd.int .u8) W' (some tabA) tabL.length tabL)
  (hch : Chain m m ms) (hcn : ∀ s ∈ ms, zAg.f k L s = some (cn s))
  (hY : ∀ pre x W1, x ∈ ms.filter cn → J pre W1 → pre.length < (ms.filter cn).length → YieldAt Fence.wide (n - 1) Tryz.prog l #[.int .u64 x] W1 fun e W' =>
   (e = .returned (.bool true) ∧ J (pre ++ [x]) W' ∧ Kq n₀ mB lB W1 W') ∨ (e = .returned (.bool false) ∧ Jx (pre ++ [x]) W'))
  (h0 : J [] W) :
  CallsIn Fence.wide n Tryz.prog 52 #[.func (.yield l) #[] #[], .pointer (some ⟨mB, 0, none⟩), .pointer (some ⟨lB, 0, none⟩)] W fun e W' => (∃ v, e = .returned v) ∧
   ((∃ xs, xs = ms.filter cn ∧ J xs W') ∨ (∃ pre, True ∧ Jx pre W')) := by
 have HC := zA2.mk hC
 have HCL := zA2.mk hcL
 have HG := zA2.mk hG
 have HCN := zA2.mk hcn
 have HY := zA2.mk hY
 have HJ := zA2.mk hJ
 have HN := zA2.mk hn0
 have hB0 : Kq n₀ mB lB W W := Kq.refl _ _ _ _
 clear hC hcL hG hcn hY hJ hn0
 refine callsIn_of_wp Tryz.func52 rfl trivial ?_ rfl
 simp only [Tryz.ntmps52, List.size_toArray, List.length_cons, List.length_nil, Nat.reduceAdd, Nat.reduceSub, Array.replicate_succ, Array.replicate_zero, List.push_toArray, List.append_toArray, List.nil_append, List.cons_append]
 gi_wp2
 gi_loopw [4] (fun v4 wr => ∃ (s : Int) (pre rest : List Int), v4 = .int .u64 s ∧ zA2 (ms = pre ++ rest) ∧ zA2 (Chain m s rest) ∧ zA2 (J (pre.filter cn) wr) ∧ zA2 (Kq n₀ mB lB W wr) ∧ zA2 (W.heap.size ≤ wr.heap.size)) (fun v4 _ => (intOf v4).toNat)
 case atStart => exact ⟨m, [], ms, rfl, ⟨rfl⟩, ⟨hch⟩, ⟨h0⟩, ⟨Kq.refl _ _ _ _⟩, ⟨Nat.le_refl _⟩⟩
 case round =>
  obtain ⟨s, pre, rest, rfl, HM, HCH, HJs, HB, HSZ⟩ := hrel
  have hmr := (cell_of_heap HB.out.m 0).trans hm
  have hlr := (cell_of_heap HB.out.l 0).trans hl
  cases rest with
  | nil =>
   obtain rfl : s = 0 := HCH.out
   gi_wp2
   go_end0
   have e := HM.out
   rw [List.append_nil] at e
   exact ⟨⟨_, rfl⟩, .inl ⟨_, rfl, by rw [e]; exact HJs.out⟩⟩
  | cons a r =>
   obtain ⟨rfl, hs0, hs1, hs2, hch2⟩ := HCH.out
   have HCH2 := zA2.mk hch2
   clear hch2
   have hmem : a ∈ ms := by rw [HM.out]; simp
   have hf := HCN.out a hmem
   have hne : (a != 0) = true := by simp; omega
   have CC := callsIn_wide (n := n - 1) |>.2 (zAg.calls k AL cL L a (cn a) wr (HC.out wr HB.out) HCL.out (HG.out wr HB.out) hf)
   have HCC := zA2.mk CC
   clear CC hf
   cases hc : cn a with
   | false =>
    have Hc := zA2.mk hc
    rw [hc] at HCC
    clear hc
    gi_wp2_with (refine ⟨trivial, (fun h => absurd h wide_depth), ?_⟩; gi_at_call 35; refine HCC.out.mono ?_; rintro e w2 ⟨rfl, hb2⟩; have hm2 := (hb2.cell (World.block_lt_of_cell? wr _ hmr)).trans hmr; have HB2 := zA2.mk hb2; clear hb2)
    refine ⟨fun _ h => (by cases h), ?_⟩
    gi_wp2
    go_roundw
    case rel => exact ⟨nextS m a, pre ++ [a], r, rfl, ⟨by rw [HM.out]; simp⟩, HCH2, ⟨by rw [List.filter_append, List.filter_cons_of_neg (by rw [Hc.out]; simp), List.filter_nil, List.append_nil]; exact HJ.out _ _ _ none HJs.out (grown_of_below HB2.out) (fun r h => by cases h)⟩, ⟨HB.out.trans (Kq.of HB2.out (Nat.le_trans HN.out HSZ.out) (World.block_lt_of_cell? wr _ hmr) (World.block_lt_of_cell? wr _ hlr))⟩, ⟨Nat.le_trans HSZ.out HB2.out.size⟩⟩
    case measure => show (nextS m a).toNat < a.toNat; omega
   | true =>
    have hmem2 : (pre.filter cn).length < (ms.filter cn).length := by rw [HM.out, List.filter_append, List.filter_cons_of_pos hc]; simp
    rw [hc] at HCC
    have Hc := zA2.mk hc
    clear hc
    gi_wp2_with (refine ⟨trivial, (fun h => absurd h wide_depth), ?_⟩; gi_at_call 35; refine HCC.out.mono ?_; rintro e w2 ⟨rfl, hb2⟩; have hm2 := (hb2.cell (World.block_lt_of_cell? wr _ hmr)).trans hmr; have HB2 := zA2.mk hb2; clear hb2; obtain ⟨fn, tmps, assign, body, hy, hR⟩ := HY.out _ a w2 (List.mem_filter.2 ⟨hmem, Hc.out⟩) (HJ.out _ _ _ none HJs.out (grown_of_below HB2.out) (fun r h => by cases h)) hmem2; have HRR := zA2.mk hR; clear hR)
    refine ⟨fun h => absurd h wide_depth, HRR.out.mono ?_⟩
    rintro e W3 (⟨rfl, hJ3, hk3⟩ | ⟨rfl, hJx3⟩)
    ·have hm3 := (cell_of_heap hk3.m 0).trans hm2
     have HJ3 := zA2.mk hJ3
     have HK3 := zA2.mk hk3
     clear hJ3 hk3
     gi_wp2
     go_roundw
     case rel => exact ⟨nextS m a, pre ++ [a], r, rfl, ⟨by rw [HM.out]; simp⟩, HCH2, ⟨by rw [List.filter_append, List.filter_cons_of_pos Hc.out, List.filter_nil]; exact HJ3.out⟩, ⟨(HB.out.trans (Kq.of HB2.out (Nat.le_trans HN.out HSZ.out) (World.block_lt_of_cell? wr _ hmr) (World.block_lt_of_cell? wr _ hlr))).trans HK3.out⟩, ⟨Nat.le_trans HSZ.out (Nat.le_trans HB2.out.size HK3.out.b.size)⟩⟩
     case measure => show (nextS m a).toNat < a.toNat; omega
    ·have HJX := zA2.mk hJx3
     clear hJx3
     gi_wp2
     refine bodyPost_ret (results_none rfl _ _ _) rfl ?_
     exact ⟨⟨_, rfl⟩, .inr ⟨_, trivial, HJX.out⟩⟩
theorem subsets_stops (k : Nat) (AL : Option Addr) (cL : Nat) (L : List Int) (m : Int) (ms : List Int) (cn : Int → Bool) (mB lB n₀ : Nat) (n : Nat) (w0 : World) (hn0 : n₀ ≤ w0.heap.size)
  (hm : w0.cell? ⟨mB, 0, none⟩ = some (.int .u64 m)) (hl : w0.cell? ⟨lB, 0, none⟩ = some (.slice AL L.length cL))
  (hCb : ∀ W', Kq n₀ mB lB w0 W' → Kd.C (Kd.int .u64) W' AL L.length L) (hcL : L.length ≤ cL) (hGb : ∀ W', Kq n₀ mB lB w0 W' → Kd.C (Kd.int .u8) W' (some tabA) tabL.length tabL)
  (hch : Chain m m ms) (hcn : ∀ s ∈ ms, zAg.f k L s = some (cn s)) :
  SeqStopsK Fence.wide n Tryz.prog 52 #[.pointer (some ⟨mB, 0, none⟩), .pointer (some ⟨lB, 0, none⟩)] (fun x : { x : Int // x ∈ ms.filter cn } => #[.int .u64 x.1]) (Kq n₀ mB lB) (fun xs => xs.map (fun x => x.1) = ms.filter cn) (fun _ => True) (ms.filter cn).length w0 := by
 intro l J Jx W hW hJ _ hY h0
 have hB : Kq n₀ mB lB w0 W := Kq.of hW hn0 (World.block_lt_of_cell? w0 _ hm) (World.block_lt_of_cell? w0 _ hl)
 refine (subsets_in k AL cL L m ms cn mB lB n₀ n l (fun pre W' => ∃ xs : List { x : Int // x ∈ ms.filter cn }, xs.map (fun x => x.1) = pre ∧ J xs W') (fun _ W' => ∃ xs : List { x : Int // x ∈ ms.filter cn }, Jx xs W') W (Nat.le_trans hn0 hW.size) ?_ ((cell_of_heap hB.m 0).trans hm) ((cell_of_heap hB.l 0).trans hl) (fun W' h => hCb W' (hB.trans h)) hcL (fun W' h => hGb W' (hB.trans h)) hch hcn ?_ ⟨[], rfl, h0⟩).mono ?_
 ·rintro s A B row ⟨xs, e, hj⟩ hg hr
  exact ⟨xs, e, hJ xs A B row hj hg hr⟩
 ·rintro pre x W1 hx ⟨xs, rfl, hj⟩ hlen
  obtain ⟨fn, tmps, assign, body, hy, hR⟩ := hY xs ⟨x, hx⟩ W1 hj (by simpa using hlen)
  refine ⟨fn, tmps, assign, body, hy, hR.mono ?_⟩
  rintro e W' (⟨rfl, h1, h2⟩ | ⟨rfl, h1⟩)
  ·exact .inl ⟨rfl, ⟨_, by simp, h1⟩, h2⟩
  ·exact .inr ⟨rfl, _, h1⟩
 ·rintro e W' ⟨hv, ⟨xs, rfl, xs', he, hj⟩ | ⟨pre, _, xs', hj⟩⟩
  ·exact ⟨hv, .inl ⟨xs', he, hj⟩⟩
  ·exact ⟨hv, .inr ⟨xs', trivial, hj⟩⟩
end
end Go.Proofs.YtbghfbhlbfcloaaGreatDoor.PL
namespace Go.Proofs.YtbghfbhlbfcloaaGreatDoor.PL
section
open Go.RowKit Go.Proofs.YtbghfbhlbfcloaaGreatDoorW.PrintWords Go.Proofs.YtbghfbhlbfcloaaGreatDoorW.PrintLast Go.Proofs.YtbghfbhlbfcloaaGreatDoorW.PrintMore
attribute [local go_sem] Oper.semAt_some
set_option linter.unusedVariables false
set_option linter.unusedSimpArgs false
def cmpL : List Int → List Int → Int
 | [], [] => 0
 | [], _ :: _ => -1
 | _ :: _, [] => 1
 | a :: r, b :: t => if a < b then -1 else if b < a then 1 else cmpL r t
def befL (a b : List Int) : Int := if (a.length : Int) = (b.length : Int) then cmpL a b else (a.length : Int) - (b.length : Int)
theorem cmpL_neg : ∀ a b, cmpL b a = - cmpL a b
 | [], [] => rfl
 | [], _ :: _ => rfl
 | _ :: _, [] => rfl
 | a :: r, b :: t => by
  unfold cmpL
  by_cases h1 : a < b
  ·simp only [if_pos h1, if_neg (show ¬ b < a by omega)]; rfl
  ·by_cases h2 : b < a
   ·simp only [if_neg h1, if_pos h2]
   ·simp only [if_neg h1, if_neg h2]
    exact cmpL_neg r t
theorem cmpL_eq : ∀ a b, cmpL a b = 0 → a = b
 | [], [], _ => rfl
 | [], _ :: _, h => by simp [cmpL] at h
 | _ :: _, [], h => by simp [cmpL] at h
 | a :: r, b :: t, h => by
  unfold cmpL at h
  by_cases h1 : a < b
  ·rw [if_pos h1] at h; omega
  ·by_cases h2 : b < a
   ·rw [if_neg h1, if_pos h2] at h; omega
   ·rw [if_neg h1, if_neg h2] at h
    rw [cmpL_eq r t h, show a = b by omega]
theorem cmpL_le : ∀ a b c, cmpL a b ≤ 0 → cmpL b c ≤ 0 → cmpL a c ≤ 0
 | [], _, [], _, _ => by simp [cmpL]
 | [], _, _ :: _, _, _ => by simp [cmpL]
 | _ :: _, [], _, h, _ => by simp [cmpL] at h
 | _ :: _, _ :: _, [], _, h => by simp [cmpL] at h
 | a :: r, b :: t, c :: u, h, k => by
  have ih := cmpL_le r t u
  unfold cmpL at h k ⊢
  split at h <;> split at k <;> (try split at h) <;> (try split at k) <;> split <;> (try split) <;> first | omega | exact ih h k
theorem befL_neg (a b : List Int) : befL b a = - befL a b := by
 unfold befL
 by_cases h : (a.length : Int) = b.length
 ·rw [if_pos h, if_pos h.symm, cmpL_neg]
 ·rw [if_neg h, if_neg (fun e => h e.symm)]; omega
theorem befL_eq (a b : List Int) (h : befL a b = 0) : a = b := by
 unfold befL at h
 split at h
 ·exact cmpL_eq a b h
 ·omega
theorem befL_le (a b c : List Int) (h : befL a b ≤ 0) (k : befL b c ≤ 0) : befL a c ≤ 0 := by
 have ih := cmpL_le a b c
 unfold befL at *
 split at h <;> split at k <;> split <;> first | omega | exact ih h k
def befC (x y : S46) : Int := befL x.f0 y.f0
theorem befL_swo {α : Type} (f : α → List Int) : Go.Sort.SWO (Go.Proofs.ltOf fun x y => befL (f x) (f y)) where
 irrefl x := by
  have h := befL_neg (f x) (f x)
  simp only [Go.Proofs.ltOf, decide_eq_false_iff_not]; omega
 trans x y z h1 h2 := by
  simp only [Go.Proofs.ltOf, decide_eq_true_eq] at *
  have h3 := befL_le (f x) (f y) (f z) (by omega) (by omega)
  rcases Int.lt_or_eq_of_le h3 with h | h
  ·exact h
  ·have e := befL_eq _ _ h
   rw [e] at h1
   have h4 := befL_neg (f y) (f z)
   omega
 ntrans x y z h1 h2 := by
  simp only [Go.Proofs.ltOf, decide_eq_false_iff_not] at *
  have h4 := befL_neg (f x) (f y)
  have h5 := befL_neg (f y) (f z)
  have h6 := befL_neg (f x) (f z)
  have h3 := befL_le (f z) (f y) (f x) (by omega) (by omega)
  omega
def CU.k : Nat := 1000
def subs (m : Int) : Nat → Int → Option (List Int)
 | 0, _ => none
 | q + 1, s => if s = 0 then some [] else if 0 < s ∧ 0 ≤ nextS m s ∧ nextS m s < s then (subs m q (nextS m s)).bind fun r => some (s :: r) else none
theorem subs_chain (m : Int) : ∀ (q : Nat) (s : Int) (ms : List Int), subs m q s = some ms → Chain m s ms
 | 0, _, _, h => by simp [subs] at h
 | q + 1, s, ms, h => by
  unfold subs at h
  split at h
  ·rename_i h0
   injection h with h
   subst h
   exact h0
  ·split at h
   ·rename_i h1
    obtain ⟨r, hr, h⟩ := Option.bind_eq_some_iff.1 h
    injection h with h
    subst h
    exact ⟨rfl, h1.1, h1.2.1, h1.2.2, subs_chain m q _ r hr⟩
   ·cases h
def cnB (L : List Int) (s : Int) : Bool := (zAg.f CU.k L s).getD false
def ctO (L : List Int) (m x : Int) : Option (List S46) :=
 if Go.bits .and .u64 x (Go.bits .and .u64 m (IntKind.u64.wrap (-m))) = 0 then some [] else
 if Go.bits .andNot .u64 m x = 0 then some [] else
 (zAg.f CU.k L (Go.bits .andNot .u64 m x)).bind fun c => if c = true then
  (zAz.f CU.k x).bind fun a => (zAz.f CU.k (Go.bits .andNot .u64 m x)).bind fun b => some [⟨a, b⟩]
 else some []
def allO (L : List Int) (m : Int) : List Int → Option (List S46)
 | [] => some []
 | x :: r => (ctO L m x).bind fun a => (allO L m r).bind fun b => some (a ++ b)
def sortC (l : List S46) : List S46 := isort (leC befC) l
def okC (l : List S46) : Bool := decide (l.length ≤ 1000) && (l.all fun x => l.all fun y => zCd.f CU.k x.f0 x.f1 y.f0 y.f1 == some (befC x y)) && decide ((l.map fun x => x.f0).Nodup)
def CU.f (a0 : Int) (l0 : List S58) (l1 : List Int) : Option (List S46 × Int) :=
 (zB3.f CU.k a0 l0 l1).bind fun t => if t.2.2 = 0 then (zAg.f CU.k t.1 t.2.1).bind fun c => if c = true then
  (subs t.2.1 1000 t.2.1).bind fun ms => if ms.all (fun s => (zAg.f CU.k t.1 s).isSome) = true then (allO t.1 t.2.1 (ms.filter (cnB t.1))).bind fun out => if okC out = true then some (sortC out, 0) else none else none
 else some ([], 17) else some ([], t.2.2)
theorem allO_at {L : List Int} {m : Int} : ∀ {l : List Int} {out : List S46}, allO L m l = some out → ∀ x ∈ l, ∃ a, ctO L m x = some a
 | [], _, _, x, hx => by simp at hx
 | y :: r, out, h, x, hx => by
  unfold allO at h
  obtain ⟨a, ha, h⟩ := Option.bind_eq_some_iff.1 h
  obtain ⟨b, hb, h⟩ := Option.bind_eq_some_iff.1 h
  rcases List.mem_cons.1 hx with rfl | hx
  ·exact ⟨a, ha⟩
  ·exact allO_at hb x hx
theorem allO_snoc {L : List Int} {m : Int} : ∀ {l : List Int} {out a : List S46} {x : Int}, allO L m l = some out → ctO L m x = some a → allO L m (l ++ [x]) = some (out ++ a)
 | [], out, a, x, h, hx => by
  simp only [allO, Option.some.injEq] at h
  subst h
  simp [allO, hx]
 | y :: r, out, a, x, h, hx => by
  unfold allO at h
  obtain ⟨p, hp, h⟩ := Option.bind_eq_some_iff.1 h
  obtain ⟨b, hb, h⟩ := Option.bind_eq_some_iff.1 h
  injection h with h
  subst h
  simp only [List.cons_append, allO, hp, Option.bind_some, allO_snoc hb hx, List.append_assoc]
theorem ctO_len {L : List Int} {m x : Int} {a : List S46} (h : ctO L m x = some a) : a.length ≤ 1 := by
 unfold ctO at h
 split at h
 ·injection h with h; subst h; simp
 ·split at h
  ·injection h with h; subst h; simp
  ·obtain ⟨c, _, h⟩ := Option.bind_eq_some_iff.1 h
   split at h
   ·obtain ⟨p, _, h⟩ := Option.bind_eq_some_iff.1 h
    obtain ⟨q, _, h⟩ := Option.bind_eq_some_iff.1 h
    injection h with h; subst h; simp
   ·injection h with h; subst h; simp
theorem allO_len {L : List Int} {m : Int} : ∀ {l : List Int} {out : List S46}, allO L m l = some out → out.length ≤ l.length
 | [], out, h => by
  simp only [allO, Option.some.injEq] at h
  subst h
  simp
 | y :: r, out, h => by
  unfold allO at h
  obtain ⟨p, hp, h⟩ := Option.bind_eq_some_iff.1 h
  obtain ⟨b, hb, h⟩ := Option.bind_eq_some_iff.1 h
  injection h with h
  subst h
  have h1 := ctO_len hp
  have h2 := allO_len hb
  simp only [List.length_append, List.length_cons]
  omega
theorem subs_len (m : Int) : ∀ (q : Nat) (s : Int) (ms : List Int), subs m q s = some ms → ms.length ≤ q
 | 0, _, _, h => by simp [subs] at h
 | q + 1, s, ms, h => by
  unfold subs at h
  split at h
  ·injection h with h; subst h; simp
  ·split at h
   ·obtain ⟨r, hr, h⟩ := Option.bind_eq_some_iff.1 h
    injection h with h
    subst h
    have := subs_len m q _ r hr
    simp; omega
   ·cases h
end
end Go.Proofs.YtbghfbhlbfcloaaGreatDoor.PL
namespace Go.Proofs.YtbghfbhlbfcloaaGreatDoor.PL
section
set_option linter.unusedVariables false
set_option linter.unusedSimpArgs false
open Go.RowKit Go.Proofs.YtbghfbhlbfcloaaGreatDoorW.PrintWords Go.Proofs.YtbghfbhlbfcloaaGreatDoorW.PrintLast Go.Proofs.YtbghfbhlbfcloaaGreatDoorW.PrintMore
theorem EI_wo {m p : Nat} : ((EI m).filter fun x => !decide (x ∈ EI p)) = EI (wo m p) := by
 unfold EI El
 rw [List.filter_map, List.filter_filter]
 congr 1
 refine List.filter_congr fun i hi => ?_
 have hi6 := List.mem_range.1 hi
 rw [wo_bit m p i hi6]
 have e : decide (((i : Nat) : Int) ∈ List.map (fun i : Nat => (i : Int)) (List.filter (fun i => p.testBit i) (List.range 6))) = p.testBit i := by
  cases e : p.testBit i with
  | true => exact decide_eq_true (List.mem_map.2 ⟨i, List.mem_filter.2 ⟨hi, e⟩, rfl⟩)
  | false =>
   refine decide_eq_false fun h => ?_
   obtain ⟨j, hj, he⟩ := List.mem_map.1 h
   obtain rfl : j = i := by omega
   rw [(List.mem_filter.1 hj).2] at e
   cases e
 simp only [Function.comp, e]
 exact Bool.and_comm _ _
theorem piece_ex {A : List Nat} (hA : Gd A) (m : Nat) (hm : m < 64) (h0 : m ≠ 0) : ∃ p, IsP A m p := by
 obtain ⟨p, _, h⟩ := piece_f hA m hm h0 700 (Nat.le_refl _)
 exact ⟨p, h⟩
def cB (A : List Nat) (x : Nat) : Bool := cnB (LI A) (x : Int)
theorem cB_f {A : List Nat} (hA : Gd A) {x : Nat} (hx : x < 64) (h0 : x ≠ 0) (k : Nat) (hk : 700 ≤ k) : zAg.f k (LI A) (x : Int) = some (cB A x) := by
 obtain ⟨p, hp⟩ := piece_ex hA x hx h0
 unfold cB cnB
 rw [connected_f hA x p hx h0 hp k hk, connected_f hA x p hx h0 hp CU.k (by decide)]
 rfl
theorem rcB_f {A : List Nat} {E : List S58} (hA : Gd A) (hE : Ed A E) (n : Int) {x : Nat} (hx : x < 64) (h0 : x ≠ 0) (k : Nat) (hk : 200 ≤ k) : zBo.f k n E (EI x) = some (cB A x) := by
 obtain ⟨p, hp⟩ := piece_ex hA x hx h0
 rw [rc_f hE n hx h0 hp k hk]
 unfold cB cnB
 rw [connected_f hA x p hx h0 hp CU.k (by decide)]
 rfl
end
end Go.Proofs.YtbghfbhlbfcloaaGreatDoor.PL
namespace Go.Proofs.YtbghfbhlbfcloaaGreatDoor.PL
section
set_option linter.unusedVariables false
set_option linter.unusedSimpArgs false
open Go.RowKit Go.Proofs.YtbghfbhlbfcloaaGreatDoorW.PrintWords Go.Proofs.YtbghfbhlbfcloaaGreatDoorW.PrintLast Go.Proofs.YtbghfbhlbfcloaaGreatDoorW.PrintMore
def SB (m : Nat) : List Nat := ((List.range 64).filter fun x => x != 0 && (x &&& m == x)).reverse
theorem SB_mem {m x : Nat} : x ∈ SB m ↔ x < 64 ∧ x ≠ 0 ∧ x &&& m = x := by
 unfold SB
 rw [List.mem_reverse, List.mem_filter, List.mem_range]
 simp
theorem SB_nodup (m : Nat) : (SB m).Nodup := by
 unfold SB
 exact (List.reverse_perm _).nodup_iff.2 (List.Pairwise.filter _ List.nodup_range)
theorem SB_len (m : Nat) : (SB m).length ≤ 64 := by
 unfold SB
 rw [List.length_reverse]
 have := List.length_filter_le (fun x => x != 0 && (x &&& m == x)) (List.range 64)
 simpa using this
theorem subs_tab : ((List.range 64).all fun m => subs (m : Int) 1000 (m : Int) == some ((SB m).map fun x : Nat => (x : Int))) = true := by kernel_rfl
theorem subs_f (m : Nat) (hm : m < 64) : subs (m : Int) 1000 (m : Int) = some ((SB m).map fun x : Nat => (x : Int)) := by
 have h := List.all_eq_true.1 subs_tab m (List.mem_range.2 hm)
 simpa using h
def cutQ (A : List Nat) (m x : Nat) : Bool := x.testBit (lo m) && (wo m x != 0) && cB A (wo m x)
def cutOf (m x : Nat) : S46 := ⟨EI x, EI (wo m x)⟩
theorem pow_tab : ((List.range 64).all fun x => (List.range 6).all fun i => x &&& 2 ^ i == (x.testBit i).toNat * 2 ^ i) = true := by kernel_rfl
theorem pow_f (x i : Nat) (hx : x < 64) (hi : i < 6) : x &&& 2 ^ i = (x.testBit i).toNat * 2 ^ i := by
 have h := List.all_eq_true.1 (List.all_eq_true.1 pow_tab x (List.mem_range.2 hx)) i (List.mem_range.2 hi)
 exact eq_of_beq h
theorem ctO_f {A : List Nat} (hA : Gd A) {m x : Nat} (hm : m < 64) (h0 : m ≠ 0) (hx : x < 64) : ctO (LI A) (m : Int) (x : Int) = some (if cutQ A m x = true then [cutOf m x] else []) := by
 obtain ⟨l1, l2, l3, l4⟩ := lo_f m hm h0
 have h2 : 2 ^ lo m < 64 := Nat.pow_lt_pow_right (by decide) l3
 have hb : x &&& 2 ^ lo m = (x.testBit (lo m)).toNat * 2 ^ lo m := pow_f x (lo m) hx l3
 have hp : 0 < 2 ^ lo m := Nat.pow_pos (by decide)
 unfold ctO
 rw [l1, andI x _ hx h2, andNotI m x hm hx, hb]
 cases e : x.testBit (lo m) with
 | false =>
  have : cutQ A m x = false := by unfold cutQ; rw [e]; rfl
  rw [this]
  simp
 | true =>
  rw [if_neg (by simp only [Bool.toNat_true, Nat.one_mul]; omega)]
  by_cases hw : wo m x = 0
  ·have : cutQ A m x = false := by unfold cutQ; rw [e, hw]; rfl
   rw [if_pos (by omega), this]
   rfl
  ·have hq : cutQ A m x = cB A (wo m x) := by
    unfold cutQ
    rw [e, bne_iff_ne.2 hw]
    rfl
   rw [if_neg (by omega), cB_f hA (wo_lt m x hm) hw CU.k (by decide), Option.bind_some, hq]
   cases cB A (wo m x) with
   | false => rfl
   | true => 
    rw [if_pos rfl, listed_f CU.k (by decide) x hx, Option.bind_some, listed_f CU.k (by decide) _ (wo_lt m x hm), Option.bind_some]
    rfl
theorem allO_f {A : List Nat} (hA : Gd A) {m : Nat} (hm : m < 64) (h0 : m ≠ 0) : ∀ l : List Nat, (∀ x ∈ l, x < 64) → allO (LI A) (m : Int) (l.map fun x : Nat => (x : Int)) = some ((l.filter (cutQ A m)).map (cutOf m))
 | [], _ => rfl
 | x :: r, h => by
  rw [List.map_cons, allO, ctO_f hA hm h0 (h x (by simp)), Option.bind_some, allO_f hA hm h0 r (fun y hy => h y (by simp [hy])), Option.bind_some]
  by_cases hq : cutQ A m x = true
  ·rw [if_pos hq, List.filter_cons_of_pos hq]
   rfl
  ·rw [if_neg hq, List.filter_cons_of_neg hq]
   rfl
theorem EI_inj {a b : Nat} (ha : a < 64) (hb : b < 64) (h : EI a = EI b) : a = b := bit_ext ha hb fun i hi => by
 have h1 : ((i : Nat) : Int) ∈ EI a ↔ (i : Int) ∈ EI b := by rw [h]
 have key : ∀ m : Nat, ((i : Nat) : Int) ∈ EI m ↔ m.testBit i = true := fun m => by
  rw [EI_mem]
  constructor
  ·rintro ⟨j, hj, _, hb⟩
   obtain rfl : i = j := by omega
   exact hb
  ·exact fun h => ⟨i, rfl, hi, h⟩
 rw [key, key] at h1
 cases e : a.testBit i with
 | true => exact (h1.1 e).symm
 | false =>
  cases e2 : b.testBit i with
  | false => rfl
  | true => rw [h1.2 e2] at e; cases e
def leM (x y : Nat) : Bool := leC befL (EI x) (EI y)
theorem leM_trans (a b c : Nat) (h : leM a b = true) (k : leM b c = true) : leM a c = true := by
 simp only [leM, leC, Bool.not_eq_true', decide_eq_false_iff_not] at *
 have h1 := befL_neg (EI a) (EI b)
 have h2 := befL_neg (EI b) (EI c)
 have h3 := befL_neg (EI a) (EI c)
 have := befL_le (EI a) (EI b) (EI c) (by omega) (by omega)
 omega
theorem leM_tot (a b : Nat) : (leM a b || leM b a) = true := by
 have h1 := befL_neg (EI a) (EI b)
 unfold leM leC
 by_cases h : befL (EI b) (EI a) < 0
 ·rw [decide_eq_false (show ¬ befL (EI a) (EI b) < 0 by omega)]
  simp
 ·rw [decide_eq_false h]
  rfl
theorem leM_anti {a b : Nat} (ha : a < 64) (hb : b < 64) (h : leM a b = true) (k : leM b a = true) : a = b := by
 simp only [leM, leC, Bool.not_eq_true', decide_eq_false_iff_not] at *
 have h1 := befL_neg (EI a) (EI b)
 exact EI_inj ha hb (befL_eq _ _ (by omega))
def SO (m : Nat) : List Nat := isort leM (SB m)
theorem SO_filter (m : Nat) (q : Nat → Bool) : isort leM ((SB m).filter q) = (SO m).filter q :=
 isort_filter leM leM_trans leM_tot q (SB m) fun _ _ ha hb h k => leM_anti (SB_mem.1 ha).1 (SB_mem.1 hb).1 h k
theorem SO_mem {m x : Nat} : x ∈ SO m ↔ x < 64 ∧ x ≠ 0 ∧ x &&& m = x := ((isort_perm leM (SB m)).mem_iff).trans SB_mem
theorem SO_len (m : Nat) : (SO m).length ≤ 64 := by
 unfold SO
 rw [(isort_perm leM (SB m)).length_eq]
 exact SB_len m
theorem bef_tab : ((List.range 64).all fun x => (List.range 64).all fun y => zBz.f 20 (EI x) (EI y) == some (befL (EI x) (EI y))) = true := by kernel_rfl
theorem bef_f (k : Nat) (hk : 20 ≤ k) (x y : Nat) (hx : x < 64) (hy : y < 64) : zBz.f k (EI x) (EI y) = some (befL (EI x) (EI y)) := by
 have h := List.all_eq_true.1 (List.all_eq_true.1 bef_tab x (List.mem_range.2 hx)) y (List.mem_range.2 hy)
 exact up (fun k => zBz.mono (EI x) (EI y) k) (by simpa using h) k hk
theorem sortC_map (m : Nat) (l : List Nat) : sortC (l.map (cutOf m)) = (isort leM l).map (cutOf m) := isort_map (cutOf m) (leC befC) l
theorem okC_f {m : Nat} (l : List Nat) (hl : l.length ≤ 64) (hlt : ∀ x ∈ l, x < 64) (hn : l.Nodup) : okC (l.map (cutOf m)) = true := by
 unfold okC
 rw [Bool.and_eq_true, Bool.and_eq_true]
 refine ⟨⟨decide_eq_true (by rw [List.length_map]; omega), ?_⟩, decide_eq_true ?_⟩
 ·rw [List.all_eq_true]
  intro p hp
  obtain ⟨x, hx, rfl⟩ := List.mem_map.1 hp
  rw [List.all_eq_true]
  intro q hq
  obtain ⟨y, hy, rfl⟩ := List.mem_map.1 hq
  have e : zCd.f CU.k (cutOf m x).f0 (cutOf m x).f1 (cutOf m y).f0 (cutOf m y).f1 = some (befC (cutOf m x) (cutOf m y)) := by
   unfold zCd.f
   have := bef_f CU.k (by decide) x y (hlt x hx) (hlt y hy)
   show (zBz.f CU.k (EI x) (EI y)).bind _ = _
   rw [this]
   rfl
  rw [e]
  exact beq_self_eq_true _
 ·rw [List.map_map]
  refine List.pairwise_map.2 (hn.imp_of_mem fun {a b} ha hb hne h => hne ?_)
  exact EI_inj (hlt a ha) (hlt b hb) h
def cutsM (A : List Nat) (m : Nat) : List Nat := (SO m).filter fun x => cutQ A m x && cB A x
theorem CU_plain (t : Nat → Bool) {A : List Nat} (hA : Gd A) {m : Nat} (hm : m < 64) (h0 : m ≠ 0) (hop : zB3.f CU.k 6 (Eg t) (EI m) = some (LI A, (m : Int), 0)) :
  CU.f 6 (Eg t) (EI m) = some (if cB A m = true then ((cutsM A m).map (cutOf m), 0) else ([], 17)) := by
 unfold CU.f
 rw [hop, Option.bind_some, if_pos rfl, cB_f hA hm h0 CU.k (by decide), Option.bind_some]
 cases cB A m with
 | false => rfl
 | true =>
  rw [if_pos rfl, if_pos rfl, subs_f m hm, Option.bind_some, if_pos ?_]
  ·have e1 : ((SB m).map fun x : Nat => (x : Int)).filter (cnB (LI A)) = ((SB m).filter (cB A)).map fun x : Nat => (x : Int) := by
    rw [List.filter_map]
    rfl
   have hlt : ∀ x ∈ (SB m).filter (cB A), x < 64 := fun x hx => (SB_mem.1 (List.mem_filter.1 hx).1).1
   rw [e1, allO_f hA hm h0 _ hlt, Option.bind_some, okC_f, if_pos rfl, sortC_map, List.filter_filter, SO_filter]
   ·rfl
   ·have h1 := List.length_filter_le (cutQ A m) ((SB m).filter (cB A))
    have h2 := List.length_filter_le (cB A) (SB m)
    have h3 := SB_len m
    omega
   ·exact fun x hx => hlt x (List.mem_filter.1 hx).1
   ·exact ((SB_nodup m).filter _).filter _
  ·rw [List.all_map, List.all_eq_true]
   intro x hx
   have hx' := SB_mem.1 hx
   show (zAg.f CU.k (LI A) (x : Int)).isSome = true
   rw [cB_f hA hx'.1 hx'.2.1 CU.k (by decide)]
   rfl
end
end Go.Proofs.YtbghfbhlbfcloaaGreatDoor.PL
namespace Go.Proofs.YtbghfbhlbfcloaaGreatDoor.PL
section
open Go.RowKit Go.Proofs.YtbghfbhlbfcloaaGreatDoorW.PrintWords Go.Proofs.YtbghfbhlbfcloaaGreatDoorW.PrintLast Go.Proofs.YtbghfbhlbfcloaaGreatDoorW.PrintMore
attribute [local go_sem] zBu zBs zC3 zC2 zBn zBm zBt zBr   -- for this text's walks alone
set_option linter.unusedVariables false
set_option linter.unusedSimpArgs false
def zBi.l0 : Nat → List Int → List Int → Int → Option (Bool)
 | 0, _, _, _ => none
 | k + 1, x0, x1, x5 => if x5 < (x0.length : Int) then (if 0 ≤ x5 then (if x5 < (x1.length : Int) then (if (rd x0 x5) = (rd x1 x5) then (zBi.l0 k x0 x1 (wrap64 (x5 + 1))) else (some (decide ((rd x0 x5) < (rd x1 x5))))) else (none)) else (none)) else (some false)
def zBi.f (k : Nat) (l0 : List Int) (l1 : List Int) : Option (Bool) := if (l0.length : Int) = (l1.length : Int) then (zBi.l0 k l0 l1 0) else (some (decide ((l0.length : Int) < (l1.length : Int))))
theorem zBi.zBv : ∀ k, (∀ y0 y1 y2, LeO (zBi.l0 k y0 y1 y2) (zBi.l0 (k + 1) y0 y1 y2))
 | 0 => fun _ _ _ r h => by simp [zBi.l0] at h
 | k + 1 => by
  have ih0 := zBi.zBv k
  ·intro y0 y1 y2
   unfold zBi.l0
   repeat' first
   | (with_reducible exact ih0 _ _ _)
   | (with_reducible exact LeO.refl _)
   | (with_reducible exact LeO.none _)
   | (with_reducible refine LeO.ite ?_ ?_)
   | (with_reducible refine LeO.bind ?_ (fun _ => ?_))
theorem zBi.mono : ∀ a0 a1 k, LeO (zBi.f k a0 a1) (zBi.f (k + 1) a0 a1) := by
 intro a0 a1 k
 have ih0 := zBi.zBv k
 unfold zBi.f
 repeat' first
   | (with_reducible exact ih0 _ _ _)
   | (with_reducible exact LeO.refl _)
   | (with_reducible exact LeO.none _)
   | (with_reducible refine LeO.ite ?_ ?_)
   | (with_reducible refine LeO.bind ?_ (fun _ => ?_))
set_option maxHeartbeats 8000000 in
set_option maxRecDepth 100000 in
theorem zBi.calls (k : Nat) (A0 : Option Addr) (c0 : Nat) (l0 : List Int) (A1 : Option Addr) (c1 : Nat) (l1 : List Int) (r : Bool) (w : World) (hr0 : Kd.C (Kd.int .i64) w A0 l0.length l0) (hc0 : l0.length ≤ c0) (hr1 : Kd.C (Kd.int .i64) w A1 l1.length l1) (hc1 : l1.length ≤ c1) (h : zBi.f k l0 l1 = some r) :
  Calls Tryz.prog 34 #[.slice A0 l0.length c0, .slice A1 l1.length c1] w fun e w' => e = .returned (.bool r) ∧ zB0 w w' := by
 have HR0 := zA2.mk hr0
 have HC0 := zA2.mk hc0
 clear hr0 hc0
 have HR1 := zA2.mk hr1
 have HC1 := zA2.mk hc1
 clear hr1 hc1
 have H : (if (l0.length : Int) = (l1.length : Int) then (zBi.l0 k l0 l1 0) else (some (decide ((l0.length : Int) < (l1.length : Int))))) = some r := h
 clear h
 by_cases c3 : (l0.length : Int) = (l1.length : Int)
 ·rw [if_pos c3] at H
  have c3b0 : ((l0.length : Int) == (l1.length : Int)) = true := beq_iff_eq.mpr c3
  have c3b1 : ((l0.length : Int) != (l1.length : Int)) = false := bne_eq_false_iff_eq.mpr c3
  have c3b2 : (l0.length == l1.length) = true := by first | simpa using c3 | (simp at c3 ⊢; omega)
  clear c3
  have H' := zA2.mk H
  clear H
  go_enter Tryz.func34, Tryz.ntmps34
  go_wp2
  repeat (go_quiet (fail); try go_wp2)
  go_loopg [5] k (fun kq v5 w' => ∃ (x5_1 : Int), v5 = .int .i64 x5_1 ∧ zA2 (zBi.l0 kq l0 l1 x5_1 = some r) ∧ zA2 (kq ≤ k) ∧ zB0 w w')
  case atStart => exact ⟨(0), (by first | rfl | (simp; done) | (simp [*]; done)), H', ⟨Nat.le_refl _⟩, by repeat (first | exact zB0.refl _ | apply zB0.step)⟩
  case round =>
   clear H'
   try clear c1
   try clear p2
   try clear c3
   try clear c3b0
   try clear c3b1
   try clear c3b2
   obtain ⟨x5_1, rfl, HA, HK1, ⟨m1, rfl⟩⟩ := hrel
   cases gk with
   | zero => exact absurd HA.out (by simp [zBi.l0])
   | succ k1 =>
    have H := HA.out
    clear HA
    simp only [zBi.l0] at H
    by_cases c4 : x5_1 < (l0.length : Int)
    ·rw [if_pos c4] at H
     have c4b0 : decide (x5_1 < (l0.length : Int)) = true := decide_eq_true c4
     clear c4
     by_cases c5 : 0 ≤ x5_1
     rotate_left
     ·rw [if_neg c5] at H
      exact absurd H (by simp)
     rw [if_pos c5] at H
     have c5b0 : decide (0 ≤ x5_1) = true := decide_eq_true c5
     clear c5
     by_cases c6 : x5_1 < (l1.length : Int)
     rotate_left
     ·rw [if_neg c6] at H
      exact absurd H (by simp)
     rw [if_pos c6] at H
     have c6b0 : decide (x5_1 < (l1.length : Int)) = true := decide_eq_true c6
     clear c6
     by_cases c7 : (rd l0 x5_1) = (rd l1 x5_1)
     ·rw [if_pos c7] at H
      have c7b0 : ((rd l0 x5_1) == (rd l1 x5_1)) = true := beq_iff_eq.mpr c7
      have c7b1 : ((rd l0 x5_1) != (rd l1 x5_1)) = false := bne_eq_false_iff_eq.mpr c7
      clear c7
      have H' := zA2.mk H
      clear H
      have p254 : 0 ≤ (x5_1 : Int) := of_decide_eq_true (by first | (with_reducible assumption) | assumption)
      have q254 : x5_1 < (l0.length : Int) := of_decide_eq_true (by first | (with_reducible assumption) | assumption)
      obtain ⟨ad254, e254, hx254_0⟩ := Kd.zC6 HR0.out x5_1 p254 q254
      cases e254
      replace p254 := eq_true p254
      replace q254 := eq_true q254
      have p255 : 0 ≤ (x5_1 : Int) := of_decide_eq_true (by first | (with_reducible assumption) | assumption)
      have q255 : x5_1 < (l1.length : Int) := of_decide_eq_true (by first | (with_reducible assumption) | assumption)
      obtain ⟨ad255, e255, hx255_0⟩ := Kd.zC6 HR1.out x5_1 p255 q255
      cases e255
      replace p255 := eq_true p255
      replace q255 := eq_true q255
      go_wp2
      repeat (go_quiet (fail); try go_wp2)
      go_roundg k1
      case measure => have := HK1.out; omega
      case rel => exact ⟨(wrap64 (x5_1 + 1)), (by first | rfl | (simp; done) | (simp [*]; done)), H', ⟨by have := HK1.out; omega⟩, by repeat (first | exact zB0.refl _ | apply zB0.step)⟩
     ·rw [if_neg c7] at H
      have c7b0 : ((rd l0 x5_1) == (rd l1 x5_1)) = false := beq_eq_false_iff_ne.mpr c7
      have c7b1 : ((rd l0 x5_1) != (rd l1 x5_1)) = true := bne_iff_ne.mpr c7
      obtain rfl := Option.some.inj H
      have p254 : 0 ≤ (x5_1 : Int) := of_decide_eq_true (by first | (with_reducible assumption) | assumption)
      have q254 : x5_1 < (l0.length : Int) := of_decide_eq_true (by first | (with_reducible assumption) | assumption)
      obtain ⟨ad254, e254, hx254_0⟩ := Kd.zC6 HR0.out x5_1 p254 q254
      cases e254
      replace p254 := eq_true p254
      replace q254 := eq_true q254
      have p255 : 0 ≤ (x5_1 : Int) := of_decide_eq_true (by first | (with_reducible assumption) | assumption)
      have q255 : x5_1 < (l1.length : Int) := of_decide_eq_true (by first | (with_reducible assumption) | assumption)
      obtain ⟨ad255, e255, hx255_0⟩ := Kd.zC6 HR1.out x5_1 p255 q255
      cases e255
      replace p255 := eq_true p255
      replace q255 := eq_true q255
      have p256 : 0 ≤ (x5_1 : Int) := of_decide_eq_true (by first | (with_reducible assumption) | assumption)
      have q256 : x5_1 < (l0.length : Int) := of_decide_eq_true (by first | (with_reducible assumption) | assumption)
      obtain ⟨ad256, e256, hx256_0⟩ := Kd.zC6 HR0.out x5_1 p256 q256
      obtain rfl : ad254 = ad256 := (by injection e256)
      replace p256 := eq_true p256
      replace q256 := eq_true q256
      have p257 : 0 ≤ (x5_1 : Int) := of_decide_eq_true (by first | (with_reducible assumption) | assumption)
      have q257 : x5_1 < (l1.length : Int) := of_decide_eq_true (by first | (with_reducible assumption) | assumption)
      obtain ⟨ad257, e257, hx257_0⟩ := Kd.zC6 HR1.out x5_1 p257 q257
      obtain rfl : ad255 = ad257 := (by injection e257)
      replace p257 := eq_true p257
      replace q257 := eq_true q257
      go_wp2
      repeat (go_quiet (fail); try go_wp2)
      go_ret
      exact ⟨by first | rfl | (simp; done) | (simp [*]; done), by repeat (first | exact zB0.refl _ | apply zB0.step)⟩
    ·rw [if_neg c4] at H
     have c4b0 : decide (x5_1 < (l0.length : Int)) = false := decide_eq_false c4
     clear c4
     obtain rfl := Option.some.inj H
     go_wp2
     repeat (go_quiet (fail); try go_wp2)
     go_ret
     exact ⟨by first | rfl | (simp; done) | (simp [*]; done), by repeat (first | exact zB0.refl _ | apply zB0.step)⟩
 ·rw [if_neg c3] at H
  have c3b0 : ((l0.length : Int) == (l1.length : Int)) = false := beq_eq_false_iff_ne.mpr c3
  have c3b1 : ((l0.length : Int) != (l1.length : Int)) = true := bne_iff_ne.mpr c3
  have c3b2 : (l0.length == l1.length) = false := by first | simpa using c3 | (simp at c3 ⊢; omega)
  obtain rfl := Option.some.inj H
  go_enter Tryz.func34, Tryz.ntmps34
  go_wp2
  repeat (go_quiet (fail); try go_wp2)
  go_ret
  exact ⟨by first | rfl | (simp; done) | (simp [*]; done), by repeat (first | exact zB0.refl _ | apply zB0.step)⟩
end
end Go.Proofs.YtbghfbhlbfcloaaGreatDoor.PL
namespace Go.Proofs.YtbghfbhlbfcloaaGreatDoor.PL
section
open Go.RowKit Go.Proofs.YtbghfbhlbfcloaaGreatDoorW.PrintWords Go.Proofs.YtbghfbhlbfcloaaGreatDoorW.PrintLast Go.Proofs.YtbghfbhlbfcloaaGreatDoorW.PrintMore
attribute [local go_sem] zBu zBs zC3 zC2 zBn zBm zBt zBr   -- for this text's walks alone
set_option linter.unusedVariables false
set_option linter.unusedSimpArgs false
mutual
def zAa.l0 : Nat → List Int → Int → List (List Int) → Int → Int → List (S58) → Option ((List (List Int)))
 | 0, _, _, _, _, _, _ => none
 | k + 1, x1, x2, x7, x8, x259000, x259001 => if x8 < (shl .i64 1 (x1.length : Int)) then (zAa.l1 k x1 x2 x7 x8 ([] : List Int) 0 x259000 x259001) else (some x7)
def zAa.l1 : Nat → List Int → Int → List (List Int) → Int → List Int → Int → Int → List (S58) → Option ((List (List Int)))
 | 0, _, _, _, _, _, _, _, _ => none
 | k + 1, x1, x2, x7, x8, x9, x10, x259000, x259001 => if x10 < (x1.length : Int) then (if 0 ≤ x10 then (if (Go.bits .and .i64 (shr .i64 x8 x10) 1) = 1 then (if x9.length < 17592186044416 then (zAa.l1 k x1 x2 x7 x8 (x9 ++ [rd x1 x10]) (wrap64 (x10 + 1)) x259000 x259001) else (none)) else (zAa.l1 k x1 x2 x7 x8 x9 (wrap64 (x10 + 1)) x259000 x259001)) else (none)) else (if (x9.length : Int) > x2 then (zAa.j2 k x1 x2 x7 x8 x9 true x259000 x259001) else ((zBo.f k x259000 x259001 x9).bind fun t263 => (zAa.j2 k x1 x2 x7 x8 x9 (!t263) x259000 x259001)))
def zAa.j2 : Nat → List Int → Int → List (List Int) → Int → List Int → Bool → Int → List (S58) → Option ((List (List Int)))
 | 0, _, _, _, _, _, _, _, _ => none
 | k + 1, x1, x2, x7, x8, x9, x47, x259000, x259001 => if x47 = true then (zAa.l0 k x1 x2 x7 (wrap64 (x8 + 1)) x259000 x259001) else (zAa.l2 k x1 x2 x7 x8 x9 0 x259000 x259001)
def zAa.l2 : Nat → List Int → Int → List (List Int) → Int → List Int → Int → Int → List (S58) → Option ((List (List Int)))
 | 0, _, _, _, _, _, _, _, _ => none
 | k + 1, x1, x2, x7, x8, x9, x11, x259000, x259001 => if x11 < (x7.length : Int) then (if 0 ≤ x11 then ((zBi.f k (rd_L1 x7 x11) x9).bind fun t265 => (if t265 = true then (zAa.l2 k x1 x2 x7 x8 x9 (wrap64 (x11 + 1)) x259000 x259001) else ((some (([] : List (List Int)) : List (List Int))).bind fun y266 => (if x11 ≤ (x7.length : Int) then ((some (x7.take (x11 : Int).toNat : List (List Int))).bind fun y269 => (if y266.length + y269.length < 5864062014805 then ((some (y266 ++ y269 : List (List Int))).bind fun y274 => (if y274.length < 5864062014805 then ((some (y274 ++ [x9] : List (List Int))).bind fun y277 => ((some (x7.drop (x11 : Int).toNat : List (List Int))).bind fun y280 => (if y277.length + y280.length < 5864062014805 then (zAa.l0 k x1 x2 (y277 ++ y280) (wrap64 (x8 + 1)) x259000 x259001) else (none)))) else (none))) else (none))) else (none))))) else (none)) else ((some (([] : List (List Int)) : List (List Int))).bind fun y288 => (if 0 ≤ x11 then (if x11 ≤ (x7.length : Int) then ((some (x7.take (x11 : Int).toNat : List (List Int))).bind fun y291 => (if y288.length + y291.length < 5864062014805 then ((some (y288 ++ y291 : List (List Int))).bind fun y296 => (if y296.length < 5864062014805 then ((some (y296 ++ [x9] : List (List Int))).bind fun y299 => ((some (x7.drop (x11 : Int).toNat : List (List Int))).bind fun y302 => (if y299.length + y302.length < 5864062014805 then (zAa.l0 k x1 x2 (y299 ++ y302) (wrap64 (x8 + 1)) x259000 x259001) else (none)))) else (none))) else (none))) else (none)) else (none)))
end
def zAa.f (k : Nat) (a0_0 : Int) (l0_1 : List (S58)) (l1 : List Int) (a2 : Int) : Option ((List (List Int))) := zAa.l0 k l1 a2 ([] : List (List Int)) 1 a0_0 l0_1
theorem zAa.zBv : ∀ k, (∀ y0 y1 y2 y3 y4 y5, LeO (zAa.l0 k y0 y1 y2 y3 y4 y5) (zAa.l0 (k + 1) y0 y1 y2 y3 y4 y5)) ∧ (∀ y0 y1 y2 y3 y4 y5 y6 y7, LeO (zAa.l1 k y0 y1 y2 y3 y4 y5 y6 y7) (zAa.l1 (k + 1) y0 y1 y2 y3 y4 y5 y6 y7)) ∧ (∀ y0 y1 y2 y3 y4 y5 y6 y7, LeO (zAa.j2 k y0 y1 y2 y3 y4 y5 y6 y7) (zAa.j2 (k + 1) y0 y1 y2 y3 y4 y5 y6 y7)) ∧ (∀ y0 y1 y2 y3 y4 y5 y6 y7, LeO (zAa.l2 k y0 y1 y2 y3 y4 y5 y6 y7) (zAa.l2 (k + 1) y0 y1 y2 y3 y4 y5 y6 y7))
 | 0 => ⟨fun _ _ _ _ _ _ r h => by simp [zAa.l0] at h, fun _ _ _ _ _ _ _ _ r h => by simp [zAa.l1] at h, fun _ _ _ _ _ _ _ _ r h => by simp [zAa.j2] at h, fun _ _ _ _ _ _ _ _ r h => by simp [zAa.l2] at h⟩
 | k + 1 => by
  obtain ⟨ih0, ih1, ih2, ih3⟩ := zAa.zBv k
  refine ⟨?_, ?_, ?_, ?_⟩
  ·intro y0 y1 y2 y3 y4 y5
   unfold zAa.l0
   repeat' first
   | (with_reducible exact ih0 _ _ _ _ _ _)
   | (with_reducible exact ih1 _ _ _ _ _ _ _ _)
   | (with_reducible exact ih2 _ _ _ _ _ _ _ _)
   | (with_reducible exact ih3 _ _ _ _ _ _ _ _)
   | (with_reducible exact zBo.mono _ _ _ _)
   | (with_reducible exact zBi.mono _ _ _)
   | (with_reducible exact LeO.refl _)
   | (with_reducible exact LeO.none _)
   | (with_reducible refine LeO.ite ?_ ?_)
   | (with_reducible refine LeO.bind ?_ (fun _ => ?_))
  ·intro y0 y1 y2 y3 y4 y5 y6 y7
   unfold zAa.l1
   repeat' first
   | (with_reducible exact ih0 _ _ _ _ _ _)
   | (with_reducible exact ih1 _ _ _ _ _ _ _ _)
   | (with_reducible exact ih2 _ _ _ _ _ _ _ _)
   | (with_reducible exact ih3 _ _ _ _ _ _ _ _)
   | (with_reducible exact zBo.mono _ _ _ _)
   | (with_reducible exact zBi.mono _ _ _)
   | (with_reducible exact LeO.refl _)
   | (with_reducible exact LeO.none _)
   | (with_reducible refine LeO.ite ?_ ?_)
   | (with_reducible refine LeO.bind ?_ (fun _ => ?_))
  ·intro y0 y1 y2 y3 y4 y5 y6 y7
   unfold zAa.j2
   repeat' first
   | (with_reducible exact ih0 _ _ _ _ _ _)
   | (with_reducible exact ih1 _ _ _ _ _ _ _ _)
   | (with_reducible exact ih2 _ _ _ _ _ _ _ _)
   | (with_reducible exact ih3 _ _ _ _ _ _ _ _)
   | (with_reducible exact zBo.mono _ _ _ _)
   | (with_reducible exact zBi.mono _ _ _)
   | (with_reducible exact LeO.refl _)
   | (with_reducible exact LeO.none _)
   | (with_reducible refine LeO.ite ?_ ?_)
   | (with_reducible refine LeO.bind ?_ (fun _ => ?_))
  ·intro y0 y1 y2 y3 y4 y5 y6 y7
   unfold zAa.l2
   repeat' first
   | (with_reducible exact ih0 _ _ _ _ _ _)
   | (with_reducible exact ih1 _ _ _ _ _ _ _ _)
   | (with_reducible exact ih2 _ _ _ _ _ _ _ _)
   | (with_reducible exact ih3 _ _ _ _ _ _ _ _)
   | (with_reducible exact zBo.mono _ _ _ _)
   | (with_reducible exact zBi.mono _ _ _)
   | (with_reducible exact LeO.refl _)
   | (with_reducible exact LeO.none _)
   | (with_reducible refine LeO.ite ?_ ?_)
   | (with_reducible refine LeO.bind ?_ (fun _ => ?_))
theorem zAa.mono : ∀ a0 a1 a2 a3 k, LeO (zAa.f k a0 a1 a2 a3) (zAa.f (k + 1) a0 a1 a2 a3) := by
 intro a0 a1 a2 a3 k
 obtain ⟨ih0, ih1, ih2, ih3⟩ := zAa.zBv k
 unfold zAa.f
 repeat' first
   | (with_reducible exact ih0 _ _ _ _ _ _)
   | (with_reducible exact ih1 _ _ _ _ _ _ _ _)
   | (with_reducible exact ih2 _ _ _ _ _ _ _ _)
   | (with_reducible exact ih3 _ _ _ _ _ _ _ _)
   | (with_reducible exact zBo.mono _ _ _ _)
   | (with_reducible exact zBi.mono _ _ _)
   | (with_reducible exact LeO.refl _)
   | (with_reducible exact LeO.none _)
   | (with_reducible refine LeO.ite ?_ ?_)
   | (with_reducible refine LeO.bind ?_ (fun _ => ?_))
set_option maxHeartbeats 8000000 in
set_option maxRecDepth 100000 in
theorem zAa.calls (k : Nat) (a0_0 : Int) (A0_1 : Option Addr) (c0_1 : Nat) (l0_1 : List (S58)) (A1 : Option Addr) (c1 : Nat) (l1 : List Int) (a2 : Int) (r : List (List Int)) (w : World) (hr0_1 : Kd.C k58 w A0_1 l0_1.length l0_1) (hc0_1 : l0_1.length ≤ c0_1) (hr1 : Kd.C (Kd.int .i64) w A1 l1.length l1) (hc1 : l1.length ≤ c1) (h : zAa.f k a0_0 l0_1 l1 a2 = some r) :
  Calls Tryz.prog 11 #[.agg #[.int .i64 a0_0, .slice A0_1 l0_1.length c0_1], .slice A1 l1.length c1, .int .i64 a2] w fun e w' => ∃ v0_ : Value, e = .returned (v0_) ∧ Kd.N (Kd.slice 3 (Kd.int .i64)) 23 w' w.heap.size (fun k_ => (w.heap.size ≤ k_)) v0_ r ∧ Below w.heap.size w w' := by
 have hu28 := Tryz.underlying28
 have HR0_1 := zA2.mk hr0_1
 have HC0_1 := zA2.mk hc0_1
 clear hr0_1 hc0_1
 have HR1 := zA2.mk hr1
 have HC1 := zA2.mk hc1
 clear hr1 hc1
 have HB := zA2.mk (Below.refl w.heap.size w)
 have H : (zAa.l0 k l1 a2 ([] : List (List Int)) 1 a0_0 l0_1) = some r := h
 clear h
 have H' := zA2.mk H
 clear H
 go_enter Tryz.func11, Tryz.ntmps11
 go_wp2_with (first | ((with_reducible refine zBl (N := 3) rfl ?_); refine zBj ?hg (N := 3) ?hd (cs := #[.int .i64 a0_0, .slice A0_1 l0_1.length c0_1]) (t := 28) ?hr ?_; (case hd => rfl); (case hg => rfl); (case hr => first | (go_simp; done) | (go_simp; rfl)); intro gb258 hg w4 hbox hb; have n0_ := zA2.mk (zAe (by repeat (first | (with_reducible first | exact HB.out | apply zA1 | apply zA0 | apply zA3) | exact HB.out)) hb); have n1_ := zA2.mk (hbox); have n2_ := zA2.mk ((by rw [hg]; exact (zAb (by repeat (first | (with_reducible first | exact HB.out | apply zA1 | apply zA0 | apply zA3) | exact HB.out))) : w.heap.size ≤ gb258)); have n3_ := zA2.mk ((by rw [hg]; exact (zAb (by repeat (first | (with_reducible first | exact HB.out | apply zA1 | apply zA0 | apply zA3) | exact HB.out))) : w.heap.size ≤ gb258)); clear HB; have HB := n0_; have BK258 := n1_; have GW258 := n2_; have GE258 := n3_; clear n0_ n1_ n2_ n3_; clear hb hbox hg))
 go_loopg [7, 8] k (fun kq v7 v8 w' => ∃ (x7_1 : List (List Int)) (x8_1 : Int), v8 = .int .i64 x8_1 ∧ zA2 (zAa.l0 kq l1 a2 x7_1 x8_1 a0_0 l0_1 = some r) ∧ zA2 (kq ≤ k) ∧ zA2 (Kd.N (Kd.slice 3 (Kd.int .i64)) 23 w' w.heap.size (fun k_ => (w.heap.size ≤ k_) ∧ k_ ≠ gb258) v7 x7_1) ∧ zA2 (w'.heap[gb258]? = some (.cells #[.int .i64 a0_0, (.slice A0_1 l0_1.length c0_1)] 28 (0, 0))) ∧ zA2 (Below w.heap.size w w'))
 case atStart => exact ⟨(([] : List (List Int))), (1), (by first | rfl | (simp; done) | (simp [*]; done)), H', ⟨Nat.le_refl _⟩, ⟨by first | exact Kd.S_nil _ _ _ _ _ | exact Kd.N_nil _ _ _ _ _ | exact Kd.V_nil _ _ _ _ _ | exact Kd.Q_nil _ _ _ _ _ | exact Kd.R_nil _ _ _ _ _⟩, ⟨by (with_reducible repeat (first | refine zA6 ?_ _ | refine zA8 ?_ | refine zA5 ?_ _)); exact BK258.out⟩, ⟨by repeat (first | (with_reducible first | exact HB.out | apply zA1 | apply zA0 | apply zA3 | refine zA4 ?_ GE258.out) | exact HB.out)⟩⟩
 case round =>
  clear H'
  try clear c1
  try clear p2
  obtain ⟨x7_1, x8_1, rfl, HA, HK1, HO_7, BK258, HB⟩ := hrel
  cases gk with
  | zero => exact absurd HA.out (by simp [zAa.l0])
  | succ k1 =>
   have H := HA.out
   clear HA
   simp only [zAa.l0] at H
   obtain ⟨ji5, hji5⟩ : ∃ j_ : Int, (shl .i64 1 (l1.length : Int)) = j_ := ⟨_, rfl⟩
   replace H : (if x8_1 < (ji5) then (zAa.l1 k1 l1 a2 x7_1 x8_1 ([] : List Int) 0 a0_0 l0_1) else (some x7_1)) = some r := by first | (rw [hji5] at H; exact H) | (simp only [hji5] at H ⊢; exact H)
   have hji5_ : (IntKind.i64.wrap (1 * 2 ^ min (l1.length : Int).toNat 64)) = ji5 := hji5
   have hji5z : (l1.length : Int) ≤ 64 → (IntKind.i64.wrap (1 * 2 ^ (l1.length : Int).toNat)) = ji5 := shl_small hji5
   have hji5p : (IntKind.i64.wrap (1 * 2 ^ min l1.length 64)) = ji5 := hji5_
   have hji5q : (l1.length : Int) ≤ 64 → (IntKind.i64.wrap (1 * 2 ^ l1.length)) = ji5 := hji5z
   have hji5r : (IntKind.i64.wrap (2 ^ min l1.length 64)) = ji5 := by have h_ := hji5p; rw [Int.one_mul] at h_; exact h_
   have hji5s : (l1.length : Int) ≤ 64 → (IntKind.i64.wrap (2 ^ l1.length)) = ji5 := fun hle_ => by have h_ := hji5q hle_; rw [Int.one_mul] at h_; exact h_
   have hji5u : (IntKind.i64.wrap (2 ^ min (l1.length : Int).toNat 64)) = ji5 := by have h_ := hji5_; rw [Int.one_mul] at h_; exact h_
   have hji5v : (l1.length : Int) ≤ 64 → (IntKind.i64.wrap (2 ^ (l1.length : Int).toNat)) = ji5 := fun hle_ => by have h_ := hji5z hle_; rw [Int.one_mul] at h_; exact h_
   have hji5y : (wrap64 (1 * 2 ^ min (l1.length : Int).toNat 64)) = ji5 := (i64_w _).symm.trans hji5_
   have hji5x : (l1.length : Int) ≤ 64 → (wrap64 (1 * 2 ^ (l1.length : Int).toNat)) = ji5 := fun h_ => (i64_w _).symm.trans (hji5z h_)
   by_cases c6 : x8_1 < (ji5)
   ·rw [if_pos c6] at H
    have c6b0 : decide (x8_1 < (ji5)) = true := decide_eq_true c6
    clear c6
    have H' := zA2.mk H
    clear H
    go_wp2
    go_loopg [9, 10] k1 (fun kq v9 v10 w' => ∃ (x9_2 : List Int) (x10_2 : Int), v10 = .int .i64 x10_2 ∧ zA2 (zAa.l1 kq l1 a2 x7_1 x8_1 x9_2 x10_2 a0_0 l0_1 = some r) ∧ zA2 (kq ≤ k1) ∧ zA2 (Kd.N (Kd.slice 3 (Kd.int .i64)) 23 w' w.heap.size (fun k_ => (w.heap.size ≤ k_) ∧ some k_ ≠ (v9 : Value).ownBlock ∧ k_ ≠ gb258) u7 x7_1) ∧ zA2 (Kd.R (Kd.int .i64) 3 w' w.heap.size (fun k_ => (w.heap.size ≤ k_)) v9 x9_2) ∧ zA2 (w'.heap[gb258]? = some (.cells #[.int .i64 a0_0, (.slice A0_1 l0_1.length c0_1)] 28 (0, 0))) ∧ zA2 (Below w.heap.size w w'))
    case atStart => exact ⟨(([] : List Int)), (0), (by first | rfl | (simp; done) | (simp [*]; done)), H', ⟨Nat.le_refl _⟩, ⟨by (with_reducible repeat (first | apply Kd.N_alloc | apply Kd.N_drewN | apply Kd.N_drew)); exact Kd.N_mono HO_7.out (fun _ hk => ⟨hk.1, ⟨(by simp [Value.ownBlock]), hk.2⟩⟩)⟩, ⟨by first | exact Kd.R_nil _ _ _ _ _ | exact Kd.N_nil _ _ _ _ _ | exact Kd.V_nil _ _ _ _ _ | exact Kd.Q_nil _ _ _ _ _ | exact Kd.S_nil _ _ _ _ _⟩, ⟨by (with_reducible repeat (first | refine zA6 ?_ _ | refine zA8 ?_ | refine zA5 ?_ _)); exact BK258.out⟩, ⟨by repeat (first | (with_reducible first | exact HB.out | apply zA1 | apply zA0 | apply zA3 | refine zA4 ?_ GE258.out) | exact HB.out)⟩⟩
    case round =>
     clear H'
     try clear c1
     try clear p2
     try clear c6
     try clear c6b0
     try clear p6
     try clear p2
     obtain ⟨x9_2, x10_2, rfl, HA, HK2, HO_7, HO_9, BK258, HB⟩ := hrel
     cases gk with
     | zero => exact absurd HA.out (by simp [zAa.l1])
     | succ k2 =>
      have H := HA.out
      clear HA
      simp only [zAa.l1] at H
      by_cases c7 : x10_2 < (l1.length : Int)
      ·rw [if_pos c7] at H
       have c7b0 : decide (x10_2 < (l1.length : Int)) = true := decide_eq_true c7
       clear c7
       by_cases c8 : 0 ≤ x10_2
       rotate_left
       ·rw [if_neg c8] at H
        exact absurd H (by simp)
       rw [if_pos c8] at H
       have c8b0 := eq_true c8
       have c8b1 : decide (0 ≤ x10_2) = true := decide_eq_true c8
       clear c8
       obtain ⟨ji9, hji9⟩ : ∃ j_ : Int, (shr .i64 x8_1 x10_2) = j_ := ⟨_, rfl⟩
       replace H : (if (Go.bits .and .i64 (ji9) 1) = 1 then (if x9_2.length < 17592186044416 then (zAa.l1 k2 l1 a2 x7_1 x8_1 (x9_2 ++ [rd l1 x10_2]) (wrap64 (x10_2 + 1)) a0_0 l0_1) else (none)) else (zAa.l1 k2 l1 a2 x7_1 x8_1 x9_2 (wrap64 (x10_2 + 1)) a0_0 l0_1)) = some r := by first | (rw [hji9] at H; exact H) | (simp only [hji9] at H ⊢; exact H)
       have hji9_ : (x8_1 / 2 ^ min x10_2.toNat 64) = ji9 := hji9
       have hji9z : x10_2 ≤ 64 → (x8_1 / 2 ^ x10_2.toNat) = ji9 := shr_small hji9
       by_cases c10 : (Go.bits .and .i64 (ji9) 1) = 1
       ·rw [if_pos c10] at H
        have c10b0 : ((Go.bits .and .i64 (ji9) 1) == 1) = true := beq_iff_eq.mpr c10
        have c10b1 : ((Go.bits .and .i64 (ji9) 1) != 1) = false := bne_eq_false_iff_eq.mpr c10
        clear c10
        by_cases c11 : x9_2.length < 17592186044416
        rotate_left
        ·rw [if_neg c11] at H
         exact absurd H (by simp)
        rw [if_pos c11] at H
        have LMc11 := zA2.mk c11
        clear c11
        obtain ⟨y260, hy260⟩ : ∃ y_ : List Int, y_ = (x9_2 ++ [rd l1 x10_2]) := ⟨_, rfl⟩
        replace H : (zAa.l1 k2 l1 a2 x7_1 x8_1 y260 (wrap64 (x10_2 + 1)) a0_0 l0_1) = some r := by first | (rw [hy260]; with_reducible exact H) | (have H2_ := (Option.bind_some _ _).symm.trans H; rw [hy260]; with_reducible exact H2_) | (have H2_ := (Option.bind_some _ _).symm.trans H; with_reducible exact H2_) | with_reducible exact H | (rw [hy260]; exact H) | exact H
        have Ny260 := zA2.mk hy260
        clear hy260
        have H' := zA2.mk H
        clear H
        have p259 : 0 ≤ (x10_2 : Int) := of_decide_eq_true (by first | (with_reducible assumption) | assumption)
        have q259 : x10_2 < (l1.length : Int) := of_decide_eq_true (by first | (with_reducible assumption) | assumption)
        obtain ⟨ad259, e259, hx259_0⟩ := Kd.zC6 HR1.out x10_2 p259 q259
        cases e259
        replace hx259_0 := (HB.out.cell (World.block_lt_of_cell? w _ hx259_0)).trans hx259_0
        replace p259 := eq_true p259
        replace q259 := eq_true q259
        go_wp2_with (first | ((with_reducible refine zCe (b := .append) (xs := #[.tmp 31, .tmp 36]) rfl ?_); at_builtin; refine Kd.R_append (Kd.int .i64) (w0 := w) w.heap.size rfl (.tmp 31) (.tmp 36) 23 3 (.int .i64 0) 8 rfl Tryz.underlying23 info3 rfl (by decide) (by omega) u9 x9_2 (rd l1 x10_2) [.int .i64 (rd l1 x10_2)] (fun k_ => (w.heap.size ≤ k_)) (fun _ => False) rfl rfl ?aP (fun _ hk => hk.elim) ?aF ?aO ?aB ?aS ?aL ?_; (case aP => exact rfl); (case aB => exact (by repeat (first | (with_reducible first | exact HB.out | apply zA1 | apply zA0 | apply zA3 | refine zA4 ?_ GE258.out) | exact HB.out))); (case aF => exact (fun k_ hk => (Nat.le_trans (zAb (by repeat (first | (with_reducible first | exact HB.out | apply zA1 | apply zA0 | apply zA3 | refine zA4 ?_ GE258.out) | exact HB.out))) hk))); (case aO => exact (by (with_reducible repeat (first | apply Kd.zB6 | apply Kd.zB5 | apply Kd.zBf)); exact HO_9.out)); (case aS => exact (zAb (by repeat (first | (with_reducible first | exact HB.out | apply zA1 | apply zA0 | apply zA3 | refine zA4 ?_ GE258.out) | exact HB.out)))); (case aL => have := LMc11.out; omega); intro v261 w12 ho hb hg hat; rw [← Ny260.out] at ho; have n0_ := zA2.mk (Kd.N_afterv (ok := (fun k_ => (w.heap.size ≤ k_) ∧ k_ ≠ gb258)) (by (with_reducible repeat (first | apply Kd.N_alloc | apply Kd.N_drewN | apply Kd.N_drew)); exact Kd.N_mono HO_7.out (fun _ hk => ⟨⟨hk.1, hk.2.2⟩, hk.2.1⟩)) hg hat); have n1_ := zA2.mk (blk_grown (g := gb258) (o := .cells #[.int .i64 a0_0, .slice A0_1 l0_1.length c0_1] 28 (0, 0)) (by (with_reducible repeat (first | refine zA6 ?_ _ | refine zA8 ?_ | refine zA5 ?_ _)); exact BK258.out) hg (Kd.R_ne HO_9.out BK258.out (by decide))); have n2_ := zA2.mk (hb); have n3_ := zA2.mk (ho); clear HO_7; clear BK258; clear HB; clear HO_9; have HO_7 := n0_; have BK258 := n1_; have HB := n2_; have HO262 := n3_; clear n0_ n1_ n2_ n3_; clear ho hb hg hat))
        go_roundg k2
        case measure => have := HK1.out; have := HK2.out; omega
        case rel => exact ⟨(y260), (wrap64 (x10_2 + 1)), (by first | rfl | (simp; done) | (simp [*]; done)), H', ⟨by have := HK1.out; have := HK2.out; omega⟩, ⟨by (with_reducible repeat (first | apply Kd.N_alloc | apply Kd.N_drewN | apply Kd.N_drew)); exact Kd.N_mono HO_7.out (fun _ hk => ⟨hk.1.1, ⟨hk.2, hk.1.2⟩⟩)⟩, ⟨by (with_reducible repeat (first | apply Kd.zB6 | apply Kd.zB5 | apply Kd.zBf)); exact HO262.out⟩, ⟨by (with_reducible repeat (first | refine zA6 ?_ _ | refine zA8 ?_ | refine zA5 ?_ _)); exact BK258.out⟩, ⟨by repeat (first | (with_reducible first | exact HB.out | apply zA1 | apply zA0 | apply zA3 | refine zA4 ?_ GE258.out) | exact HB.out)⟩⟩
       ·rw [if_neg c10] at H
        have c10b0 : ((Go.bits .and .i64 (ji9) 1) == 1) = false := beq_eq_false_iff_ne.mpr c10
        have c10b1 : ((Go.bits .and .i64 (ji9) 1) != 1) = true := bne_iff_ne.mpr c10
        have H' := zA2.mk H
        clear H
        go_wp2
        go_roundg k2
        case measure => have := HK1.out; have := HK2.out; omega
        case rel => exact ⟨(x9_2), (wrap64 (x10_2 + 1)), (by first | rfl | (simp; done) | (simp [*]; done)), H', ⟨by have := HK1.out; have := HK2.out; omega⟩, ⟨by (with_reducible repeat (first | apply Kd.N_alloc | apply Kd.N_drewN | apply Kd.N_drew)); exact HO_7.out⟩, ⟨by (with_reducible repeat (first | apply Kd.zB6 | apply Kd.zB5 | apply Kd.zBf)); exact HO_9.out⟩, ⟨by (with_reducible repeat (first | refine zA6 ?_ _ | refine zA8 ?_ | refine zA5 ?_ _)); exact BK258.out⟩, ⟨by repeat (first | (with_reducible first | exact HB.out | apply zA1 | apply zA0 | apply zA3 | refine zA4 ?_ GE258.out) | exact HB.out)⟩⟩
      ·rw [if_neg c7] at H
       have c7b0 : decide (x10_2 < (l1.length : Int)) = false := decide_eq_false c7
       clear c7
       have HC13 := zA2.mk H
       clear H
       go_upto_region 11 with (fail)
       go_cut [47] (fun v47 wc => ∃ (kq : Nat) (x47_12 : Bool), v47 = .bool x47_12 ∧ zA2 (zAa.j2 kq l1 a2 x7_1 x8_1 x9_2 x47_12 a0_0 l0_1 = some r) ∧ zA2 (kq ≤ k2) ∧ zA2 (Kd.N (Kd.slice 3 (Kd.int .i64)) 23 wc w.heap.size (fun k_ => (w.heap.size ≤ k_) ∧ some k_ ≠ (u9 : Value).ownBlock ∧ k_ ≠ gb258) u7 x7_1) ∧ zA2 (Kd.R (Kd.int .i64) 3 wc w.heap.size (fun k_ => (w.heap.size ≤ k_)) u9 x9_2) ∧ zA2 (wc.heap[gb258]? = some (.cells #[.int .i64 a0_0, (.slice A0_1 l0_1.length c0_1)] 28 (0, 0))) ∧ zA2 (Below w.heap.size w wc))
       case first =>
        have H := HC13.out
        clear HC13
        by_cases c14 : (x9_2.length : Int) > a2
        ·rw [if_pos c14] at H
         have c14b0 : decide (a2 < (x9_2.length : Int)) = true := decide_eq_true c14
         clear c14
         (first | rw [c14b0] | (simp only [i64_w, i32_w]; rw [c14b0]) | skip)
         have H' := zA2.mk H
         clear H
         obtain ⟨Ao15, co15, eo15⟩ := Kd.zCa HO_9.out
         subst eo15
         go_wp2
         go_meet
         case rel => exact ⟨_, (true), (by first | rfl | (simp; done) | (simp [*]; done)), H', ⟨by have := HK1.out; have := HK2.out; first | omega | exact Nat.le_refl _⟩, ⟨by (with_reducible repeat (first | apply Kd.N_alloc | apply Kd.N_drewN | apply Kd.N_drew)); exact HO_7.out⟩, ⟨by (with_reducible repeat (first | apply Kd.zB6 | apply Kd.zB5 | apply Kd.zBf)); exact HO_9.out⟩, ⟨by (with_reducible repeat (first | refine zA6 ?_ _ | refine zA8 ?_ | refine zA5 ?_ _)); exact BK258.out⟩, ⟨by repeat (first | (with_reducible first | exact HB.out | apply zA1 | apply zA0 | apply zA3 | refine zA4 ?_ GE258.out) | exact HB.out)⟩⟩
        ·rw [if_neg c14] at H
         have c14b0 : decide (a2 < (x9_2.length : Int)) = false := decide_eq_false c14
         clear c14
         (first | rw [c14b0] | (simp only [i64_w, i32_w]; rw [c14b0]) | skip)
         replace H := Option.bind_eq_some_iff.mp H
         obtain ⟨t263, A160, H⟩ := H
         replace H : (zAa.j2 k2 l1 a2 x7_1 x8_1 x9_2 (!t263) a0_0 l0_1) = some r := H
         have A16 := zA2.mk A160
         clear A160
         have H' := zA2.mk H
         clear H
         obtain ⟨Ao17, co17, eo17⟩ := Kd.zCa HO_9.out
         subst eo17
         have hcz18_0 : wr.cell? ⟨gb258, 0, none⟩ = some (.int .i64 a0_0) := (zA7 BK258.out 0).trans rfl
         have hcz18_1 : wr.cell? ⟨gb258, 1, none⟩ = some (.slice A0_1 l0_1.length c0_1) := (zA7 BK258.out 1).trans rfl
         have hfz18_0 := zA9 BK258.out 0
         have hfz18_1 := zA9 BK258.out 1
         go_wp2_with (first | (go_at_call 33; (with_reducible refine (zBo.calls k2 a0_0 _ _ l0_1 _ _ x9_2 t263 _ ?side1 ?side2 ?side3 ?side4 A16.out).mono ?_); (case side1 => repeat (first | exact (Kd.zAk HR0_1.out HB.out) | (with_reducible refine Kd.zAj ?_ _) | (with_reducible refine Kd.zAs ?_ _) | (with_reducible refine Kd.zB2 ?_))); (case side2 => exact HC0_1.out); (case side3 => repeat (first | exact (Kd.zBp HO_9.out).2.2 | (with_reducible refine Kd.zAj ?_ _) | (with_reducible refine Kd.zAs ?_ _) | (with_reducible refine Kd.zB2 ?_))); (case side4 => exact (Kd.zBp HO_9.out).2.1); rintro e w19 ⟨rfl, hb⟩; have n0_ := zA2.mk (Kd.N_below (by (with_reducible repeat (first | apply Kd.N_alloc | apply Kd.N_drewN | apply Kd.N_drew)); exact HO_7.out) hb); have n1_ := zA2.mk (Kd.R_below (by (with_reducible repeat (first | apply Kd.zB6 | apply Kd.zB5 | apply Kd.zBf)); exact HO_9.out) hb); have n2_ := zA2.mk (zAl (g := gb258) (o := .cells #[.int .i64 a0_0, .slice A0_1 l0_1.length c0_1] 28 (0, 0)) (by (with_reducible repeat (first | refine zA6 ?_ _ | refine zA8 ?_ | refine zA5 ?_ _)); exact BK258.out) hb); have n3_ := zA2.mk (zAe (by repeat (first | (with_reducible first | exact HB.out | apply zA1 | apply zA0 | apply zA3 | refine zA4 ?_ GE258.out) | exact HB.out)) hb); clear HO_7; clear HO_9; clear BK258; clear HB; have HO_7 := n0_; have HO_9 := n1_; have BK258 := n2_; have HB := n3_; clear n0_ n1_ n2_ n3_; (try clear hb); (try clear hb2); (try clear hk); (try clear hi)))
         go_meet
         case rel => exact ⟨_, (!t263), (by first | rfl | (simp; done) | (simp [*]; done)), H', ⟨by have := HK1.out; have := HK2.out; first | omega | exact Nat.le_refl _⟩, ⟨by (with_reducible repeat (first | apply Kd.N_alloc | apply Kd.N_drewN | apply Kd.N_drew)); exact HO_7.out⟩, ⟨by (with_reducible repeat (first | apply Kd.zB6 | apply Kd.zB5 | apply Kd.zBf)); exact HO_9.out⟩, ⟨by (with_reducible repeat (first | refine zA6 ?_ _ | refine zA8 ?_ | refine zA5 ?_ _)); exact BK258.out⟩, ⟨by repeat (first | (with_reducible first | exact HB.out | apply zA1 | apply zA0 | apply zA3 | refine zA4 ?_ GE258.out) | exact HB.out)⟩⟩
       case rest =>
        clear HC13
        try clear c1
        try clear p2
        try clear q2
        try clear hx2
        try clear c6
        try clear c6b0
        try clear p6
        try clear c7
        try clear c7b0
        try clear c8
        try clear c8b0
        try clear c8b1
        try clear c10
        try clear c10b0
        try clear c10b1
        try clear c11
        try clear c14
        try clear c14b0
        try clear hcz18_0
        try clear hcz18_1
        try clear hfz18_0
        try clear hfz18_1
        try clear hx259_0
        try clear p2
        try clear p259
        try clear p6
        try clear q259
        obtain ⟨kq, x47_12, rfl, HA, HJ12, HO_7, HO_9, BK258, HB⟩ := hcut
        cases kq with
        | zero => exact absurd HA.out (by simp [zAa.j2])
        | succ kj12 =>
         have H := HA.out
         clear HA
         simp only [zAa.j2] at H
         by_cases c20 : x47_12 = true
         ·subst c20
          have H1 : (zAa.l0 kj12 l1 a2 x7_1 (wrap64 (x8_1 + 1)) a0_0 l0_1) = some r := by rw [if_pos rfl] at H; exact H
          clear H
          have H := H1
          clear H1
          have H' := zA2.mk H
          clear H
          go_wp2
          go_roundg kj12
          case measure => have := HK1.out; have := HK2.out; have := HJ12.out; omega
          case rel => exact ⟨(x7_1), (wrap64 (x8_1 + 1)), (by first | rfl | (simp; done) | (simp [*]; done)), H', ⟨by have := HK1.out; have := HK2.out; have := HJ12.out; omega⟩, ⟨by (with_reducible repeat (first | apply Kd.N_alloc | apply Kd.N_drewN | apply Kd.N_drew)); exact Kd.N_mono HO_7.out (fun _ hk => ⟨hk.1, hk.2.2⟩)⟩, ⟨by (with_reducible repeat (first | refine zA6 ?_ _ | refine zA8 ?_ | refine zA5 ?_ _)); exact BK258.out⟩, ⟨by repeat (first | (with_reducible first | exact HB.out | apply zA1 | apply zA0 | apply zA3 | refine zA4 ?_ GE258.out) | exact HB.out)⟩⟩
         ·replace c20 := Bool.eq_false_iff.mpr c20
          subst c20
          have H1 : (zAa.l2 kj12 l1 a2 x7_1 x8_1 x9_2 0 a0_0 l0_1) = some r := by rw [if_neg (show ¬ (false = true) by decide)] at H; exact H
          clear H
          have H := H1
          clear H1
          have H' := zA2.mk H
          clear H
          go_wp2
          go_loopg [11] kj12 (fun kq v11 w' => ∃ (x11_4 : Int), v11 = .int .i64 x11_4 ∧ zA2 (zAa.l2 kq l1 a2 x7_1 x8_1 x9_2 x11_4 a0_0 l0_1 = some r) ∧ zA2 (kq ≤ kj12) ∧ zA2 (Kd.N (Kd.slice 3 (Kd.int .i64)) 23 w' w.heap.size (fun k_ => (w.heap.size ≤ k_) ∧ some k_ ≠ (u9 : Value).ownBlock ∧ k_ ≠ gb258) u7 x7_1) ∧ zA2 (Kd.R (Kd.int .i64) 3 w' w.heap.size (fun k_ => (w.heap.size ≤ k_)) u9 x9_2) ∧ zA2 (w'.heap[gb258]? = some (.cells #[.int .i64 a0_0, (.slice A0_1 l0_1.length c0_1)] 28 (0, 0))) ∧ zA2 (Below w.heap.size w w'))
          case atStart => exact ⟨(0), (by first | rfl | (simp; done) | (simp [*]; done)), H', ⟨Nat.le_refl _⟩, ⟨by (with_reducible repeat (first | apply Kd.N_alloc | apply Kd.N_drewN | apply Kd.N_drew)); exact HO_7.out⟩, ⟨by (with_reducible repeat (first | apply Kd.zB6 | apply Kd.zB5 | apply Kd.zBf)); exact HO_9.out⟩, ⟨by (with_reducible repeat (first | refine zA6 ?_ _ | refine zA8 ?_ | refine zA5 ?_ _)); exact BK258.out⟩, ⟨by repeat (first | (with_reducible first | exact HB.out | apply zA1 | apply zA0 | apply zA3 | refine zA4 ?_ GE258.out) | exact HB.out)⟩⟩
          case round =>
           clear H'
           try clear c1
           try clear c2
           try clear p2
           try clear q2
           try clear hx2
           try clear c6
           try clear c6b0
           try clear p6
           try clear c7
           try clear c7b0
           try clear c8
           try clear c8b0
           try clear c8b1
           try clear c10
           try clear c10b0
           try clear c10b1
           try clear c11
           try clear c14
           try clear c14b0
           try clear c20
           try clear hcz18_0
           try clear hcz18_1
           try clear hfz18_0
           try clear hfz18_1
           try clear hx259_0
           try clear p2
           try clear p259
           try clear p6
           try clear q2
           try clear q259
           obtain ⟨x11_4, rfl, HA, HK4, HO_7, HO_9, BK258, HB⟩ := hrel
           cases gk with
           | zero => exact absurd HA.out (by simp [zAa.l2])
           | succ k4 =>
            have H := HA.out
            clear HA
            simp only [zAa.l2] at H
            by_cases c21 : x11_4 < (x7_1.length : Int)
            ·rw [if_pos c21] at H
             have c21b0 : decide (x11_4 < (x7_1.length : Int)) = true := decide_eq_true c21
             clear c21
             by_cases c22 : 0 ≤ x11_4
             rotate_left
             ·rw [if_neg c22] at H
              exact absurd H (by simp)
             rw [if_pos c22] at H
             have c22b0 : decide (0 ≤ x11_4) = true := decide_eq_true c22
             clear c22
             replace H := Option.bind_eq_some_iff.mp H
             obtain ⟨t265, A230, H⟩ := H
             replace H : (if t265 = true then (zAa.l2 k4 l1 a2 x7_1 x8_1 x9_2 (wrap64 (x11_4 + 1)) a0_0 l0_1) else ((some (([] : List (List Int)) : List (List Int))).bind fun y266 => (if x11_4 ≤ (x7_1.length : Int) then ((some (x7_1.take (x11_4 : Int).toNat : List (List Int))).bind fun y269 => (if y266.length + y269.length < 5864062014805 then ((some (y266 ++ y269 : List (List Int))).bind fun y274 => (if y274.length < 5864062014805 then ((some (y274 ++ [x9_2] : List (List Int))).bind fun y277 => ((some (x7_1.drop (x11_4 : Int).toNat : List (List Int))).bind fun y280 => (if y277.length + y280.length < 5864062014805 then (zAa.l0 k4 l1 a2 (y277 ++ y280) (wrap64 (x8_1 + 1)) a0_0 l0_1) else (none)))) else (none))) else (none))) else (none)))) = some r := H
             have A23 := zA2.mk A230
             clear A230
             by_cases c24 : t265 = true
             ·subst c24
              have H1 : (zAa.l2 k4 l1 a2 x7_1 x8_1 x9_2 (wrap64 (x11_4 + 1)) a0_0 l0_1) = some r := by rw [if_pos rfl] at H; exact H
              clear H
              have H := H1
              clear H1
              have H' := zA2.mk H
              clear H
              obtain ⟨Ao25, co25, eo25⟩ := Kd.N_slice HO_7.out
              subst eo25
              have p264 : 0 ≤ (x11_4 : Int) := of_decide_eq_true (by first | (with_reducible assumption) | assumption)
              have q264 : x11_4 < (x7_1.length : Int) := of_decide_eq_true (by first | (with_reducible assumption) | assumption)
              obtain ⟨ad264, A264_0, c264_0, e264, hx264_0, hl264_0, hi264_0⟩ := at_L1 (Kd.N_reads' HO_7.out).2.2 x11_4 p264 q264
              cases e264
              obtain ⟨ce264, hce264, hMe264, hcc264⟩ := Kd.N_get HO_7.out [] x11_4 p264 (by first | exact q264 | exact of_decide_eq_true (by first | (with_reducible assumption) | assumption) | (have e_ := (Kd.N_reads' HO_7.out).1; omega))
              obtain ⟨ua264_0, uc264_0, rfl, ul264_0, ge264_0⟩ := Kd.FK_slice_open hMe264
              have hv264_0 := hcc264 0 _ rfl
              rw [Nat.add_zero, show ((Kd.slice 3 (Kd.int .i64))).sz = 1 from rfl, Nat.mul_one] at hv264_0
              replace hv264_0 := Option.some.inj (hv264_0.symm.trans hx264_0)
              injection hv264_0 with hva_ hvn_ hvc_
              rw [hva_] at ge264_0
              rw [hvc_] at ul264_0
              have HL264_0 := zA2.mk (show Kd.V (Kd.int .i64) 3 _ w.heap.size _ _ (rd_L1 x7_1 x11_4) from Kd.V_mk ul264_0 ge264_0)
              clear hva_ hvn_ hvc_ ge264_0 ul264_0
              clear hcc264 hce264
              have HR264_0 := zA2.mk hi264_0
              have HC264_0 := zA2.mk hl264_0
              clear hi264_0 hl264_0
              replace p264 := eq_true p264
              replace q264 := eq_true q264
              obtain ⟨Ao26, co26, eo26⟩ := Kd.zCa HO_9.out
              subst eo26
              go_wp2_with (first | (go_at_call 34; (with_reducible refine (zBi.calls k4 _ _ (rd_L1 x7_1 x11_4) _ _ x9_2 true _ ?side1 ?side2 ?side3 ?side4 A23.out).mono ?_); (case side1 => repeat (first | exact (by repeat (first | (with_reducible exact HR264_0.out) | (with_reducible refine Kd.zAj ?_ _) | (with_reducible refine Kd.zAs ?_ _) | (with_reducible refine Kd.zB2 ?_) | exact HR264_0.out)) | (with_reducible refine Kd.zAj ?_ _) | (with_reducible refine Kd.zAs ?_ _) | (with_reducible refine Kd.zB2 ?_))); (case side2 => exact HC264_0.out); (case side3 => repeat (first | exact (Kd.zBp HO_9.out).2.2 | (with_reducible refine Kd.zAj ?_ _) | (with_reducible refine Kd.zAs ?_ _) | (with_reducible refine Kd.zB2 ?_))); (case side4 => exact (Kd.zBp HO_9.out).2.1); rintro e w' ⟨rfl, ⟨nd, rfl⟩⟩))
              go_roundg k4
              case measure => have := HK1.out; have := HK2.out; have := HJ12.out; have := HK4.out; omega
              case rel => exact ⟨(wrap64 (x11_4 + 1)), (by first | rfl | (simp; done) | (simp [*]; done)), H', ⟨by have := HK1.out; have := HK2.out; have := HJ12.out; have := HK4.out; omega⟩, ⟨by (with_reducible repeat (first | apply Kd.N_alloc | apply Kd.N_drewN | apply Kd.N_drew)); exact HO_7.out⟩, ⟨by (with_reducible repeat (first | apply Kd.zB6 | apply Kd.zB5 | apply Kd.zBf)); exact HO_9.out⟩, ⟨by (with_reducible repeat (first | refine zA6 ?_ _ | refine zA8 ?_ | refine zA5 ?_ _)); exact BK258.out⟩, ⟨by repeat (first | (with_reducible first | exact HB.out | apply zA1 | apply zA0 | apply zA3 | refine zA4 ?_ GE258.out) | exact HB.out)⟩⟩
             ·replace c24 := Bool.eq_false_iff.mpr c24
              subst c24
              have H1 : ((some (([] : List (List Int)) : List (List Int))).bind fun y266 => (if x11_4 ≤ (x7_1.length : Int) then ((some (x7_1.take (x11_4 : Int).toNat : List (List Int))).bind fun y269 => (if y266.length + y269.length < 5864062014805 then ((some (y266 ++ y269 : List (List Int))).bind fun y274 => (if y274.length < 5864062014805 then ((some (y274 ++ [x9_2] : List (List Int))).bind fun y277 => ((some (x7_1.drop (x11_4 : Int).toNat : List (List Int))).bind fun y280 => (if y277.length + y280.length < 5864062014805 then (zAa.l0 k4 l1 a2 (y277 ++ y280) (wrap64 (x8_1 + 1)) a0_0 l0_1) else (none)))) else (none))) else (none))) else (none))) = some r := by rw [if_neg (show ¬ (false = true) by decide)] at H; exact H
              clear H
              have H := H1
              clear H1
              obtain ⟨y266, hy266⟩ : ∃ y_ : List (List Int), y_ = (([] : List (List Int))) := ⟨_, rfl⟩
              replace H : (if x11_4 ≤ (x7_1.length : Int) then ((some (x7_1.take (x11_4 : Int).toNat : List (List Int))).bind fun y269 => (if y266.length + y269.length < 5864062014805 then ((some (y266 ++ y269 : List (List Int))).bind fun y274 => (if y274.length < 5864062014805 then ((some (y274 ++ [x9_2] : List (List Int))).bind fun y277 => ((some (x7_1.drop (x11_4 : Int).toNat : List (List Int))).bind fun y280 => (if y277.length + y280.length < 5864062014805 then (zAa.l0 k4 l1 a2 (y277 ++ y280) (wrap64 (x8_1 + 1)) a0_0 l0_1) else (none)))) else (none))) else (none))) else (none)) = some r := by first | (rw [hy266]; with_reducible exact H) | (have H2_ := (Option.bind_some _ _).symm.trans H; rw [hy266]; with_reducible exact H2_) | (have H2_ := (Option.bind_some _ _).symm.trans H; with_reducible exact H2_) | with_reducible exact H | (rw [hy266]; exact H) | exact H
              have Ny266 := zA2.mk hy266
              clear hy266
              have c27b0 := eq_true (of_decide_eq_true (by first | (with_reducible assumption) | assumption) : 0 ≤ x11_4)
              by_cases c28 : x11_4 ≤ (x7_1.length : Int)
              rotate_left
              ·rw [if_neg c28] at H
               exact absurd H (by simp)
              rw [if_pos c28] at H
              have c28b0 := eq_true c28
              have c28b1 : decide (x11_4 ≤ (x7_1.length : Int)) = true := decide_eq_true c28
              clear c28
              obtain ⟨y269, hy269⟩ : ∃ y_ : List (List Int), y_ = (x7_1.take (x11_4 : Int).toNat) := ⟨_, rfl⟩
              replace H : (if y266.length + y269.length < 5864062014805 then ((some (y266 ++ y269 : List (List Int))).bind fun y274 => (if y274.length < 5864062014805 then ((some (y274 ++ [x9_2] : List (List Int))).bind fun y277 => ((some (x7_1.drop (x11_4 : Int).toNat : List (List Int))).bind fun y280 => (if y277.length + y280.length < 5864062014805 then (zAa.l0 k4 l1 a2 (y277 ++ y280) (wrap64 (x8_1 + 1)) a0_0 l0_1) else (none)))) else (none))) else (none)) = some r := by first | (rw [hy269]; with_reducible exact H) | (have H2_ := (Option.bind_some _ _).symm.trans H; rw [hy269]; with_reducible exact H2_) | (have H2_ := (Option.bind_some _ _).symm.trans H; with_reducible exact H2_) | with_reducible exact H | (rw [hy269]; exact H) | exact H
              have Ny269 := zA2.mk hy269
              clear hy269
              by_cases c29 : y266.length + y269.length < 5864062014805
              rotate_left
              ·rw [if_neg c29] at H
               exact absurd H (by simp)
              rw [if_pos c29] at H
              have LMc29 := zA2.mk c29
              clear c29
              obtain ⟨y274, hy274⟩ : ∃ y_ : List (List Int), y_ = (y266 ++ y269) := ⟨_, rfl⟩
              replace H : (if y274.length < 5864062014805 then ((some (y274 ++ [x9_2] : List (List Int))).bind fun y277 => ((some (x7_1.drop (x11_4 : Int).toNat : List (List Int))).bind fun y280 => (if y277.length + y280.length < 5864062014805 then (zAa.l0 k4 l1 a2 (y277 ++ y280) (wrap64 (x8_1 + 1)) a0_0 l0_1) else (none)))) else (none)) = some r := by first | (rw [hy274]; with_reducible exact H) | (have H2_ := (Option.bind_some _ _).symm.trans H; rw [hy274]; with_reducible exact H2_) | (have H2_ := (Option.bind_some _ _).symm.trans H; with_reducible exact H2_) | with_reducible exact H | (rw [hy274]; exact H) | exact H
              have Ny274 := zA2.mk hy274
              clear hy274
              by_cases c30 : y274.length < 5864062014805
              rotate_left
              ·rw [if_neg c30] at H
               exact absurd H (by simp)
              rw [if_pos c30] at H
              have LMc30 := zA2.mk c30
              clear c30
              obtain ⟨y277, hy277⟩ : ∃ y_ : List (List Int), y_ = (y274 ++ [x9_2]) := ⟨_, rfl⟩
              replace H : ((some (x7_1.drop (x11_4 : Int).toNat : List (List Int))).bind fun y280 => (if y277.length + y280.length < 5864062014805 then (zAa.l0 k4 l1 a2 (y277 ++ y280) (wrap64 (x8_1 + 1)) a0_0 l0_1) else (none))) = some r := by first | (rw [hy277]; with_reducible exact H) | (have H2_ := (Option.bind_some _ _).symm.trans H; rw [hy277]; with_reducible exact H2_) | (have H2_ := (Option.bind_some _ _).symm.trans H; with_reducible exact H2_) | with_reducible exact H | (rw [hy277]; exact H) | exact H
              have Ny277 := zA2.mk hy277
              clear hy277
              have c31b0 := eq_true (of_decide_eq_true (by first | (with_reducible assumption) | assumption) : 0 ≤ x11_4)
              have c32b0 := eq_true (of_decide_eq_true (by first | (with_reducible assumption) | assumption) : x11_4 ≤ (x7_1.length : Int))
              obtain ⟨y280, hy280⟩ : ∃ y_ : List (List Int), y_ = (x7_1.drop (x11_4 : Int).toNat) := ⟨_, rfl⟩
              replace H : (if y277.length + y280.length < 5864062014805 then (zAa.l0 k4 l1 a2 (y277 ++ y280) (wrap64 (x8_1 + 1)) a0_0 l0_1) else (none)) = some r := by first | (rw [hy280]; with_reducible exact H) | (have H2_ := (Option.bind_some _ _).symm.trans H; rw [hy280]; with_reducible exact H2_) | (have H2_ := (Option.bind_some _ _).symm.trans H; with_reducible exact H2_) | with_reducible exact H | (rw [hy280]; exact H) | exact H
              have Ny280 := zA2.mk hy280
              clear hy280
              by_cases c33 : y277.length + y280.length < 5864062014805
              rotate_left
              ·rw [if_neg c33] at H
               exact absurd H (by simp)
              rw [if_pos c33] at H
              have LMc33 := zA2.mk c33
              clear c33
              obtain ⟨y285, hy285⟩ : ∃ y_ : List (List Int), y_ = (y277 ++ y280) := ⟨_, rfl⟩
              replace H : (zAa.l0 k4 l1 a2 y285 (wrap64 (x8_1 + 1)) a0_0 l0_1) = some r := by first | (rw [hy285]; with_reducible exact H) | (have H2_ := (Option.bind_some _ _).symm.trans H; rw [hy285]; with_reducible exact H2_) | (have H2_ := (Option.bind_some _ _).symm.trans H; with_reducible exact H2_) | with_reducible exact H | (rw [hy285]; exact H) | exact H
              have Ny285 := zA2.mk hy285
              clear hy285
              have H' := zA2.mk H
              clear H
              obtain ⟨Ao34, co34, eo34⟩ := Kd.N_slice HO_7.out
              subst eo34
              have p264 : 0 ≤ (x11_4 : Int) := of_decide_eq_true (by first | (with_reducible assumption) | assumption)
              have q264 : x11_4 < (x7_1.length : Int) := of_decide_eq_true (by first | (with_reducible assumption) | assumption)
              obtain ⟨ad264, A264_0, c264_0, e264, hx264_0, hl264_0, hi264_0⟩ := at_L1 (Kd.N_reads' HO_7.out).2.2 x11_4 p264 q264
              cases e264
              obtain ⟨ce264, hce264, hMe264, hcc264⟩ := Kd.N_get HO_7.out [] x11_4 p264 (by first | exact q264 | exact of_decide_eq_true (by first | (with_reducible assumption) | assumption) | (have e_ := (Kd.N_reads' HO_7.out).1; omega))
              obtain ⟨ua264_0, uc264_0, rfl, ul264_0, ge264_0⟩ := Kd.FK_slice_open hMe264
              have hv264_0 := hcc264 0 _ rfl
              rw [Nat.add_zero, show ((Kd.slice 3 (Kd.int .i64))).sz = 1 from rfl, Nat.mul_one] at hv264_0
              replace hv264_0 := Option.some.inj (hv264_0.symm.trans hx264_0)
              injection hv264_0 with hva_ hvn_ hvc_
              rw [hva_] at ge264_0
              rw [hvc_] at ul264_0
              have HL264_0 := zA2.mk (show Kd.V (Kd.int .i64) 3 _ w.heap.size _ _ (rd_L1 x7_1 x11_4) from Kd.V_mk ul264_0 ge264_0)
              clear hva_ hvn_ hvc_ ge264_0 ul264_0
              clear hcc264 hce264
              have HR264_0 := zA2.mk hi264_0
              have HC264_0 := zA2.mk hl264_0
              clear hi264_0 hl264_0
              replace p264 := eq_true p264
              replace q264 := eq_true q264
              obtain ⟨Ao35, co35, eo35⟩ := Kd.zCa HO_9.out
              subst eo35
              go_wp2_with (first | (go_at_call 34; (with_reducible refine (zBi.calls k4 _ _ (rd_L1 x7_1 x11_4) _ _ x9_2 false _ ?side1 ?side2 ?side3 ?side4 A23.out).mono ?_); (case side1 => repeat (first | exact (by repeat (first | (with_reducible exact HR264_0.out) | (with_reducible refine Kd.zAj ?_ _) | (with_reducible refine Kd.zAs ?_ _) | (with_reducible refine Kd.zB2 ?_) | exact HR264_0.out)) | (with_reducible refine Kd.zAj ?_ _) | (with_reducible refine Kd.zAs ?_ _) | (with_reducible refine Kd.zB2 ?_))); (case side2 => exact HC264_0.out); (case side3 => repeat (first | exact (Kd.zBp HO_9.out).2.2 | (with_reducible refine Kd.zAj ?_ _) | (with_reducible refine Kd.zAs ?_ _) | (with_reducible refine Kd.zB2 ?_))); (case side4 => exact (Kd.zBp HO_9.out).2.1); rintro e w' ⟨rfl, ⟨nd, rfl⟩⟩) | ((with_reducible refine zBl (N := 62) rfl ?_); refine Kd.N_lit (Kd.slice 3 (Kd.int .i64)) _ 23 ?hg (N' := 62) ?hd (xs := ([] : List (List Int))) (inner := []) (ok := (fun k_ => (w.heap.size ≤ k_) ∧ some k_ ≠ (.slice (some ad264) x7_1.length co34 : Value).ownBlock ∧ some k_ ≠ (.slice Ao35 x9_2.length co35 : Value).ownBlock ∧ k_ ≠ gb258)) (okp := (fun k_ => (w.heap.size ≤ k_) ∧ some k_ ≠ (.slice (some ad264) x7_1.length co34 : Value).ownBlock ∧ some k_ ≠ (.slice Ao35 x9_2.length co35 : Value).ownBlock ∧ k_ ≠ gb258)) ?hr ?hp (fun _ hk => hk) ((show ∀ k_, wr.heap.size ≤ k_ → (fun k_ => (w.heap.size ≤ k_) ∧ some k_ ≠ (.slice (some ad264) x7_1.length co34 : Value).ownBlock ∧ some k_ ≠ (.slice Ao35 x9_2.length co35 : Value).ownBlock ∧ k_ ≠ gb258) k_ from fun k_ hk => ⟨(Nat.le_trans (zAb (by repeat (first | (with_reducible first | exact HB.out | apply zA1 | apply zA0 | apply zA3 | refine zA4 ?_ GE258.out) | exact HB.out))) hk), Kd.fresh' (Kd.N_lt (by (with_reducible repeat (first | apply Kd.N_alloc | apply Kd.N_drewN | apply Kd.N_drew)); exact HO_7.out)) k_ hk, Kd.fresh' (Kd.R_lt (by (with_reducible repeat (first | apply Kd.zB6 | apply Kd.zB5 | apply Kd.zBf)); exact HO_9.out)) k_ hk, Kd.freshB (g := gb258) (o := .cells #[.int .i64 a0_0, .slice A0_1 l0_1.length c0_1] 28 (0, 0)) (by (with_reducible repeat (first | refine zA6 ?_ _ | refine zA8 ?_ | refine zA5 ?_ _)); exact BK258.out) k_ hk⟩) _ (Nat.le_refl _)) (Below.refl _ _) (Nat.le_refl _) (by simp) ?_; (case hd => rfl); (case hg => rfl); (case hr => first | (go_simp; done) | (go_simp; rfl)); (case hp => exact (Reps.none _ _)); intro v267 w36 ho37 hb hg_ hnew_; clear hg_ hnew_; (first | rw [← Ny266.out] at ho37 | (simp only [Int.reduceToNat] at ho37; rw [← Ny266.out] at ho37)); have n0_ := zA2.mk (Kd.N_elder' (by (with_reducible repeat (first | apply Kd.N_alloc | apply Kd.N_drewN | apply Kd.N_drew)); exact HO_7.out) (Kd.N_base ho37) hb); have n1_ := zA2.mk (Kd.R_below (by (with_reducible repeat (first | apply Kd.zB6 | apply Kd.zB5 | apply Kd.zBf)); exact HO_9.out) hb); have n2_ := zA2.mk (Kd.V_elder' (by (with_reducible repeat (first | apply Kd.V_alloc | apply Kd.V_drewN | apply Kd.V_drew)); exact HL264_0.out) (Kd.N_base ho37) hb); have n3_ := zA2.mk (Kd.N_lower ho37 (zAb (by repeat (first | (with_reducible first | exact HB.out | apply zA1 | apply zA0 | apply zA3 | refine zA4 ?_ GE258.out) | exact HB.out)))); have n4_ := zA2.mk (zAl (g := gb258) (o := .cells #[.int .i64 a0_0, .slice A0_1 l0_1.length c0_1] 28 (0, 0)) (by (with_reducible repeat (first | refine zA6 ?_ _ | refine zA8 ?_ | refine zA5 ?_ _)); exact BK258.out) hb); have n5_ := zA2.mk (Kd.zAk (by repeat (first | (with_reducible exact HR264_0.out) | (with_reducible refine Kd.zAj ?_ _) | (with_reducible refine Kd.zAs ?_ _) | (with_reducible refine Kd.zB2 ?_) | exact HR264_0.out)) hb); have n6_ := zA2.mk (zAe (by repeat (first | (with_reducible first | exact HB.out | apply zA1 | apply zA0 | apply zA3 | refine zA4 ?_ GE258.out) | exact HB.out)) hb); clear HO_7; clear HO_9; clear HL264_0; clear BK258; clear HR264_0; clear HB; have HO_7 := n0_; have HO_9 := n1_; have HL264_0 := n2_; have HO268 := n3_; have BK258 := n4_; have HR264_0 := n5_; have HB := n6_; clear n0_ n1_ n2_ n3_ n4_ n5_ n6_; clear hb ho37; have q38 : (x11_4 : Int) ≤ ((x7_1.length : Int) : Int) := of_decide_eq_true (by first | (with_reducible assumption) | assumption); obtain ⟨i038, hi038, _, hsz38, _⟩ := info_parts info23; have hroom38 : x7_1.length ≤ co34 := (Kd.N_reads' HO_7.out).2.1; have hC38 : Kd.F (Kd.slice 3 (Kd.int .i64)) _ _ (some ad264) x7_1.length x7_1 := (Kd.V_at (base := w.heap.size) (Kd.N_V HO_7.out)).2.2; have hcut38 := cut_to (P := Tryz.prog) 30 23 .i64 Tryz.underlying30 hi038 (some ad264) x7_1.length co34 x11_4 (of_decide_eq_true (by first | (with_reducible assumption) | assumption)) q38 hroom38; have hr38 := Kd.F_take (m := (x11_4 : Int).toNat) hC38 (by omega); have hy38 : y269.length = (x11_4 : Int).toNat := (by rw [Ny269.out, List.length_take]; omega); rw [← Ny269.out] at hr38; rw [← hy38] at hcut38; have HO273 := zA2.mk (show Kd.V (Kd.slice 3 (Kd.int .i64)) 23 _ w.heap.size _ (.slice (some ad264) y269.length co34) y269 from Kd.V_mk (by omega) hr38); have HC273 := zA2.mk (show y269.length ≤ co34 from by omega); clear hr38 hC38 hroom38 hi038 hsz38; have KY38 := zA2.mk hy38; clear hy38; replace q38 := eq_true q38) | ((with_reducible refine zCe (b := .append) (xs := #[.tmp 62, .tmp 65]) rfl ?_); at_builtin; refine Kd.N_append_rows (Kd.slice 3 (Kd.int .i64)) (w0 := w) w.heap.size rfl (.tmp 62) (.tmp 65) 30 23 (.slice none 0 0) 24 rfl Tryz.underlying30 info23 rfl (by decide) (by omega) v267 y266 y269 _ _ _ (fun k_ => (w.heap.size ≤ k_) ∧ some k_ ≠ (.slice Ao35 x9_2.length co35 : Value).ownBlock ∧ k_ ≠ gb258) (fun k_ => ((fun k_ => (w.heap.size ≤ k_) ∧ some k_ ≠ (.slice Ao35 x9_2.length co35 : Value).ownBlock ∧ k_ ≠ gb258)) k_ ∧ some k_ ≠ (v267 : Value).ownBlock) rfl rfl ?aO ?aR (fun _ hk => hk) ?aF ?aB ?aS ?aL ?_; (case aR => exact (by skip; exact Kd.V_F (Kd.V_mono (ok' := (fun k_ => ((fun k_ => (w.heap.size ≤ k_) ∧ some k_ ≠ (.slice Ao35 x9_2.length co35 : Value).ownBlock ∧ k_ ≠ gb258)) k_ ∧ some k_ ≠ (v267 : Value).ownBlock)) (HO273.out) (fun k_ hk => ⟨⟨hk.1.1, ⟨hk.1.2.1, hk.1.2.2⟩⟩, hk.2⟩)))); (case aB => exact (by repeat (first | (with_reducible first | exact HB.out | apply zA1 | apply zA0 | apply zA3 | refine zA4 ?_ GE258.out) | exact HB.out))); (case aF => exact (fun k_ hk => ⟨(Nat.le_trans (zAb (by repeat (first | (with_reducible first | exact HB.out | apply zA1 | apply zA0 | apply zA3 | refine zA4 ?_ GE258.out) | exact HB.out))) hk), Kd.fresh' (Kd.R_lt (by (with_reducible repeat (first | apply Kd.zB6 | apply Kd.zB5 | apply Kd.zBf)); exact HO_9.out)) k_ hk, Kd.freshB (g := gb258) (o := .cells #[.int .i64 a0_0, .slice A0_1 l0_1.length c0_1] 28 (0, 0)) (by (with_reducible repeat (first | refine zA6 ?_ _ | refine zA8 ?_ | refine zA5 ?_ _)); exact BK258.out) k_ hk⟩)); (case aO => exact (by (with_reducible repeat (first | apply Kd.N_alloc | apply Kd.N_drewN | apply Kd.N_drew)); exact Kd.N_mono HO268.out (fun _ hk => ⟨hk.1, ⟨hk.2.2.1, hk.2.2.2⟩⟩))); (case aS => exact (zAb (by repeat (first | (with_reducible first | exact HB.out | apply zA1 | apply zA0 | apply zA3 | refine zA4 ?_ GE258.out) | exact HB.out)))); (case aL => have := LMc29.out; omega); intro v275 w39 ho hb hg hat; rw [← Ny274.out] at ho; have n0_ := zA2.mk (Kd.N_afterv (ok := (fun k_ => (w.heap.size ≤ k_) ∧ some k_ ≠ (.slice Ao35 x9_2.length co35 : Value).ownBlock ∧ k_ ≠ gb258)) (by (with_reducible repeat (first | apply Kd.N_alloc | apply Kd.N_drewN | apply Kd.N_drew)); exact HO_7.out) hg hat); have n1_ := zA2.mk (Kd.R_over' (by (with_reducible repeat (first | apply Kd.zB6 | apply Kd.zB5 | apply Kd.zBf)); exact HO_9.out) (Kd.N_typed (by (with_reducible repeat (first | apply Kd.N_alloc | apply Kd.N_drewN | apply Kd.N_drew)); exact HO268.out)) (by decide) hg); have n2_ := zA2.mk (blk_grown (g := gb258) (o := .cells #[.int .i64 a0_0, .slice A0_1 l0_1.length c0_1] 28 (0, 0)) (by (with_reducible repeat (first | refine zA6 ?_ _ | refine zA8 ?_ | refine zA5 ?_ _)); exact BK258.out) hg (Kd.N_ne HO268.out BK258.out (by decide))); have n3_ := zA2.mk (Kd.V_afterv (ok := (fun k_ => (w.heap.size ≤ k_) ∧ some k_ ≠ (.slice (some ad264) x7_1.length co34 : Value).ownBlock ∧ some k_ ≠ (.slice Ao35 x9_2.length co35 : Value).ownBlock ∧ k_ ≠ gb258)) (by (with_reducible repeat (first | apply Kd.V_alloc | apply Kd.V_drewN | apply Kd.V_drew)); exact Kd.V_mono HL264_0.out (fun _ hk => ⟨⟨hk.1.1.1, ⟨hk.1.2, ⟨hk.1.1.2.1, hk.1.1.2.2⟩⟩⟩, hk.2⟩)) hg hat); have n4_ := zA2.mk (Kd.V_afterv (ok := (fun k_ => (w.heap.size ≤ k_) ∧ some k_ ≠ (.slice Ao35 x9_2.length co35 : Value).ownBlock ∧ k_ ≠ gb258)) (by (with_reducible repeat (first | apply Kd.V_alloc | apply Kd.V_drewN | apply Kd.V_drew)); exact HO273.out) hg hat); have n5_ := zA2.mk (hb); have n6_ := zA2.mk (ho); clear HO_7; clear HO_9; clear BK258; clear HL264_0; clear HO273; clear HB; clear HO268; have HO_7 := n0_; have HO_9 := n1_; have BK258 := n2_; have HL264_0 := n3_; have HO273 := n4_; have HB := n5_; have HO276 := n6_; clear n0_ n1_ n2_ n3_ n4_ n5_ n6_; clear ho hb hg hat) | ((with_reducible refine zCe (b := .append) (xs := #[.tmp 67, .tmp 69]) rfl ?_); at_builtin; refine Kd.N_append (Kd.slice 3 (Kd.int .i64)) (w0 := w) w.heap.size rfl (.tmp 67) (.tmp 69) 30 23 (.slice none 0 0) 24 rfl Tryz.underlying30 info23 rfl (by decide) (by omega) v275 y274 x9_2 [.slice Ao35 x9_2.length co35] (fun k_ => (w.heap.size ≤ k_) ∧ k_ ≠ gb258) (fun k_ => ((fun k_ => (w.heap.size ≤ k_) ∧ k_ ≠ gb258)) k_ ∧ some k_ ≠ (v275 : Value).ownBlock) rfl rfl ?aP (fun _ hk => hk) ?aF ?aO ?aB ?aS ?aL ?_; (case aP => exact (Kd.FK_slice_mk (Kd.zBp (Kd.R_mono (ok' := (fun k_ => ((fun k_ => (w.heap.size ≤ k_) ∧ k_ ≠ gb258)) k_ ∧ some k_ ≠ (v275 : Value).ownBlock)) (Kd.R_types (Kd.R_apart' (HO_9.out) (Kd.N_typed HO276.out) (by decide)) BK258.out (by decide)) (fun k_ hk => ⟨⟨hk.1.1, hk.2⟩, hk.1.2⟩))).2.1 (Kd.R_F (Kd.R_mono (ok' := (fun k_ => ((fun k_ => (w.heap.size ≤ k_) ∧ k_ ≠ gb258)) k_ ∧ some k_ ≠ (v275 : Value).ownBlock)) (Kd.R_types (Kd.R_apart' (HO_9.out) (Kd.N_typed HO276.out) (by decide)) BK258.out (by decide)) (fun k_ hk => ⟨⟨hk.1.1, hk.2⟩, hk.1.2⟩))))); (case aB => exact (by repeat (first | (with_reducible first | exact HB.out | apply zA1 | apply zA0 | apply zA3 | refine zA4 ?_ GE258.out) | exact HB.out))); (case aF => exact (fun k_ hk => ⟨(Nat.le_trans (zAb (by repeat (first | (with_reducible first | exact HB.out | apply zA1 | apply zA0 | apply zA3 | refine zA4 ?_ GE258.out) | exact HB.out))) hk), Kd.freshB (g := gb258) (o := .cells #[.int .i64 a0_0, .slice A0_1 l0_1.length c0_1] 28 (0, 0)) (by (with_reducible repeat (first | refine zA6 ?_ _ | refine zA8 ?_ | refine zA5 ?_ _)); exact BK258.out) k_ hk⟩)); (case aO => exact (by (with_reducible repeat (first | apply Kd.N_alloc | apply Kd.N_drewN | apply Kd.N_drew)); exact Kd.N_mono HO276.out (fun _ hk => ⟨hk.1, hk.2.2⟩))); (case aS => exact (zAb (by repeat (first | (with_reducible first | exact HB.out | apply zA1 | apply zA0 | apply zA3 | refine zA4 ?_ GE258.out) | exact HB.out)))); (case aL => have := LMc30.out; omega); intro v278 w40 ho hb hg hat; rw [← Ny277.out] at ho; have n0_ := zA2.mk (Kd.N_afterv (ok := (fun k_ => (w.heap.size ≤ k_) ∧ some k_ ≠ (.slice Ao35 x9_2.length co35 : Value).ownBlock ∧ k_ ≠ gb258)) (by (with_reducible repeat (first | apply Kd.N_alloc | apply Kd.N_drewN | apply Kd.N_drew)); exact HO_7.out) hg hat); have n1_ := zA2.mk (blk_grown (g := gb258) (o := .cells #[.int .i64 a0_0, .slice A0_1 l0_1.length c0_1] 28 (0, 0)) (by (with_reducible repeat (first | refine zA6 ?_ _ | refine zA8 ?_ | refine zA5 ?_ _)); exact BK258.out) hg (Kd.N_ne HO276.out BK258.out (by decide))); have n2_ := zA2.mk (Kd.V_afterv (ok := (fun k_ => (w.heap.size ≤ k_) ∧ some k_ ≠ (.slice (some ad264) x7_1.length co34 : Value).ownBlock ∧ some k_ ≠ (.slice Ao35 x9_2.length co35 : Value).ownBlock ∧ k_ ≠ gb258)) (by (with_reducible repeat (first | apply Kd.V_alloc | apply Kd.V_drewN | apply Kd.V_drew)); exact HL264_0.out) hg hat); have n3_ := zA2.mk (Kd.V_afterv (ok := (fun k_ => (w.heap.size ≤ k_) ∧ some k_ ≠ (.slice Ao35 x9_2.length co35 : Value).ownBlock ∧ k_ ≠ gb258)) (by (with_reducible repeat (first | apply Kd.V_alloc | apply Kd.V_drewN | apply Kd.V_drew)); exact HO273.out) hg hat); have n4_ := zA2.mk (hb); have n5_ := zA2.mk (ho); clear HO_7; clear BK258; clear HL264_0; clear HO273; clear HB; clear HO276; clear HO_9; have HO_7 := n0_; have BK258 := n1_; have HL264_0 := n2_; have HO273 := n3_; have HB := n4_; have HO279 := n5_; clear n0_ n1_ n2_ n3_ n4_ n5_; clear ho hb hg hat; have q41 : (x11_4 : Int) ≤ ((x7_1.length : Int) : Int) := of_decide_eq_true (by first | (with_reducible assumption) | assumption); obtain ⟨i041, hi041, _, hsz41, _⟩ := info_parts info23; have hroom41 : x7_1.length ≤ co34 := (Kd.N_reads' HO_7.out).2.1; have hC41 : Kd.F (Kd.slice 3 (Kd.int .i64)) _ _ (some ad264) x7_1.length x7_1 := (Kd.V_at (base := w.heap.size) (Kd.N_V HO_7.out)).2.2; have q041 : (0 : Int) ≤ (x11_4 : Int) := of_decide_eq_true (by first | (with_reducible assumption) | assumption); have hcut41 := cut_from (P := Tryz.prog) 30 23 .i64 Tryz.underlying30 hi041 1 hsz41 (some ad264) x7_1.length co34 x11_4 q041 q41; have hr41 := Kd.F_cut (m := (x11_4 : Int).toNat) (c := co34) hC41 (by omega) hroom41; obtain ⟨A41, hA41⟩ : ∃ A1, A1 = (if co34 = (x11_4 : Int).toNat then (some ad264) else ((some ad264) : Option Addr).map (·.add ((x11_4 : Int).toNat * 1))) := ⟨_, rfl⟩; obtain ⟨c41, hc41⟩ : ∃ c1, c1 = co34 - (x11_4 : Int).toNat := ⟨_, rfl⟩; have hy41 : y280.length = x7_1.length - (x11_4 : Int).toNat := (by rw [Ny280.out, List.length_drop] <;> omega); rw [show (x7_1).drop (x11_4 : Int).toNat = y280 from Ny280.out.symm] at hr41; replace hr41 : Kd.F (Kd.slice 3 (Kd.int .i64)) _ _ A41 y280.length y280 := (by rw [hA41]; exact hr41); rw [← hy41, ← hA41, ← hc41] at hcut41; have HO284 := zA2.mk (show Kd.V (Kd.slice 3 (Kd.int .i64)) 23 _ w.heap.size _ (.slice A41 y280.length c41) y280 from Kd.V_mk (by rw [hy41, hc41]; exact Nat.sub_le_sub_right hroom41 _) hr41); have HC284 := zA2.mk (show y280.length ≤ c41 from by rw [hy41, hc41]; exact Nat.sub_le_sub_right hroom41 _); clear hr41 hC41 hroom41 hi041 hsz41 hc41; have KY41 := zA2.mk hy41; have KA41 := zA2.mk hA41; clear hy41 hA41; replace q41 := eq_true q41) | ((with_reducible refine zCe (b := .append) (xs := #[.tmp 71, .tmp 74]) rfl ?_); at_builtin; refine Kd.N_append_rows (Kd.slice 3 (Kd.int .i64)) (w0 := w) w.heap.size rfl (.tmp 71) (.tmp 74) 30 23 (.slice none 0 0) 24 rfl Tryz.underlying30 info23 rfl (by decide) (by omega) v278 y277 y280 _ _ _ (fun k_ => (w.heap.size ≤ k_) ∧ k_ ≠ gb258) (fun k_ => ((fun k_ => (w.heap.size ≤ k_) ∧ k_ ≠ gb258)) k_ ∧ some k_ ≠ (v278 : Value).ownBlock) rfl rfl ?aO ?aR (fun _ hk => hk) ?aF ?aB ?aS ?aL ?_; (case aR => exact (by skip; exact Kd.V_F (Kd.V_mono (ok' := (fun k_ => ((fun k_ => (w.heap.size ≤ k_) ∧ k_ ≠ gb258)) k_ ∧ some k_ ≠ (v278 : Value).ownBlock)) (HO284.out) (fun k_ hk => ⟨⟨hk.1.1, hk.1.2.2⟩, hk.2⟩)))); (case aB => exact (by repeat (first | (with_reducible first | exact HB.out | apply zA1 | apply zA0 | apply zA3 | refine zA4 ?_ GE258.out) | exact HB.out))); (case aF => exact (fun k_ hk => ⟨(Nat.le_trans (zAb (by repeat (first | (with_reducible first | exact HB.out | apply zA1 | apply zA0 | apply zA3 | refine zA4 ?_ GE258.out) | exact HB.out))) hk), Kd.freshB (g := gb258) (o := .cells #[.int .i64 a0_0, .slice A0_1 l0_1.length c0_1] 28 (0, 0)) (by (with_reducible repeat (first | refine zA6 ?_ _ | refine zA8 ?_ | refine zA5 ?_ _)); exact BK258.out) k_ hk⟩)); (case aO => exact (by (with_reducible repeat (first | apply Kd.N_alloc | apply Kd.N_drewN | apply Kd.N_drew)); exact HO279.out)); (case aS => exact (zAb (by repeat (first | (with_reducible first | exact HB.out | apply zA1 | apply zA0 | apply zA3 | refine zA4 ?_ GE258.out) | exact HB.out)))); (case aL => have := LMc33.out; omega); intro v286 w42 ho hb hg hat; rw [← Ny285.out] at ho; have n0_ := zA2.mk (Kd.N_afterv (ok := (fun k_ => (w.heap.size ≤ k_) ∧ k_ ≠ gb258)) (by (with_reducible repeat (first | apply Kd.N_alloc | apply Kd.N_drewN | apply Kd.N_drew)); exact Kd.N_mono HO_7.out (fun _ hk => ⟨⟨hk.1.1, hk.1.2.2⟩, hk.2⟩)) hg hat); have n1_ := zA2.mk (blk_grown (g := gb258) (o := .cells #[.int .i64 a0_0, .slice A0_1 l0_1.length c0_1] 28 (0, 0)) (by (with_reducible repeat (first | refine zA6 ?_ _ | refine zA8 ?_ | refine zA5 ?_ _)); exact BK258.out) hg (Kd.N_ne HO279.out BK258.out (by decide))); have n2_ := zA2.mk (Kd.V_afterv (ok := (fun k_ => (w.heap.size ≤ k_) ∧ some k_ ≠ (.slice (some ad264) x7_1.length co34 : Value).ownBlock ∧ k_ ≠ gb258)) (by (with_reducible repeat (first | apply Kd.V_alloc | apply Kd.V_drewN | apply Kd.V_drew)); exact Kd.V_mono HL264_0.out (fun _ hk => ⟨⟨hk.1.1, ⟨hk.1.2.1, hk.1.2.2.2⟩⟩, hk.2⟩)) hg hat); have n3_ := zA2.mk (Kd.V_afterv (ok := (fun k_ => (w.heap.size ≤ k_) ∧ k_ ≠ gb258)) (by (with_reducible repeat (first | apply Kd.V_alloc | apply Kd.V_drewN | apply Kd.V_drew)); exact Kd.V_mono HO273.out (fun _ hk => ⟨⟨hk.1.1, hk.1.2.2⟩, hk.2⟩)) hg hat); have n4_ := zA2.mk (Kd.V_afterv (ok := (fun k_ => (w.heap.size ≤ k_) ∧ k_ ≠ gb258)) (by (with_reducible repeat (first | apply Kd.V_alloc | apply Kd.V_drewN | apply Kd.V_drew)); exact Kd.V_mono HO284.out (fun _ hk => ⟨⟨hk.1.1, hk.1.2.2⟩, hk.2⟩)) hg hat); have n5_ := zA2.mk (hb); have n6_ := zA2.mk (ho); clear HO_7; clear BK258; clear HL264_0; clear HO273; clear HO284; clear HB; clear HO279; have HO_7 := n0_; have BK258 := n1_; have HL264_0 := n2_; have HO273 := n3_; have HO284 := n4_; have HB := n5_; have HO287 := n6_; clear n0_ n1_ n2_ n3_ n4_ n5_ n6_; clear ho hb hg hat))
              go_roundg k4
              case measure => have := HK1.out; have := HK2.out; have := HJ12.out; have := HK4.out; omega
              case rel => exact ⟨(y285), (wrap64 (x8_1 + 1)), (by first | rfl | (simp; done) | (simp [*]; done)), H', ⟨by have := HK1.out; have := HK2.out; have := HJ12.out; have := HK4.out; omega⟩, ⟨by (with_reducible repeat (first | apply Kd.N_alloc | apply Kd.N_drewN | apply Kd.N_drew)); exact HO287.out⟩, ⟨by (with_reducible repeat (first | refine zA6 ?_ _ | refine zA8 ?_ | refine zA5 ?_ _)); exact BK258.out⟩, ⟨by repeat (first | (with_reducible first | exact HB.out | apply zA1 | apply zA0 | apply zA3 | refine zA4 ?_ GE258.out) | exact HB.out)⟩⟩
            ·rw [if_neg c21] at H
             have c21b0 : decide (x11_4 < (x7_1.length : Int)) = false := decide_eq_false c21
             clear c21
             obtain ⟨y288, hy288⟩ : ∃ y_ : List (List Int), y_ = (([] : List (List Int))) := ⟨_, rfl⟩
             replace H : (if 0 ≤ x11_4 then (if x11_4 ≤ (x7_1.length : Int) then ((some (x7_1.take (x11_4 : Int).toNat : List (List Int))).bind fun y291 => (if y288.length + y291.length < 5864062014805 then ((some (y288 ++ y291 : List (List Int))).bind fun y296 => (if y296.length < 5864062014805 then ((some (y296 ++ [x9_2] : List (List Int))).bind fun y299 => ((some (x7_1.drop (x11_4 : Int).toNat : List (List Int))).bind fun y302 => (if y299.length + y302.length < 5864062014805 then (zAa.l0 k4 l1 a2 (y299 ++ y302) (wrap64 (x8_1 + 1)) a0_0 l0_1) else (none)))) else (none))) else (none))) else (none)) else (none)) = some r := by first | (rw [hy288]; with_reducible exact H) | (have H2_ := (Option.bind_some _ _).symm.trans H; rw [hy288]; with_reducible exact H2_) | (have H2_ := (Option.bind_some _ _).symm.trans H; with_reducible exact H2_) | with_reducible exact H | (rw [hy288]; exact H) | exact H
             have Ny288 := zA2.mk hy288
             clear hy288
             by_cases c43 : 0 ≤ x11_4
             rotate_left
             ·rw [if_neg c43] at H
              exact absurd H (by simp)
             rw [if_pos c43] at H
             have c43b0 := eq_true c43
             have c43b1 : decide (0 ≤ x11_4) = true := decide_eq_true c43
             clear c43
             by_cases c44 : x11_4 ≤ (x7_1.length : Int)
             rotate_left
             ·rw [if_neg c44] at H
              exact absurd H (by simp)
             rw [if_pos c44] at H
             have c44b0 := eq_true c44
             have c44b1 : decide (x11_4 ≤ (x7_1.length : Int)) = true := decide_eq_true c44
             clear c44
             obtain ⟨y291, hy291⟩ : ∃ y_ : List (List Int), y_ = (x7_1.take (x11_4 : Int).toNat) := ⟨_, rfl⟩
             replace H : (if y288.length + y291.length < 5864062014805 then ((some (y288 ++ y291 : List (List Int))).bind fun y296 => (if y296.length < 5864062014805 then ((some (y296 ++ [x9_2] : List (List Int))).bind fun y299 => ((some (x7_1.drop (x11_4 : Int).toNat : List (List Int))).bind fun y302 => (if y299.length + y302.length < 5864062014805 then (zAa.l0 k4 l1 a2 (y299 ++ y302) (wrap64 (x8_1 + 1)) a0_0 l0_1) else (none)))) else (none))) else (none)) = some r := by first | (rw [hy291]; with_reducible exact H) | (have H2_ := (Option.bind_some _ _).symm.trans H; rw [hy291]; with_reducible exact H2_) | (have H2_ := (Option.bind_some _ _).symm.trans H; with_reducible exact H2_) | with_reducible exact H | (rw [hy291]; exact H) | exact H
             have Ny291 := zA2.mk hy291
             clear hy291
             by_cases c45 : y288.length + y291.length < 5864062014805
             rotate_left
             ·rw [if_neg c45] at H
              exact absurd H (by simp)
             rw [if_pos c45] at H
             have LMc45 := zA2.mk c45
             clear c45
             obtain ⟨y296, hy296⟩ : ∃ y_ : List (List Int), y_ = (y288 ++ y291) := ⟨_, rfl⟩
             replace H : (if y296.length < 5864062014805 then ((some (y296 ++ [x9_2] : List (List Int))).bind fun y299 => ((some (x7_1.drop (x11_4 : Int).toNat : List (List Int))).bind fun y302 => (if y299.length + y302.length < 5864062014805 then (zAa.l0 k4 l1 a2 (y299 ++ y302) (wrap64 (x8_1 + 1)) a0_0 l0_1) else (none)))) else (none)) = some r := by first | (rw [hy296]; with_reducible exact H) | (have H2_ := (Option.bind_some _ _).symm.trans H; rw [hy296]; with_reducible exact H2_) | (have H2_ := (Option.bind_some _ _).symm.trans H; with_reducible exact H2_) | with_reducible exact H | (rw [hy296]; exact H) | exact H
             have Ny296 := zA2.mk hy296
             clear hy296
             by_cases c46 : y296.length < 5864062014805
             rotate_left
             ·rw [if_neg c46] at H
              exact absurd H (by simp)
             rw [if_pos c46] at H
             have LMc46 := zA2.mk c46
             clear c46
             obtain ⟨y299, hy299⟩ : ∃ y_ : List (List Int), y_ = (y296 ++ [x9_2]) := ⟨_, rfl⟩
             replace H : ((some (x7_1.drop (x11_4 : Int).toNat : List (List Int))).bind fun y302 => (if y299.length + y302.length < 5864062014805 then (zAa.l0 k4 l1 a2 (y299 ++ y302) (wrap64 (x8_1 + 1)) a0_0 l0_1) else (none))) = some r := by first | (rw [hy299]; with_reducible exact H) | (have H2_ := (Option.bind_some _ _).symm.trans H; rw [hy299]; with_reducible exact H2_) | (have H2_ := (Option.bind_some _ _).symm.trans H; with_reducible exact H2_) | with_reducible exact H | (rw [hy299]; exact H) | exact H
             have Ny299 := zA2.mk hy299
             clear hy299
             have c47b0 := eq_true (of_decide_eq_true (by first | (with_reducible assumption) | assumption) : 0 ≤ x11_4)
             have c48b0 := eq_true (of_decide_eq_true (by first | (with_reducible assumption) | assumption) : x11_4 ≤ (x7_1.length : Int))
             obtain ⟨y302, hy302⟩ : ∃ y_ : List (List Int), y_ = (x7_1.drop (x11_4 : Int).toNat) := ⟨_, rfl⟩
             replace H : (if y299.length + y302.length < 5864062014805 then (zAa.l0 k4 l1 a2 (y299 ++ y302) (wrap64 (x8_1 + 1)) a0_0 l0_1) else (none)) = some r := by first | (rw [hy302]; with_reducible exact H) | (have H2_ := (Option.bind_some _ _).symm.trans H; rw [hy302]; with_reducible exact H2_) | (have H2_ := (Option.bind_some _ _).symm.trans H; with_reducible exact H2_) | with_reducible exact H | (rw [hy302]; exact H) | exact H
             have Ny302 := zA2.mk hy302
             clear hy302
             by_cases c49 : y299.length + y302.length < 5864062014805
             rotate_left
             ·rw [if_neg c49] at H
              exact absurd H (by simp)
             rw [if_pos c49] at H
             have LMc49 := zA2.mk c49
             clear c49
             obtain ⟨y307, hy307⟩ : ∃ y_ : List (List Int), y_ = (y299 ++ y302) := ⟨_, rfl⟩
             replace H : (zAa.l0 k4 l1 a2 y307 (wrap64 (x8_1 + 1)) a0_0 l0_1) = some r := by first | (rw [hy307]; with_reducible exact H) | (have H2_ := (Option.bind_some _ _).symm.trans H; rw [hy307]; with_reducible exact H2_) | (have H2_ := (Option.bind_some _ _).symm.trans H; with_reducible exact H2_) | with_reducible exact H | (rw [hy307]; exact H) | exact H
             have Ny307 := zA2.mk hy307
             clear hy307
             have H' := zA2.mk H
             clear H
             obtain ⟨Ao50, co50, eo50⟩ := Kd.N_slice HO_7.out
             subst eo50
             go_wp2_with (first | ((with_reducible refine zBl (N := 62) rfl ?_); refine Kd.N_lit (Kd.slice 3 (Kd.int .i64)) _ 23 ?hg (N' := 62) ?hd (xs := ([] : List (List Int))) (inner := []) (ok := (fun k_ => (w.heap.size ≤ k_) ∧ some k_ ≠ (.slice Ao50 x7_1.length co50 : Value).ownBlock ∧ some k_ ≠ (u9 : Value).ownBlock ∧ k_ ≠ gb258)) (okp := (fun k_ => (w.heap.size ≤ k_) ∧ some k_ ≠ (.slice Ao50 x7_1.length co50 : Value).ownBlock ∧ some k_ ≠ (u9 : Value).ownBlock ∧ k_ ≠ gb258)) ?hr ?hp (fun _ hk => hk) ((show ∀ k_, wr.heap.size ≤ k_ → (fun k_ => (w.heap.size ≤ k_) ∧ some k_ ≠ (.slice Ao50 x7_1.length co50 : Value).ownBlock ∧ some k_ ≠ (u9 : Value).ownBlock ∧ k_ ≠ gb258) k_ from fun k_ hk => ⟨(Nat.le_trans (zAb (by repeat (first | (with_reducible first | exact HB.out | apply zA1 | apply zA0 | apply zA3 | refine zA4 ?_ GE258.out) | exact HB.out))) hk), Kd.fresh' (Kd.N_lt (by (with_reducible repeat (first | apply Kd.N_alloc | apply Kd.N_drewN | apply Kd.N_drew)); exact HO_7.out)) k_ hk, Kd.fresh' (Kd.R_lt (by (with_reducible repeat (first | apply Kd.zB6 | apply Kd.zB5 | apply Kd.zBf)); exact HO_9.out)) k_ hk, Kd.freshB (g := gb258) (o := .cells #[.int .i64 a0_0, .slice A0_1 l0_1.length c0_1] 28 (0, 0)) (by (with_reducible repeat (first | refine zA6 ?_ _ | refine zA8 ?_ | refine zA5 ?_ _)); exact BK258.out) k_ hk⟩) _ (Nat.le_refl _)) (Below.refl _ _) (Nat.le_refl _) (by simp) ?_; (case hd => rfl); (case hg => rfl); (case hr => first | (go_simp; done) | (go_simp; rfl)); (case hp => exact (Reps.none _ _)); intro v289 w51 ho52 hb hg_ hnew_; clear hg_ hnew_; (first | rw [← Ny288.out] at ho52 | (simp only [Int.reduceToNat] at ho52; rw [← Ny288.out] at ho52)); have n0_ := zA2.mk (Kd.N_elder' (by (with_reducible repeat (first | apply Kd.N_alloc | apply Kd.N_drewN | apply Kd.N_drew)); exact HO_7.out) (Kd.N_base ho52) hb); have n1_ := zA2.mk (Kd.R_below (by (with_reducible repeat (first | apply Kd.zB6 | apply Kd.zB5 | apply Kd.zBf)); exact HO_9.out) hb); have n2_ := zA2.mk (Kd.N_lower ho52 (zAb (by repeat (first | (with_reducible first | exact HB.out | apply zA1 | apply zA0 | apply zA3 | refine zA4 ?_ GE258.out) | exact HB.out)))); have n3_ := zA2.mk (zAl (g := gb258) (o := .cells #[.int .i64 a0_0, .slice A0_1 l0_1.length c0_1] 28 (0, 0)) (by (with_reducible repeat (first | refine zA6 ?_ _ | refine zA8 ?_ | refine zA5 ?_ _)); exact BK258.out) hb); have n4_ := zA2.mk (zAe (by repeat (first | (with_reducible first | exact HB.out | apply zA1 | apply zA0 | apply zA3 | refine zA4 ?_ GE258.out) | exact HB.out)) hb); clear HO_7; clear HO_9; clear BK258; clear HB; have HO_7 := n0_; have HO_9 := n1_; have HO290 := n2_; have BK258 := n3_; have HB := n4_; clear n0_ n1_ n2_ n3_ n4_; clear hb ho52; have q53 : (x11_4 : Int) ≤ ((x7_1.length : Int) : Int) := of_decide_eq_true (by first | (with_reducible assumption) | assumption); obtain ⟨i053, hi053, _, hsz53, _⟩ := info_parts info23; have hroom53 : x7_1.length ≤ co50 := (Kd.N_reads' HO_7.out).2.1; have hC53 : Kd.F (Kd.slice 3 (Kd.int .i64)) _ _ Ao50 x7_1.length x7_1 := (Kd.V_at (base := w.heap.size) (Kd.N_V HO_7.out)).2.2; have hcut53 := cut_to (P := Tryz.prog) 30 23 .i64 Tryz.underlying30 hi053 Ao50 x7_1.length co50 x11_4 (of_decide_eq_true (by first | (with_reducible assumption) | assumption)) q53 hroom53; have hr53 := Kd.F_take (m := (x11_4 : Int).toNat) hC53 (by omega); have hy53 : y291.length = (x11_4 : Int).toNat := (by rw [Ny291.out, List.length_take]; omega); rw [← Ny291.out] at hr53; rw [← hy53] at hcut53; have HO295 := zA2.mk (show Kd.V (Kd.slice 3 (Kd.int .i64)) 23 _ w.heap.size _ (.slice Ao50 y291.length co50) y291 from Kd.V_mk (by omega) hr53); have HC295 := zA2.mk (show y291.length ≤ co50 from by omega); clear hr53 hC53 hroom53 hi053 hsz53; have KY53 := zA2.mk hy53; clear hy53; replace q53 := eq_true q53) | ((with_reducible refine zCe (b := .append) (xs := #[.tmp 62, .tmp 65]) rfl ?_); at_builtin; refine Kd.N_append_rows (Kd.slice 3 (Kd.int .i64)) (w0 := w) w.heap.size rfl (.tmp 62) (.tmp 65) 30 23 (.slice none 0 0) 24 rfl Tryz.underlying30 info23 rfl (by decide) (by omega) v289 y288 y291 _ _ _ (fun k_ => (w.heap.size ≤ k_) ∧ some k_ ≠ (u9 : Value).ownBlock ∧ k_ ≠ gb258) (fun k_ => ((fun k_ => (w.heap.size ≤ k_) ∧ some k_ ≠ (u9 : Value).ownBlock ∧ k_ ≠ gb258)) k_ ∧ some k_ ≠ (v289 : Value).ownBlock) rfl rfl ?aO ?aR (fun _ hk => hk) ?aF ?aB ?aS ?aL ?_; (case aR => exact (by skip; exact Kd.V_F (Kd.V_mono (ok' := (fun k_ => ((fun k_ => (w.heap.size ≤ k_) ∧ some k_ ≠ (u9 : Value).ownBlock ∧ k_ ≠ gb258)) k_ ∧ some k_ ≠ (v289 : Value).ownBlock)) (HO295.out) (fun k_ hk => ⟨⟨hk.1.1, ⟨hk.1.2.1, hk.1.2.2⟩⟩, hk.2⟩)))); (case aB => exact (by repeat (first | (with_reducible first | exact HB.out | apply zA1 | apply zA0 | apply zA3 | refine zA4 ?_ GE258.out) | exact HB.out))); (case aF => exact (fun k_ hk => ⟨(Nat.le_trans (zAb (by repeat (first | (with_reducible first | exact HB.out | apply zA1 | apply zA0 | apply zA3 | refine zA4 ?_ GE258.out) | exact HB.out))) hk), Kd.fresh' (Kd.R_lt (by (with_reducible repeat (first | apply Kd.zB6 | apply Kd.zB5 | apply Kd.zBf)); exact HO_9.out)) k_ hk, Kd.freshB (g := gb258) (o := .cells #[.int .i64 a0_0, .slice A0_1 l0_1.length c0_1] 28 (0, 0)) (by (with_reducible repeat (first | refine zA6 ?_ _ | refine zA8 ?_ | refine zA5 ?_ _)); exact BK258.out) k_ hk⟩)); (case aO => exact (by (with_reducible repeat (first | apply Kd.N_alloc | apply Kd.N_drewN | apply Kd.N_drew)); exact Kd.N_mono HO290.out (fun _ hk => ⟨hk.1, ⟨hk.2.2.1, hk.2.2.2⟩⟩))); (case aS => exact (zAb (by repeat (first | (with_reducible first | exact HB.out | apply zA1 | apply zA0 | apply zA3 | refine zA4 ?_ GE258.out) | exact HB.out)))); (case aL => have := LMc45.out; omega); intro v297 w54 ho hb hg hat; rw [← Ny296.out] at ho; have n0_ := zA2.mk (Kd.N_afterv (ok := (fun k_ => (w.heap.size ≤ k_) ∧ some k_ ≠ (u9 : Value).ownBlock ∧ k_ ≠ gb258)) (by (with_reducible repeat (first | apply Kd.N_alloc | apply Kd.N_drewN | apply Kd.N_drew)); exact HO_7.out) hg hat); have n1_ := zA2.mk (Kd.R_over' (by (with_reducible repeat (first | apply Kd.zB6 | apply Kd.zB5 | apply Kd.zBf)); exact HO_9.out) (Kd.N_typed (by (with_reducible repeat (first | apply Kd.N_alloc | apply Kd.N_drewN | apply Kd.N_drew)); exact HO290.out)) (by decide) hg); have n2_ := zA2.mk (blk_grown (g := gb258) (o := .cells #[.int .i64 a0_0, .slice A0_1 l0_1.length c0_1] 28 (0, 0)) (by (with_reducible repeat (first | refine zA6 ?_ _ | refine zA8 ?_ | refine zA5 ?_ _)); exact BK258.out) hg (Kd.N_ne HO290.out BK258.out (by decide))); have n3_ := zA2.mk (Kd.V_afterv (ok := (fun k_ => (w.heap.size ≤ k_) ∧ some k_ ≠ (u9 : Value).ownBlock ∧ k_ ≠ gb258)) (by (with_reducible repeat (first | apply Kd.V_alloc | apply Kd.V_drewN | apply Kd.V_drew)); exact HO295.out) hg hat); have n4_ := zA2.mk (hb); have n5_ := zA2.mk (ho); clear HO_7; clear HO_9; clear BK258; clear HO295; clear HB; clear HO290; have HO_7 := n0_; have HO_9 := n1_; have BK258 := n2_; have HO295 := n3_; have HB := n4_; have HO298 := n5_; clear n0_ n1_ n2_ n3_ n4_ n5_; clear ho hb hg hat; obtain ⟨Ao56, co56, eo56⟩ := Kd.zCa HO_9.out; subst eo56) | ((with_reducible refine zCe (b := .append) (xs := #[.tmp 67, .tmp 69]) rfl ?_); at_builtin; refine Kd.N_append (Kd.slice 3 (Kd.int .i64)) (w0 := w) w.heap.size rfl (.tmp 67) (.tmp 69) 30 23 (.slice none 0 0) 24 rfl Tryz.underlying30 info23 rfl (by decide) (by omega) v297 y296 x9_2 [.slice Ao56 x9_2.length co56] (fun k_ => (w.heap.size ≤ k_) ∧ k_ ≠ gb258) (fun k_ => ((fun k_ => (w.heap.size ≤ k_) ∧ k_ ≠ gb258)) k_ ∧ some k_ ≠ (v297 : Value).ownBlock) rfl rfl ?aP (fun _ hk => hk) ?aF ?aO ?aB ?aS ?aL ?_; (case aP => exact (Kd.FK_slice_mk (Kd.zBp (Kd.R_mono (ok' := (fun k_ => ((fun k_ => (w.heap.size ≤ k_) ∧ k_ ≠ gb258)) k_ ∧ some k_ ≠ (v297 : Value).ownBlock)) (Kd.R_types (Kd.R_apart' (HO_9.out) (Kd.N_typed HO298.out) (by decide)) BK258.out (by decide)) (fun k_ hk => ⟨⟨hk.1.1, hk.2⟩, hk.1.2⟩))).2.1 (Kd.R_F (Kd.R_mono (ok' := (fun k_ => ((fun k_ => (w.heap.size ≤ k_) ∧ k_ ≠ gb258)) k_ ∧ some k_ ≠ (v297 : Value).ownBlock)) (Kd.R_types (Kd.R_apart' (HO_9.out) (Kd.N_typed HO298.out) (by decide)) BK258.out (by decide)) (fun k_ hk => ⟨⟨hk.1.1, hk.2⟩, hk.1.2⟩))))); (case aB => exact (by repeat (first | (with_reducible first | exact HB.out | apply zA1 | apply zA0 | apply zA3 | refine zA4 ?_ GE258.out) | exact HB.out))); (case aF => exact (fun k_ hk => ⟨(Nat.le_trans (zAb (by repeat (first | (with_reducible first | exact HB.out | apply zA1 | apply zA0 | apply zA3 | refine zA4 ?_ GE258.out) | exact HB.out))) hk), Kd.freshB (g := gb258) (o := .cells #[.int .i64 a0_0, .slice A0_1 l0_1.length c0_1] 28 (0, 0)) (by (with_reducible repeat (first | refine zA6 ?_ _ | refine zA8 ?_ | refine zA5 ?_ _)); exact BK258.out) k_ hk⟩)); (case aO => exact (by (with_reducible repeat (first | apply Kd.N_alloc | apply Kd.N_drewN | apply Kd.N_drew)); exact Kd.N_mono HO298.out (fun _ hk => ⟨hk.1, hk.2.2⟩))); (case aS => exact (zAb (by repeat (first | (with_reducible first | exact HB.out | apply zA1 | apply zA0 | apply zA3 | refine zA4 ?_ GE258.out) | exact HB.out)))); (case aL => have := LMc46.out; omega); intro v300 w55 ho hb hg hat; rw [← Ny299.out] at ho; have n0_ := zA2.mk (Kd.N_afterv (ok := (fun k_ => (w.heap.size ≤ k_) ∧ some k_ ≠ (.slice Ao56 x9_2.length co56 : Value).ownBlock ∧ k_ ≠ gb258)) (by (with_reducible repeat (first | apply Kd.N_alloc | apply Kd.N_drewN | apply Kd.N_drew)); exact HO_7.out) hg hat); have n1_ := zA2.mk (blk_grown (g := gb258) (o := .cells #[.int .i64 a0_0, .slice A0_1 l0_1.length c0_1] 28 (0, 0)) (by (with_reducible repeat (first | refine zA6 ?_ _ | refine zA8 ?_ | refine zA5 ?_ _)); exact BK258.out) hg (Kd.N_ne HO298.out BK258.out (by decide))); have n2_ := zA2.mk (Kd.V_afterv (ok := (fun k_ => (w.heap.size ≤ k_) ∧ some k_ ≠ (.slice Ao56 x9_2.length co56 : Value).ownBlock ∧ k_ ≠ gb258)) (by (with_reducible repeat (first | apply Kd.V_alloc | apply Kd.V_drewN | apply Kd.V_drew)); exact HO295.out) hg hat); have n3_ := zA2.mk (hb); have n4_ := zA2.mk (ho); clear HO_7; clear BK258; clear HO295; clear HB; clear HO298; clear HO_9; have HO_7 := n0_; have BK258 := n1_; have HO295 := n2_; have HB := n3_; have HO301 := n4_; clear n0_ n1_ n2_ n3_ n4_; clear ho hb hg hat; have q57 : (x11_4 : Int) ≤ ((x7_1.length : Int) : Int) := of_decide_eq_true (by first | (with_reducible assumption) | assumption); obtain ⟨i057, hi057, _, hsz57, _⟩ := info_parts info23; have hroom57 : x7_1.length ≤ co50 := (Kd.N_reads' HO_7.out).2.1; have hC57 : Kd.F (Kd.slice 3 (Kd.int .i64)) _ _ Ao50 x7_1.length x7_1 := (Kd.V_at (base := w.heap.size) (Kd.N_V HO_7.out)).2.2; have q057 : (0 : Int) ≤ (x11_4 : Int) := of_decide_eq_true (by first | (with_reducible assumption) | assumption); have hcut57 := cut_from (P := Tryz.prog) 30 23 .i64 Tryz.underlying30 hi057 1 hsz57 Ao50 x7_1.length co50 x11_4 q057 q57; have hr57 := Kd.F_cut (m := (x11_4 : Int).toNat) (c := co50) hC57 (by omega) hroom57; obtain ⟨A57, hA57⟩ : ∃ A1, A1 = (if co50 = (x11_4 : Int).toNat then Ao50 else (Ao50 : Option Addr).map (·.add ((x11_4 : Int).toNat * 1))) := ⟨_, rfl⟩; obtain ⟨c57, hc57⟩ : ∃ c1, c1 = co50 - (x11_4 : Int).toNat := ⟨_, rfl⟩; have hy57 : y302.length = x7_1.length - (x11_4 : Int).toNat := (by rw [Ny302.out, List.length_drop] <;> omega); rw [show (x7_1).drop (x11_4 : Int).toNat = y302 from Ny302.out.symm] at hr57; replace hr57 : Kd.F (Kd.slice 3 (Kd.int .i64)) _ _ A57 y302.length y302 := (by rw [hA57]; exact hr57); rw [← hy57, ← hA57, ← hc57] at hcut57; have HO306 := zA2.mk (show Kd.V (Kd.slice 3 (Kd.int .i64)) 23 _ w.heap.size _ (.slice A57 y302.length c57) y302 from Kd.V_mk (by rw [hy57, hc57]; exact Nat.sub_le_sub_right hroom57 _) hr57); have HC306 := zA2.mk (show y302.length ≤ c57 from by rw [hy57, hc57]; exact Nat.sub_le_sub_right hroom57 _); clear hr57 hC57 hroom57 hi057 hsz57 hc57; have KY57 := zA2.mk hy57; have KA57 := zA2.mk hA57; clear hy57 hA57; replace q57 := eq_true q57) | ((with_reducible refine zCe (b := .append) (xs := #[.tmp 71, .tmp 74]) rfl ?_); at_builtin; refine Kd.N_append_rows (Kd.slice 3 (Kd.int .i64)) (w0 := w) w.heap.size rfl (.tmp 71) (.tmp 74) 30 23 (.slice none 0 0) 24 rfl Tryz.underlying30 info23 rfl (by decide) (by omega) v300 y299 y302 _ _ _ (fun k_ => (w.heap.size ≤ k_) ∧ k_ ≠ gb258) (fun k_ => ((fun k_ => (w.heap.size ≤ k_) ∧ k_ ≠ gb258)) k_ ∧ some k_ ≠ (v300 : Value).ownBlock) rfl rfl ?aO ?aR (fun _ hk => hk) ?aF ?aB ?aS ?aL ?_; (case aR => exact (by skip; exact Kd.V_F (Kd.V_mono (ok' := (fun k_ => ((fun k_ => (w.heap.size ≤ k_) ∧ k_ ≠ gb258)) k_ ∧ some k_ ≠ (v300 : Value).ownBlock)) (HO306.out) (fun k_ hk => ⟨⟨hk.1.1, hk.1.2.2⟩, hk.2⟩)))); (case aB => exact (by repeat (first | (with_reducible first | exact HB.out | apply zA1 | apply zA0 | apply zA3 | refine zA4 ?_ GE258.out) | exact HB.out))); (case aF => exact (fun k_ hk => ⟨(Nat.le_trans (zAb (by repeat (first | (with_reducible first | exact HB.out | apply zA1 | apply zA0 | apply zA3 | refine zA4 ?_ GE258.out) | exact HB.out))) hk), Kd.freshB (g := gb258) (o := .cells #[.int .i64 a0_0, .slice A0_1 l0_1.length c0_1] 28 (0, 0)) (by (with_reducible repeat (first | refine zA6 ?_ _ | refine zA8 ?_ | refine zA5 ?_ _)); exact BK258.out) k_ hk⟩)); (case aO => exact (by (with_reducible repeat (first | apply Kd.N_alloc | apply Kd.N_drewN | apply Kd.N_drew)); exact HO301.out)); (case aS => exact (zAb (by repeat (first | (with_reducible first | exact HB.out | apply zA1 | apply zA0 | apply zA3 | refine zA4 ?_ GE258.out) | exact HB.out)))); (case aL => have := LMc49.out; omega); intro v308 w58 ho hb hg hat; rw [← Ny307.out] at ho; have n0_ := zA2.mk (Kd.N_afterv (ok := (fun k_ => (w.heap.size ≤ k_) ∧ k_ ≠ gb258)) (by (with_reducible repeat (first | apply Kd.N_alloc | apply Kd.N_drewN | apply Kd.N_drew)); exact Kd.N_mono HO_7.out (fun _ hk => ⟨⟨hk.1.1, hk.1.2.2⟩, hk.2⟩)) hg hat); have n1_ := zA2.mk (blk_grown (g := gb258) (o := .cells #[.int .i64 a0_0, .slice A0_1 l0_1.length c0_1] 28 (0, 0)) (by (with_reducible repeat (first | refine zA6 ?_ _ | refine zA8 ?_ | refine zA5 ?_ _)); exact BK258.out) hg (Kd.N_ne HO301.out BK258.out (by decide))); have n2_ := zA2.mk (Kd.V_afterv (ok := (fun k_ => (w.heap.size ≤ k_) ∧ k_ ≠ gb258)) (by (with_reducible repeat (first | apply Kd.V_alloc | apply Kd.V_drewN | apply Kd.V_drew)); exact Kd.V_mono HO295.out (fun _ hk => ⟨⟨hk.1.1, hk.1.2.2⟩, hk.2⟩)) hg hat); have n3_ := zA2.mk (Kd.V_afterv (ok := (fun k_ => (w.heap.size ≤ k_) ∧ k_ ≠ gb258)) (by (with_reducible repeat (first | apply Kd.V_alloc | apply Kd.V_drewN | apply Kd.V_drew)); exact Kd.V_mono HO306.out (fun _ hk => ⟨⟨hk.1.1, hk.1.2.2⟩, hk.2⟩)) hg hat); have n4_ := zA2.mk (hb); have n5_ := zA2.mk (ho); clear HO_7; clear BK258; clear HO295; clear HO306; clear HB; clear HO301; have HO_7 := n0_; have BK258 := n1_; have HO295 := n2_; have HO306 := n3_; have HB := n4_; have HO309 := n5_; clear n0_ n1_ n2_ n3_ n4_ n5_; clear ho hb hg hat))
             go_roundg k4
             case measure => have := HK1.out; have := HK2.out; have := HJ12.out; have := HK4.out; omega
             case rel => exact ⟨(y307), (wrap64 (x8_1 + 1)), (by first | rfl | (simp; done) | (simp [*]; done)), H', ⟨by have := HK1.out; have := HK2.out; have := HJ12.out; have := HK4.out; omega⟩, ⟨by (with_reducible repeat (first | apply Kd.N_alloc | apply Kd.N_drewN | apply Kd.N_drew)); exact HO309.out⟩, ⟨by (with_reducible repeat (first | refine zA6 ?_ _ | refine zA8 ?_ | refine zA5 ?_ _)); exact BK258.out⟩, ⟨by repeat (first | (with_reducible first | exact HB.out | apply zA1 | apply zA0 | apply zA3 | refine zA4 ?_ GE258.out) | exact HB.out)⟩⟩
   ·rw [if_neg c6] at H
    have c6b0 : decide (x8_1 < (ji5)) = false := decide_eq_false c6
    clear c6
    obtain rfl := Option.some.inj H
    go_wp2
    go_ret
    exact ⟨_, by first | rfl | (simp [zAr, zAq] <;> rfl) | (simp only [← hji5]; first | rfl | (simp [zAr, zAq] <;> rfl)) | (simp [*, zAr, zAq] <;> rfl), by (with_reducible repeat (first | apply Kd.N_alloc | apply Kd.N_drewN | apply Kd.N_drew)); exact Kd.N_mono HO_7.out (fun _ hk => hk.1), by repeat (first | (with_reducible first | exact HB.out | apply zA1 | apply zA0 | apply zA3 | refine zA4 ?_ GE258.out) | exact HB.out)⟩
end
end Go.Proofs.YtbghfbhlbfcloaaGreatDoor.PL
namespace Go.Proofs.YtbghfbhlbfcloaaGreatDoor.PL
section
set_option linter.unusedVariables false
set_option linter.unusedSimpArgs false
open Go.RowKit Go.Proofs.YtbghfbhlbfcloaaGreatDoorW.PrintWords Go.Proofs.YtbghfbhlbfcloaaGreatDoorW.PrintLast Go.Proofs.YtbghfbhlbfcloaaGreatDoorW.PrintMore
theorem less_tab : ((List.range 64).all fun x => (List.range 64).all fun y => zBi.f 20 (EI x) (EI y) == some (decide (befL (EI x) (EI y) < 0))) = true := by kernel_rfl
theorem less_f (k : Nat) (hk : 20 ≤ k) (x y : Nat) (hx : x < 64) (hy : y < 64) : zBi.f k (EI x) (EI y) = some (decide (befL (EI x) (EI y) < 0)) := by
 have h := List.all_eq_true.1 (List.all_eq_true.1 less_tab x (List.mem_range.2 hx)) y (List.mem_range.2 hy)
 exact up (fun k => zBi.mono (EI x) (EI y) k) (by simpa using h) k hk
def pk : List Int → Nat → Nat → List Int
 | [], _, _ => []
 | a :: t, b, i => if b.testBit i = true then a :: pk t b (i + 1) else pk t b (i + 1)
theorem bit_tab : ((List.range 64).all fun b => (List.range 6).all fun i => decide (Go.bits .and .i64 (shr .i64 (b : Int) (i : Int)) 1 = 1) == b.testBit i) = true := by kernel_rfl
theorem bit_f (b i : Nat) (hb : b < 64) (hi : i < 6) : (Go.bits .and .i64 (shr .i64 (b : Int) (i : Int)) 1 = 1) ↔ b.testBit i = true := by
 have h := List.all_eq_true.1 (List.all_eq_true.1 bit_tab b (List.mem_range.2 hb)) i (List.mem_range.2 hi)
 rw [beq_iff_eq] at h
 rw [← h, decide_eq_true_iff]
def RB (m : Nat) : List Nat := (SB m).reverse
theorem RB_tab : ((List.range 64).all fun m => ((List.range' 1 (2 ^ (EI m).length - 1)).map fun b => pk (EI m) b 0) == (RB m).map EI) = true := by kernel_rfl
theorem RB_f (m : Nat) (hm : m < 64) : ((List.range' 1 (2 ^ (EI m).length - 1)).map fun b => pk (EI m) b 0) = (RB m).map EI := by
 have h := List.all_eq_true.1 RB_tab m (List.mem_range.2 hm)
 exact eq_of_beq h
theorem RB_mem {m x : Nat} : x ∈ RB m ↔ x < 64 ∧ x ≠ 0 ∧ x &&& m = x := by unfold RB; rw [List.mem_reverse]; exact SB_mem
theorem shl_n : ((List.range 7).all fun n => shl .i64 1 (n : Int) == ((2 ^ n : Nat) : Int)) = true := by kernel_rfl
theorem shl_i (n : Nat) (hn : n < 7) : shl .i64 1 (n : Int) = ((2 ^ n : Nat) : Int) := by
 have h := List.all_eq_true.1 shl_n n (List.mem_range.2 hn)
 simpa using h
section
variable {A : List Nat} {E : List S58} {m : Nat} {most : Int} {R : Option (List (List Int))}
theorem rs_l2 (n : Int) (x : Nat) (hx : x < 64) (b : Nat) (hb : b < 64) (L : List Nat) (hL : ∀ y ∈ L, y < 64) (hl : L.length ≤ 70) (N : Nat) : ∀ (c i : Nat), i + c = L.length →
  (∀ k, N ≤ k → zAa.l0 k (EI m) most ((L.take i ++ insq leM x (L.drop i)).map EI) ((b + 1 : Nat) : Int) n E = R) →
  ∀ k, N + c + 30 ≤ k → zAa.l2 k (EI m) most (L.map EI) (b : Int) (EI x) (i : Int) n E = R
 | c, i, hi, H, k, hk => by
  obtain ⟨k, rfl⟩ : ∃ q, k = q + 1 := ⟨k - 1, by omega⟩
  have hlm : (L.map EI).length = L.length := List.length_map _
  have put : i ≤ L.length → insq leM x (L.drop i) = x :: L.drop i → zAa.l0 k (EI m) most (((L.map EI).take i ++ [EI x]) ++ (L.map EI).drop i) (wrap64 ((b : Int) + 1)) n E = R := by
   intro _ he
   have h := H k (by omega)
   rw [he, List.map_append, List.map_cons, List.map_take, List.map_drop] at h
   rw [wr1 b (by omega), List.append_assoc]
   exact h
  rw [zAa.l2]
  by_cases hlt : i < L.length
  ·have e1 : rd_L1 (L.map EI) (i : Int) = EI L[i] := by
    unfold rd_L1
    rw [Int.toNat_natCast, List.getD_eq_getElem?_getD, List.getElem?_map, List.getElem?_eq_getElem hlt]; rfl
   have hyl := hL L[i] (List.getElem_mem hlt)
   rw [if_pos (by omega), if_pos (by omega), e1, less_f k (by omega) _ _ hyl hx, Option.bind_some]
   have hd : L.drop i = L[i] :: L.drop (i + 1) := List.drop_eq_getElem_cons hlt
   by_cases hq : befL (EI L[i]) (EI x) < 0
   ·cases c with
    | zero => omega
    | succ c =>
     rw [if_pos (decide_eq_true hq), wr1 i (by omega)]
     refine rs_l2 n x hx b hb L hL hl N c (i + 1) (by omega) (fun k hk => ?_) k (by omega)
     have h := H k hk
     have hle : ¬ leM x L[i] = true := by
      unfold leM leC
      rw [decide_eq_true hq]
      decide
     rw [hd, insq, if_neg hle] at h
     rw [List.take_succ_eq_append_getElem hlt, List.append_assoc]
     exact h
   ·have hle : leM x L[i] = true := by
     unfold leM leC
     rw [decide_eq_false hq]
     rfl
    have hp := put (by omega) (by rw [hd, insq, if_pos hle])
    rw [if_neg (by simpa using hq), Option.bind_some, if_pos (by omega), Option.bind_some, Int.toNat_natCast, if_pos (by simp only [List.length_nil, List.length_take]; omega), Option.bind_some, if_pos (by simp only [List.nil_append, List.length_take]; omega), Option.bind_some, Option.bind_some, if_pos (by simp only [List.nil_append, List.length_append, List.length_take, List.length_drop, List.length_cons, List.length_nil]; omega)]
    exact hp
  ·have hd : L.drop i = [] := List.drop_eq_nil_of_le (by omega)
   have hp := put (by omega) (by rw [hd]; rfl)
   rw [if_neg (by omega), Option.bind_some, if_pos (by omega), if_pos (by omega), Option.bind_some, Int.toNat_natCast, if_pos (by simp only [List.length_nil, List.length_take]; omega), Option.bind_some, if_pos (by simp only [List.nil_append, List.length_take]; omega), Option.bind_some, Option.bind_some, if_pos (by simp only [List.nil_append, List.length_append, List.length_take, List.length_drop, List.length_cons, List.length_nil]; omega)]
   exact hp
def kp (A : List Nat) (most : Int) (x : Nat) : Bool := decide (((EI x).length : Int) ≤ most) && cB A x
theorem rs_l1 (hA : Gd A) (hE : Ed A E) (n : Int) (x : Nat) (hx : x < 64) (h0 : x ≠ 0) (b : Nat) (hb : b < 64) (L : List Nat) (hL : ∀ y ∈ L, y < 64) (hl : L.length ≤ 70) (N : Nat) (hN : 200 ≤ N)
  (H : ∀ k, N ≤ k → zAa.l0 k (EI m) most ((if kp A most x = true then insq leM x L else L).map EI) ((b + 1 : Nat) : Int) n E = R) : ∀ (c i : Nat) (pre : List Int), i + c = (EI m).length → pre.length ≤ i → pre ++ pk ((EI m).drop i) b i = EI x →
  ∀ k, N + c + 110 ≤ k → zAa.l1 k (EI m) most (L.map EI) (b : Int) pre (i : Int) n E = R
 | 0, i, pre, hi, hp, he, k, hk => by
  obtain ⟨k, rfl⟩ : ∃ q, k = q + 2 := ⟨k - 2, by omega⟩
  have hml := EI_len m
  rw [List.drop_eq_nil_of_le (by omega), pk, List.append_nil] at he
  subst he
  rw [zAa.l1, if_neg (by omega)]
  by_cases hm : ((EI x).length : Int) > most
  ·have hk' : kp A most x = false := by
    unfold kp
    rw [decide_eq_false (by omega)]
    rfl
   rw [if_pos hm, zAa.j2, if_pos rfl, wr1 b (by omega)]
   have h := H k (by omega)
   rw [hk'] at h
   exact h
  ·rw [if_neg hm, rcB_f hA hE n hx h0 (k + 1) (by omega), Option.bind_some, zAa.j2]
   have hk' : kp A most x = cB A x := by
    unfold kp
    rw [decide_eq_true (by omega)]
    rfl
   rw [hk'] at H
   cases hc : cB A x with
   | false =>
    rw [hc] at H
    rw [if_pos (show (!false) = true from rfl), wr1 b (by omega)]
    exact H k (by omega)
   | true =>
    rw [hc] at H
    rw [if_neg (by decide)]
    exact rs_l2 n x hx b hb L hL hl N L.length 0 (by omega) (fun k hk => H k hk) k (by omega)
 | c + 1, i, pre, hi, hp, he, k, hk => by
  obtain ⟨k, rfl⟩ : ∃ q, k = q + 1 := ⟨k - 1, by omega⟩
  have hml := EI_len m
  have hlt : i < (EI m).length := by omega
  rw [dropI (EI m) i hlt, pk] at he
  rw [zAa.l1, if_pos (by omega), if_pos (by omega), wr1 i (by omega)]
  by_cases hq : b.testBit i = true
  ·rw [if_pos ((bit_f b i hb (by omega)).2 hq), if_pos (by omega)]
   rw [if_pos hq] at he
   exact rs_l1 hA hE n x hx h0 b hb L hL hl N hN H c (i + 1) _ (by omega) (by simp; omega) (by rw [List.append_assoc]; exact he) k (by omega)
  ·rw [if_neg (fun h => hq ((bit_f b i hb (by omega)).1 h))]
   rw [if_neg hq] at he
   exact rs_l1 hA hE n x hx h0 b hb L hL hl N hN H c (i + 1) _ (by omega) (by omega) he k (by omega)
end
def fin (q : Nat → Bool) : List Nat → List Nat → List Nat
 | L, [] => L
 | L, x :: r => fin q (if q x = true then insq leM x L else L) r
theorem fin_isort (q : Nat → Bool) : ∀ (r l : List Nat), fin q (isort leM l) r = isort leM ((r.filter q).reverse ++ l)
 | [], _ => rfl
 | x :: r, l => by
  unfold fin
  by_cases h : q x = true
  ·rw [if_pos h, List.filter_cons_of_pos h, List.reverse_cons, List.append_assoc]
   exact fin_isort q r (x :: l)
  ·rw [if_neg h, List.filter_cons_of_neg h]
   exact fin_isort q r l
theorem insq_len (x : Nat) (L : List Nat) : (insq leM x L).length = L.length + 1 := (insq_perm leM x L).length_eq
theorem insq_lt {x : Nat} {L : List Nat} (hx : x < 64) (hL : ∀ y ∈ L, y < 64) : ∀ y ∈ insq leM x L, y < 64 := fun y hy => by
 rcases List.mem_cons.1 ((insq_perm leM x L).mem_iff.1 hy) with rfl | h
 ·exact hx
 ·exact hL y h
theorem rs_l0 {A : List Nat} {E : List S58} {m : Nat} {most : Int} (hA : Gd A) (hE : Ed A E) (hm : m < 64) (n : Int) : ∀ (r : List Nat) (b : Nat) (L : List Nat), 1 ≤ b → b + r.length = 2 ^ (EI m).length → (List.range' b r.length).map (fun b => pk (EI m) b 0) = r.map EI → (∀ y ∈ r, y < 64 ∧ y ≠ 0) → (∀ y ∈ L, y < 64) → L.length + r.length ≤ 64 →
  ∀ k, 300 + 200 * r.length ≤ k → zAa.l0 k (EI m) most (L.map EI) (b : Int) n E = some ((fin (kp A most) L r).map EI)
 | [], b, L, hb, hbl, _, _, _, _, k, hk => by
  obtain ⟨k, rfl⟩ : ∃ q, k = q + 1 := ⟨k - 1, by omega⟩
  have hml := EI_len m
  rw [zAa.l0, shl_i _ (by omega), ← hbl, if_neg (by simp), fin]
 | x :: r, b, L, hb, hbl, hpk, hr, hL, hl, k, hk => by
  obtain ⟨k, rfl⟩ : ∃ q, k = q + 1 := ⟨k - 1, by omega⟩
  have hml := EI_len m
  have h64 : 2 ^ (EI m).length ≤ 64 := Nat.pow_le_pow_right (n := 2) (by decide) hml
  rw [List.length_cons] at hbl hk hl
  rw [List.length_cons, List.range'_succ, List.map_cons, List.map_cons] at hpk
  injection hpk with hpk1 hpk2
  have hx := hr x (by simp)
  rw [zAa.l0, shl_i _ (by omega), ← hbl, if_pos (by omega)]
  rw [fin]
  refine rs_l1 hA hE n x hx.1 hx.2 b (by omega) L hL (by omega) (300 + 200 * r.length) (by omega) (fun k hk => ?_) (EI m).length 0 [] (by omega) (by simp) (by rw [List.drop_zero]; exact hpk1) k (by omega)
  have key : ∀ L', (∀ y ∈ L', y < 64) → L'.length ≤ L.length + 1 → zAa.l0 k (EI m) most (L'.map EI) ((b + 1 : Nat) : Int) n E = some ((fin (kp A most) L' r).map EI) := fun L' h1 h2 =>
   rs_l0 hA hE hm n r (b + 1) L' (by omega) (by omega) hpk2 (fun y hy => hr y (by simp [hy])) h1 (by omega) k hk
  by_cases hq : kp A most x = true
  ·rw [if_pos hq]
   exact key _ (insq_lt hx.1 hL) (Nat.le_of_eq (insq_len _ _))
  ·rw [if_neg hq]
   exact key _ hL (by omega)
theorem RB_len (m : Nat) (hm : m < 64) : (RB m).length = 2 ^ (EI m).length - 1 := by
 have h := congrArg List.length (RB_f m hm)
 simpa using h.symm
theorem subsets_f {A : List Nat} {E : List S58} {m : Nat} (most : Int) (hA : Gd A) (hE : Ed A E) (hm : m < 64) (n : Int) (k : Nat) (hk : 14000 ≤ k) : zAa.f k n E (EI m) most = some (((SO m).filter (kp A most)).map EI) := by
 have hl := RB_len m hm
 have hp : 0 < 2 ^ (EI m).length := Nat.pow_pos (by decide)
 have h64 : 2 ^ (EI m).length ≤ 64 := Nat.pow_le_pow_right (n := 2) (by decide) (EI_len m)
 have h := rs_l0 (most := most) hA hE hm n (RB m) 1 [] (Nat.le_refl _) (by omega) (by rw [hl]; exact RB_f m hm) (fun y hy => ⟨(RB_mem.1 hy).1, (RB_mem.1 hy).2.1⟩) (by simp) (by simp; omega) k (by omega)
 unfold zAa.f
 have h' : zAa.l0 k (EI m) most [] 1 n E = some ((fin (kp A most) [] (RB m)).map EI) := h
 rw [h']
 congr 2
 have e := fin_isort (kp A most) (RB m) []
 rw [List.append_nil] at e
 show fin (kp A most) (isort leM []) (RB m) = _
 rw [e, ← SO_filter]
 congr 1
 unfold RB
 rw [List.filter_reverse, List.reverse_reverse]
end
end Go.Proofs.YtbghfbhlbfcloaaGreatDoor.PL
namespace Go.Proofs.YtbghfbhlbfcloaaGreatDoor.PL
section
open Go.RowKit Go.Sort Go.Proofs Go.Proofs.YtbghfbhlbfcloaaGreatDoorW.PrintWords Go.Proofs.YtbghfbhlbfcloaaGreatDoorW.PrintLast Go.Proofs.YtbghfbhlbfcloaaGreatDoorW.PrintMore
set_option linter.unusedVariables false
set_option linter.unusedSimpArgs false
def SortsO (P : Program) (F : Nat) : Prop :=
 ∀ (m : Nat) (enc : Fin (m + 1) → Value) (_ : ∀ x, (enc x).oneCell' = true) (cf : Fin (m + 1) → Fin (m + 1) → Int) (_ : SWO (ltOf cf)) (g : Nat) (cb : Array Value) (blk off cap : Nat) (d : Array (Fin (m + 1))) (w : World)
  (_ : ∀ args w, (callFunc g args).run P w = .ok (.enter g args) w) (_ : CmpLays1 P g cb enc cf blk off d.size w) (_ : Holds enc w blk off d) (_ : blk < w.heap.size) (_ : d.size < 4611686018427387904) (_ : ∀ x y, (ltOf cf) x y = false → (ltOf cf) y x = false → x = y),
  Calls P F #[.slice (some ⟨blk, off, none⟩) d.size cap, .func (.func g) #[] cb] w fun e w' =>
   e = .returned (.tuple #[]) ∧ ∃ n os, w' = sortWorld enc w blk off n (d.toList.mergeSort fun x y => !(ltOf cf) y x).toArray os
theorem sortsSet : SortsO Tryz.prog 31 := fun _ enc h1 cf hO g cb blk off cap d w eg hcmp hH hblk hsz hT =>
 Any.slices_SortFunc_total Tryz.sortSet enc h1 cf hO g cb blk off cap d w eg hcmp hH hblk hsz hT
theorem sortNoneSet (p : Option Addr) (cap : Nat) (fv : Value) (w : World) : Calls Tryz.prog 31 #[.slice p 0 cap, fv] w fun e w' => e = .returned (.tuple #[]) ∧ w' = w := AnyF.slices_SortFunc_none Tryz.sortSet0 p cap fv w
theorem putRow_map {α : Type} [Inhabited α] (enc : α → Value) (W : World) (g : Nat) (d : Array α) : putRow enc W g 0 d = putRow id W g 0 (d.map enc) := by
 unfold putRow
 congr 1
 unfold putCells
 funext c
 congr 1
 funext k x
 by_cases h : 0 ≤ k ∧ k < 0 + d.size
 ·rw [if_pos h, if_pos (by simpa using h)]
  rw [getElem!_pos _ _ (by omega), getElem!_pos _ _ (by simpa using h)]
  simp
 ·rw [if_neg h, if_neg (by simpa using h)]
theorem sortR1 {α : Type} {d : Kd α} {e base : Nat} {ok : Nat → Prop} {W : World} {g cap : Nat} {xs : List α} {P : Program} {F gf : Nat} {cb : Array Value}
  (hS : SortsO P F) (hsz : d.sz = 1) (HO : d.R e W base ok (.slice (some ⟨g, 0, none⟩) xs.length cap) xs) (hlen : xs.length < 4611686018427387904) (hne : 0 < xs.length) (x0 : α) (cfv : α → α → Int) (hO : SWO (ltOf cfv))
  (hT : ∀ i j, i < xs.length → j < xs.length → ¬ cfv (xs.getD i x0) (xs.getD j x0) < 0 → ¬ cfv (xs.getD j x0) (xs.getD i x0) < 0 → i = j)
  (eg : ∀ args w, (callFunc gf args).run P w = .ok (.enter gf args) w)
  (hcmp : ∀ x y cx cy W', x ∈ xs → y ∈ xs → d.K W' x [cx] → d.K W' y [cy] → Calls P gf (#[cx, cy] ++ cb) W' fun e w' => e = .returned (.int .i64 (cfv x y)) ∧ Gr W' w') :
  Calls P F #[.slice (some ⟨g, 0, none⟩) xs.length cap, .func (.func gf) #[] cb] W fun e' w' =>
   e' = .returned (.tuple #[]) ∧ d.R e w' base ok (.slice (some ⟨g, 0, none⟩) xs.length cap) (xs.mergeSort fun x y => !(decide (cfv y x < 0))) ∧ W.grownBy w' (some g) := by
 obtain ⟨h0, inner, ho, hr⟩ := HO
 obtain ⟨hil, ho⟩ := ho
 rcases ho with ⟨hx, _⟩ | ⟨g', cap', cur, hv, hbase, hb, hn, hcap, hcs, htk⟩
 ·cases hx
 cases hv
 rw [hsz, Nat.mul_one] at hil htk hcs
 obtain ⟨m, hm⟩ : ∃ m, xs.length = m + 1 := ⟨xs.length - 1, by omega⟩
 have hgl : g < W.heap.size := (Array.getElem?_eq_some_iff.1 hb).1
 let enc : Fin (m + 1) → Value := fun j => inner.getD j.val (.int .i64 0)
 let cf : Fin (m + 1) → Fin (m + 1) → Int := fun i j => cfv (xs.getD i.val x0) (xs.getD j.val x0)
 have henc : ∀ (x : Fin (m + 1)) (h : x.val < inner.length), enc x = inner[x.val] := fun x h => by
  show inner.getD x.val _ = _
  rw [List.getD_eq_getElem?_getD, List.getElem?_eq_getElem h]
  rfl
 have hM : ∀ x : Fin (m + 1), d.M W base (fun k => ok k ∧ some k ≠ (Value.slice (some ⟨g, 0, none⟩) xs.length cap).ownBlock) (xs.getD x.val x0) [enc x] := fun x => by
  have hx : x.val < xs.length := by have := x.isLt; omega
  have h1 := hr.2 x.val (xs[x.val]) (List.getElem?_eq_getElem hx)
  rw [hsz, Nat.mul_one, List.drop_eq_getElem_cons (show x.val < inner.length by omega), List.take_succ_cons, List.take_zero] at h1
  rw [List.getD_eq_getElem?_getD, List.getElem?_eq_getElem hx, henc x (by omega)]
  exact h1
 have h1 : ∀ x, (enc x).oneCell' = true := fun x => d.K_one (d.K_of_M (hM x)) _ (by simp)
 have hOc : SWO (ltOf cf) := ⟨fun x => hO.irrefl _, fun x y z => hO.trans _ _ _, fun x y z => hO.ntrans _ _ _⟩
 have hTc : ∀ x y, (ltOf cf) x y = false → (ltOf cf) y x = false → x = y := fun x y hx hy => by
  apply Fin.ext
  refine hT x.val y.val (by have := x.isLt; omega) (by have := y.isLt; omega) ?_ ?_
  ·exact of_decide_eq_false hx
  ·exact of_decide_eq_false hy
 let d0 : Array (Fin (m + 1)) := (List.finRange (m + 1)).toArray
 have hd0 : d0.size = xs.length := by simp [d0, hm]
 have hH : Holds enc W g 0 d0 := by
  intro j hj
  have hj' : j < m + 1 := by rw [hd0] at hj; omega
  have hF : Holds id W g 0 inner.toArray := holds_raw inner.toArray hb (by rw [List.size_toArray, hil]; exact htk)
  obtain ⟨h2, h3⟩ := hF j (by rw [List.size_toArray]; omega)
  refine ⟨?_, h3⟩
  rw [h2]
  congr 1
  have e1 : d0[j]! = ⟨j, hj'⟩ := by
   rw [getElem!_pos d0 j hj]
   simp [d0]
  rw [e1, henc ⟨j, hj'⟩ (by show j < _; omega), getElem!_pos inner.toArray j (by rw [List.size_toArray]; omega)]
  simp
 have hblk : ∀ (w1 : World), (∀ k, k < W.heap.size → k ≠ g → w1.heap[k]? = W.heap[k]?) → ∀ x : Fin (m + 1), d.M w1 base (fun k => ok k ∧ some k ≠ (Value.slice (some ⟨g, 0, none⟩) xs.length cap).ownBlock) (xs.getD x.val x0) [enc x] := fun w1 hw1 x =>
  Kd.M_step (hM x) (fun k hk1 hk2 => hw1 k hk2 (fun e1 => hk1.2 (by rw [e1]; rfl)))
 have hwm : ∀ n (os : Array Obj) (dk : Array (Fin (m + 1))), sortWorld enc W g 0 n dk os = grow (putRow id (Go.Sort.ahead W n) g 0 (dk.map enc)) os := fun n os dk => by
  unfold sortWorld
  rw [putRow_map]
 have hsw : ∀ n (os : Array Obj) (dk : Array (Fin (m + 1))), ∀ k, k < W.heap.size → k ≠ g → (sortWorld enc W g 0 n dk os).heap[k]? = W.heap[k]? := fun n os dk k hk1 hk2 => by
  rw [hwm]
  exact (grownBy_raw (n := n) (os := os) (dk.map enc)).block k hk1 (fun e1 => hk2 (Option.some.inj e1))
 have hC : CmpLays1 P gf cb enc cf g 0 d0.size W := fun n os dk _ x y => by
  have hx : x.val < xs.length := by have := x.isLt; omega
  have hy : y.val < xs.length := by have := y.isLt; omega
  refine (hcmp (xs.getD x.val x0) (xs.getD y.val x0) (enc x) (enc y) _ ?_ ?_ (d.K_of_M (hblk _ (hsw n os dk) x)) (d.K_of_M (hblk _ (hsw n os dk) y))).mono fun e w' h => ⟨h.1, h.2.out⟩
  ·rw [List.getD_eq_getElem?_getD, List.getElem?_eq_getElem hx]; exact List.getElem_mem hx
  ·rw [List.getD_eq_getElem?_getD, List.getElem?_eq_getElem hy]; exact List.getElem_mem hy
 have main := hS m enc h1 cf hOc gf cb g 0 cap d0 W eg hC hH hgl (by rw [hd0]; exact hlen) hTc
 rw [hd0] at main
 refine main.mono fun e' w' h => ?_
 obtain ⟨he, n, os, rfl⟩ := h
 rw [hwm]
 refine ⟨he, ?_, grownBy_raw _⟩
 have hsorted : ((d0.toList.mergeSort fun x y => !(ltOf cf) y x).map fun j => xs.getD j.val x0) = xs.mergeSort fun x y => !(decide (cfv y x < 0)) := by
  rw [List.map_mergeSort (s := fun x y => !(decide (cfv y x < 0)))]
  ·congr 1
   apply List.ext_getElem (by simp [d0, hm])
   intro i h1 h2
   simp [d0]
   rw [List.getElem?_eq_getElem h2]
   rfl
  ·intro a _ b _
   rfl
 generalize hD : (d0.toList.mergeSort fun x y => !(ltOf cf) y x) = D at hsorted
 have hDl : D.length = xs.length := by rw [← hD]; simp [d0, hm]
 have hDs : (D.toArray.map enc).size = xs.length := by simp [hDl]
 have hlen' : (xs.mergeSort fun x y => !(decide (cfv y x < 0))).length = xs.length := List.length_mergeSort _
 refine ⟨h0, (D.toArray.map enc).toList, ⟨by rw [hlen', hsz]; simp [hDl], .inr ⟨g, cap, _, by rw [hlen'], hbase, heap_raw _ hb, by rw [hlen']; exact hn, hcap, by rw [hsz, Nat.mul_one]; simpa [putCells] using hcs, ?_⟩⟩, ?_⟩
 ·have h3 := take_raw cur (D.toArray.map enc) (by omega)
  rw [hDs] at h3
  rw [hlen', hsz, Nat.mul_one]
  exact h3
 ·refine ⟨by rw [hlen', hsz]; simp [hDl], fun i p hp => ?_⟩
  rw [← hsorted, List.getElem?_map] at hp
  obtain ⟨q, hq, rfl⟩ := Option.map_eq_some_iff.1 hp
  have hiD : i < D.length := (List.getElem?_eq_some_iff.1 hq).1
  have hqe : D[i] = q := (List.getElem?_eq_some_iff.1 hq).2
  rw [hsz, Nat.mul_one]
  have e9 : ((D.toArray.map enc).toList.drop i).take 1 = [enc q] := by
   rw [Array.toList_map, List.drop_eq_getElem_cons (by simpa using hiD), List.take_succ_cons, List.take_zero, List.getElem_map, hqe]
  rw [e9]
  exact hblk _ (fun k hk1 hk2 => (grownBy_raw (n := n) (os := os) (D.toArray.map enc)).block k hk1 (fun e1 => hk2 (Option.some.inj e1))) q
theorem sortS1 {α : Type} {d : Kd α} {e base : Nat} {ok : Nat → Prop} {W : World} {g cap : Nat} {xs : List α} {P : Program} {F gf : Nat} {cb : Array Value}
  (hS : SortsO P F) (hsz : d.sz = 1) (HO : Kd.S d e W base ok (.slice (some ⟨g, 0, none⟩) xs.length cap) xs) (hlen : xs.length < 4611686018427387904) (hne : 0 < xs.length) (x0 : α) (cfv : α → α → Int) (hO : SWO (ltOf cfv))
  (hT : ∀ i j, i < xs.length → j < xs.length → ¬ cfv (xs.getD i x0) (xs.getD j x0) < 0 → ¬ cfv (xs.getD j x0) (xs.getD i x0) < 0 → i = j)
  (eg : ∀ args w, (callFunc gf args).run P w = .ok (.enter gf args) w)
  (hcmp : ∀ x y cx cy W', x ∈ xs → y ∈ xs → d.K W' x [cx] → d.K W' y [cy] → Calls P gf (#[cx, cy] ++ cb) W' fun e w' => e = .returned (.int .i64 (cfv x y)) ∧ Gr W' w') :
  Calls P F #[.slice (some ⟨g, 0, none⟩) xs.length cap, .func (.func gf) #[] cb] W fun e' w' =>
   e' = .returned (.tuple #[]) ∧ Kd.S d e w' base ok (.slice (some ⟨g, 0, none⟩) xs.length cap) (xs.mergeSort fun x y => !(decide (cfv y x < 0))) ∧ W.grownBy w' (some g) := by
 obtain ⟨f, HO⟩ := HO
 have hl : xs.zipIdx.length = xs.length := List.length_zipIdx
 rw [← hl] at HO
 have hgd : ∀ i, i < xs.length → (xs.zipIdx.getD i (x0, 0)) = (xs.getD i x0, i) := fun i hi => by
  rw [List.getD_eq_getElem?_getD, List.getD_eq_getElem?_getD, List.getElem?_zipIdx, List.getElem?_eq_getElem hi]
  simp
 have main := sortR1 (d := Kd.tag f d) (e := e) (base := base) (ok := ok) (W := W) (g := g) (cap := cap) (xs := xs.zipIdx) (P := P) (F := F) (gf := gf) (cb := cb) hS hsz HO (by rw [hl]; exact hlen) (by rw [hl]; exact hne) (x0, 0) (fun p q => cfv p.1 q.1)
  ⟨fun x => hO.irrefl _, fun x y z => hO.trans _ _ _, fun x y z => hO.ntrans _ _ _⟩
  (fun i j hi hj h1 h2 => by rw [hl] at hi hj; rw [hgd i hi, hgd j hj] at h1 h2; exact hT i j hi hj h1 h2) eg
  (fun x y cx cy W' hx hy kx ky => hcmp x.1 y.1 cx cy W' (List.fst_mem_of_mem_zipIdx hx) (List.fst_mem_of_mem_zipIdx hy) kx ky)
 rw [hl] at main
 refine main.mono fun e' w' h => ⟨h.1, ?_, h.2.2⟩
 obtain ⟨h0, inner, ho, hr⟩ := h.2.1
 have hs := zipIdx_sort xs (fun x y => !(decide (cfv y x < 0)))
 generalize hL : (xs.zipIdx.mergeSort fun p q => !(decide (cfv q.1 p.1 < 0))) = L at ho hr hs
 have hnd : ∀ i j, (hi : i < L.length) → (hj : j < L.length) → (L[i]).2 = (L[j]).2 → i = j := by
  intro i j hi hj hij
  have hp : (L.map fun p => p.2).Perm (xs.zipIdx.map fun p => p.2) := by rw [← hL]; exact (List.mergeSort_perm _ _).map _
  have hn : (L.map fun p => p.2).Nodup := hp.nodup_iff.2 (by rw [List.zipIdx_map_snd]; exact List.nodup_range')
  have h1 := (List.getElem_inj (h₀ := by simpa using hi) (h₁ := by simpa using hj) hn).1 (by simpa using hij)
  exact h1
 have hlL : L.length = (xs.mergeSort fun x y => !(decide (cfv y x < 0))).length := by rw [← hs, List.length_map]
 obtain ⟨f', hf'⟩ := Kd.reps_tag (d := d) (w := w') (base := base) (ok := fun k => ok k ∧ some k ≠ (Value.slice (some ⟨g, 0, none⟩) xs.length cap).ownBlock) (xs := xs.mergeSort fun x y => !(decide (cfv y x < 0))) (inner := inner)
  (fun j k => ((ok k ∧ some k ≠ (Value.slice (some ⟨g, 0, none⟩) xs.length cap).ownBlock) ∧ ∃ hj : j < L.length, f k = (L[j]).2))
  (fun i j k hi hj => by obtain ⟨_, hi, h1⟩ := hi; obtain ⟨_, hj, h2⟩ := hj; exact hnd i j hi hj (h1.symm.trans h2)) (fun j k hk => hk.1)
  (by rw [hr.1, hlL]; rfl)
  (fun j x hx => by
   rw [← hs, List.getElem?_map] at hx
   obtain ⟨q, hq, rfl⟩ := Option.map_eq_some_iff.1 hx
   obtain ⟨hjl, hjq⟩ := List.getElem?_eq_some_iff.1 hq
   refine d.M_mono (fun k hk => ⟨hk.1, hjl, ?_⟩) (hr.2 j q hq)
   rw [hjq]; exact hk.2)
 refine ⟨f', h0, inner, ?_, hf'⟩
 rw [List.length_zipIdx, ← hlL]
 exact ho
end
end Go.Proofs.YtbghfbhlbfcloaaGreatDoor.PL
namespace Go.Proofs.YtbghfbhlbfcloaaGreatDoor.PL
section
open Go.RowKit Go.Proofs.YtbghfbhlbfcloaaGreatDoorW.PrintWords Go.Proofs.YtbghfbhlbfcloaaGreatDoorW.PrintLast Go.Proofs.YtbghfbhlbfcloaaGreatDoorW.PrintMore
attribute [local go_sem] zBu zBs zC3 zC2 zBn zBm zBt zBr   -- for this text's walks alone
set_option linter.unusedVariables false
set_option linter.unusedSimpArgs false
attribute [local go_sem high] eqA58
def bits_OnesCount64.f (a0 : Int) : Option (Int) := some (Go.bits .and .i64 (wrap64 (IntKind.u64.wrap ((IntKind.u64.wrap ((IntKind.u64.wrap ((Go.bits .and .u64 (IntKind.u64.wrap (((IntKind.u64.wrap ((Go.bits .and .u64 ((IntKind.u64.wrap ((Go.bits .and .u64 (a0 / 2) 6148914691236517205) + (Go.bits .and .u64 a0 6148914691236517205))) / 4) 3689348814741910323) + (Go.bits .and .u64 (IntKind.u64.wrap ((Go.bits .and .u64 (a0 / 2) 6148914691236517205) + (Go.bits .and .u64 a0 6148914691236517205))) 3689348814741910323))) / 16) + (IntKind.u64.wrap ((Go.bits .and .u64 ((IntKind.u64.wrap ((Go.bits .and .u64 (a0 / 2) 6148914691236517205) + (Go.bits .and .u64 a0 6148914691236517205))) / 4) 3689348814741910323) + (Go.bits .and .u64 (IntKind.u64.wrap ((Go.bits .and .u64 (a0 / 2) 6148914691236517205) + (Go.bits .and .u64 a0 6148914691236517205))) 3689348814741910323))))) 1085102592571150095) + ((Go.bits .and .u64 (IntKind.u64.wrap (((IntKind.u64.wrap ((Go.bits .and .u64 ((IntKind.u64.wrap ((Go.bits .and .u64 (a0 / 2) 6148914691236517205) + (Go.bits .and .u64 a0 6148914691236517205))) / 4) 3689348814741910323) + (Go.bits .and .u64 (IntKind.u64.wrap ((Go.bits .and .u64 (a0 / 2) 6148914691236517205) + (Go.bits .and .u64 a0 6148914691236517205))) 3689348814741910323))) / 16) + (IntKind.u64.wrap ((Go.bits .and .u64 ((IntKind.u64.wrap ((Go.bits .and .u64 (a0 / 2) 6148914691236517205) + (Go.bits .and .u64 a0 6148914691236517205))) / 4) 3689348814741910323) + (Go.bits .and .u64 (IntKind.u64.wrap ((Go.bits .and .u64 (a0 / 2) 6148914691236517205) + (Go.bits .and .u64 a0 6148914691236517205))) 3689348814741910323))))) 1085102592571150095) / 256))) + ((IntKind.u64.wrap ((Go.bits .and .u64 (IntKind.u64.wrap (((IntKind.u64.wrap ((Go.bits .and .u64 ((IntKind.u64.wrap ((Go.bits .and .u64 (a0 / 2) 6148914691236517205) + (Go.bits .and .u64 a0 6148914691236517205))) / 4) 3689348814741910323) + (Go.bits .and .u64 (IntKind.u64.wrap ((Go.bits .and .u64 (a0 / 2) 6148914691236517205) + (Go.bits .and .u64 a0 6148914691236517205))) 3689348814741910323))) / 16) + (IntKind.u64.wrap ((Go.bits .and .u64 ((IntKind.u64.wrap ((Go.bits .and .u64 (a0 / 2) 6148914691236517205) + (Go.bits .and .u64 a0 6148914691236517205))) / 4) 3689348814741910323) + (Go.bits .and .u64 (IntKind.u64.wrap ((Go.bits .and .u64 (a0 / 2) 6148914691236517205) + (Go.bits .and .u64 a0 6148914691236517205))) 3689348814741910323))))) 1085102592571150095) + ((Go.bits .and .u64 (IntKind.u64.wrap (((IntKind.u64.wrap ((Go.bits .and .u64 ((IntKind.u64.wrap ((Go.bits .and .u64 (a0 / 2) 6148914691236517205) + (Go.bits .and .u64 a0 6148914691236517205))) / 4) 3689348814741910323) + (Go.bits .and .u64 (IntKind.u64.wrap ((Go.bits .and .u64 (a0 / 2) 6148914691236517205) + (Go.bits .and .u64 a0 6148914691236517205))) 3689348814741910323))) / 16) + (IntKind.u64.wrap ((Go.bits .and .u64 ((IntKind.u64.wrap ((Go.bits .and .u64 (a0 / 2) 6148914691236517205) + (Go.bits .and .u64 a0 6148914691236517205))) / 4) 3689348814741910323) + (Go.bits .and .u64 (IntKind.u64.wrap ((Go.bits .and .u64 (a0 / 2) 6148914691236517205) + (Go.bits .and .u64 a0 6148914691236517205))) 3689348814741910323))))) 1085102592571150095) / 256))) / 65536))) + ((IntKind.u64.wrap ((IntKind.u64.wrap ((Go.bits .and .u64 (IntKind.u64.wrap (((IntKind.u64.wrap ((Go.bits .and .u64 ((IntKind.u64.wrap ((Go.bits .and .u64 (a0 / 2) 6148914691236517205) + (Go.bits .and .u64 a0 6148914691236517205))) / 4) 3689348814741910323) + (Go.bits .and .u64 (IntKind.u64.wrap ((Go.bits .and .u64 (a0 / 2) 6148914691236517205) + (Go.bits .and .u64 a0 6148914691236517205))) 3689348814741910323))) / 16) + (IntKind.u64.wrap ((Go.bits .and .u64 ((IntKind.u64.wrap ((Go.bits .and .u64 (a0 / 2) 6148914691236517205) + (Go.bits .and .u64 a0 6148914691236517205))) / 4) 3689348814741910323) + (Go.bits .and .u64 (IntKind.u64.wrap ((Go.bits .and .u64 (a0 / 2) 6148914691236517205) + (Go.bits .and .u64 a0 6148914691236517205))) 3689348814741910323))))) 1085102592571150095) + ((Go.bits .and .u64 (IntKind.u64.wrap (((IntKind.u64.wrap ((Go.bits .and .u64 ((IntKind.u64.wrap ((Go.bits .and .u64 (a0 / 2) 6148914691236517205) + (Go.bits .and .u64 a0 6148914691236517205))) / 4) 3689348814741910323) + (Go.bits .and .u64 (IntKind.u64.wrap ((Go.bits .and .u64 (a0 / 2) 6148914691236517205) + (Go.bits .and .u64 a0 6148914691236517205))) 3689348814741910323))) / 16) + (IntKind.u64.wrap ((Go.bits .and .u64 ((IntKind.u64.wrap ((Go.bits .and .u64 (a0 / 2) 6148914691236517205) + (Go.bits .and .u64 a0 6148914691236517205))) / 4) 3689348814741910323) + (Go.bits .and .u64 (IntKind.u64.wrap ((Go.bits .and .u64 (a0 / 2) 6148914691236517205) + (Go.bits .and .u64 a0 6148914691236517205))) 3689348814741910323))))) 1085102592571150095) / 256))) + ((IntKind.u64.wrap ((Go.bits .and .u64 (IntKind.u64.wrap (((IntKind.u64.wrap ((Go.bits .and .u64 ((IntKind.u64.wrap ((Go.bits .and .u64 (a0 / 2) 6148914691236517205) + (Go.bits .and .u64 a0 6148914691236517205))) / 4) 3689348814741910323) + (Go.bits .and .u64 (IntKind.u64.wrap ((Go.bits .and .u64 (a0 / 2) 6148914691236517205) + (Go.bits .and .u64 a0 6148914691236517205))) 3689348814741910323))) / 16) + (IntKind.u64.wrap ((Go.bits .and .u64 ((IntKind.u64.wrap ((Go.bits .and .u64 (a0 / 2) 6148914691236517205) + (Go.bits .and .u64 a0 6148914691236517205))) / 4) 3689348814741910323) + (Go.bits .and .u64 (IntKind.u64.wrap ((Go.bits .and .u64 (a0 / 2) 6148914691236517205) + (Go.bits .and .u64 a0 6148914691236517205))) 3689348814741910323))))) 1085102592571150095) + ((Go.bits .and .u64 (IntKind.u64.wrap (((IntKind.u64.wrap ((Go.bits .and .u64 ((IntKind.u64.wrap ((Go.bits .and .u64 (a0 / 2) 6148914691236517205) + (Go.bits .and .u64 a0 6148914691236517205))) / 4) 3689348814741910323) + (Go.bits .and .u64 (IntKind.u64.wrap ((Go.bits .and .u64 (a0 / 2) 6148914691236517205) + (Go.bits .and .u64 a0 6148914691236517205))) 3689348814741910323))) / 16) + (IntKind.u64.wrap ((Go.bits .and .u64 ((IntKind.u64.wrap ((Go.bits .and .u64 (a0 / 2) 6148914691236517205) + (Go.bits .and .u64 a0 6148914691236517205))) / 4) 3689348814741910323) + (Go.bits .and .u64 (IntKind.u64.wrap ((Go.bits .and .u64 (a0 / 2) 6148914691236517205) + (Go.bits .and .u64 a0 6148914691236517205))) 3689348814741910323))))) 1085102592571150095) / 256))) / 65536))) / 4294967296)))) 127)
set_option maxHeartbeats 8000000 in
set_option maxRecDepth 100000 in
theorem bits_OnesCount64.calls (a0 : Int) (r : Int) (w : World) (h : bits_OnesCount64.f a0 = some r) :
  Calls Tryz.prog 54 #[.int .u64 a0] w fun e w' => e = .returned (.int .i64 r) ∧ zB0 w w' := by
 have H : (some (Go.bits .and .i64 (wrap64 (IntKind.u64.wrap ((IntKind.u64.wrap ((IntKind.u64.wrap ((Go.bits .and .u64 (IntKind.u64.wrap (((IntKind.u64.wrap ((Go.bits .and .u64 ((IntKind.u64.wrap ((Go.bits .and .u64 (a0 / 2) 6148914691236517205) + (Go.bits .and .u64 a0 6148914691236517205))) / 4) 3689348814741910323) + (Go.bits .and .u64 (IntKind.u64.wrap ((Go.bits .and .u64 (a0 / 2) 6148914691236517205) + (Go.bits .and .u64 a0 6148914691236517205))) 3689348814741910323))) / 16) + (IntKind.u64.wrap ((Go.bits .and .u64 ((IntKind.u64.wrap ((Go.bits .and .u64 (a0 / 2) 6148914691236517205) + (Go.bits .and .u64 a0 6148914691236517205))) / 4) 3689348814741910323) + (Go.bits .and .u64 (IntKind.u64.wrap ((Go.bits .and .u64 (a0 / 2) 6148914691236517205) + (Go.bits .and .u64 a0 6148914691236517205))) 3689348814741910323))))) 1085102592571150095) + ((Go.bits .and .u64 (IntKind.u64.wrap (((IntKind.u64.wrap ((Go.bits .and .u64 ((IntKind.u64.wrap ((Go.bits .and .u64 (a0 / 2) 6148914691236517205) + (Go.bits .and .u64 a0 6148914691236517205))) / 4) 3689348814741910323) + (Go.bits .and .u64 (IntKind.u64.wrap ((Go.bits .and .u64 (a0 / 2) 6148914691236517205) + (Go.bits .and .u64 a0 6148914691236517205))) 3689348814741910323))) / 16) + (IntKind.u64.wrap ((Go.bits .and .u64 ((IntKind.u64.wrap ((Go.bits .and .u64 (a0 / 2) 6148914691236517205) + (Go.bits .and .u64 a0 6148914691236517205))) / 4) 3689348814741910323) + (Go.bits .and .u64 (IntKind.u64.wrap ((Go.bits .and .u64 (a0 / 2) 6148914691236517205) + (Go.bits .and .u64 a0 6148914691236517205))) 3689348814741910323))))) 1085102592571150095) / 256))) + ((IntKind.u64.wrap ((Go.bits .and .u64 (IntKind.u64.wrap (((IntKind.u64.wrap ((Go.bits .and .u64 ((IntKind.u64.wrap ((Go.bits .and .u64 (a0 / 2) 6148914691236517205) + (Go.bits .and .u64 a0 6148914691236517205))) / 4) 3689348814741910323) + (Go.bits .and .u64 (IntKind.u64.wrap ((Go.bits .and .u64 (a0 / 2) 6148914691236517205) + (Go.bits .and .u64 a0 6148914691236517205))) 3689348814741910323))) / 16) + (IntKind.u64.wrap ((Go.bits .and .u64 ((IntKind.u64.wrap ((Go.bits .and .u64 (a0 / 2) 6148914691236517205) + (Go.bits .and .u64 a0 6148914691236517205))) / 4) 3689348814741910323) + (Go.bits .and .u64 (IntKind.u64.wrap ((Go.bits .and .u64 (a0 / 2) 6148914691236517205) + (Go.bits .and .u64 a0 6148914691236517205))) 3689348814741910323))))) 1085102592571150095) + ((Go.bits .and .u64 (IntKind.u64.wrap (((IntKind.u64.wrap ((Go.bits .and .u64 ((IntKind.u64.wrap ((Go.bits .and .u64 (a0 / 2) 6148914691236517205) + (Go.bits .and .u64 a0 6148914691236517205))) / 4) 3689348814741910323) + (Go.bits .and .u64 (IntKind.u64.wrap ((Go.bits .and .u64 (a0 / 2) 6148914691236517205) + (Go.bits .and .u64 a0 6148914691236517205))) 3689348814741910323))) / 16) + (IntKind.u64.wrap ((Go.bits .and .u64 ((IntKind.u64.wrap ((Go.bits .and .u64 (a0 / 2) 6148914691236517205) + (Go.bits .and .u64 a0 6148914691236517205))) / 4) 3689348814741910323) + (Go.bits .and .u64 (IntKind.u64.wrap ((Go.bits .and .u64 (a0 / 2) 6148914691236517205) + (Go.bits .and .u64 a0 6148914691236517205))) 3689348814741910323))))) 1085102592571150095) / 256))) / 65536))) + ((IntKind.u64.wrap ((IntKind.u64.wrap ((Go.bits .and .u64 (IntKind.u64.wrap (((IntKind.u64.wrap ((Go.bits .and .u64 ((IntKind.u64.wrap ((Go.bits .and .u64 (a0 / 2) 6148914691236517205) + (Go.bits .and .u64 a0 6148914691236517205))) / 4) 3689348814741910323) + (Go.bits .and .u64 (IntKind.u64.wrap ((Go.bits .and .u64 (a0 / 2) 6148914691236517205) + (Go.bits .and .u64 a0 6148914691236517205))) 3689348814741910323))) / 16) + (IntKind.u64.wrap ((Go.bits .and .u64 ((IntKind.u64.wrap ((Go.bits .and .u64 (a0 / 2) 6148914691236517205) + (Go.bits .and .u64 a0 6148914691236517205))) / 4) 3689348814741910323) + (Go.bits .and .u64 (IntKind.u64.wrap ((Go.bits .and .u64 (a0 / 2) 6148914691236517205) + (Go.bits .and .u64 a0 6148914691236517205))) 3689348814741910323))))) 1085102592571150095) + ((Go.bits .and .u64 (IntKind.u64.wrap (((IntKind.u64.wrap ((Go.bits .and .u64 ((IntKind.u64.wrap ((Go.bits .and .u64 (a0 / 2) 6148914691236517205) + (Go.bits .and .u64 a0 6148914691236517205))) / 4) 3689348814741910323) + (Go.bits .and .u64 (IntKind.u64.wrap ((Go.bits .and .u64 (a0 / 2) 6148914691236517205) + (Go.bits .and .u64 a0 6148914691236517205))) 3689348814741910323))) / 16) + (IntKind.u64.wrap ((Go.bits .and .u64 ((IntKind.u64.wrap ((Go.bits .and .u64 (a0 / 2) 6148914691236517205) + (Go.bits .and .u64 a0 6148914691236517205))) / 4) 3689348814741910323) + (Go.bits .and .u64 (IntKind.u64.wrap ((Go.bits .and .u64 (a0 / 2) 6148914691236517205) + (Go.bits .and .u64 a0 6148914691236517205))) 3689348814741910323))))) 1085102592571150095) / 256))) + ((IntKind.u64.wrap ((Go.bits .and .u64 (IntKind.u64.wrap (((IntKind.u64.wrap ((Go.bits .and .u64 ((IntKind.u64.wrap ((Go.bits .and .u64 (a0 / 2) 6148914691236517205) + (Go.bits .and .u64 a0 6148914691236517205))) / 4) 3689348814741910323) + (Go.bits .and .u64 (IntKind.u64.wrap ((Go.bits .and .u64 (a0 / 2) 6148914691236517205) + (Go.bits .and .u64 a0 6148914691236517205))) 3689348814741910323))) / 16) + (IntKind.u64.wrap ((Go.bits .and .u64 ((IntKind.u64.wrap ((Go.bits .and .u64 (a0 / 2) 6148914691236517205) + (Go.bits .and .u64 a0 6148914691236517205))) / 4) 3689348814741910323) + (Go.bits .and .u64 (IntKind.u64.wrap ((Go.bits .and .u64 (a0 / 2) 6148914691236517205) + (Go.bits .and .u64 a0 6148914691236517205))) 3689348814741910323))))) 1085102592571150095) + ((Go.bits .and .u64 (IntKind.u64.wrap (((IntKind.u64.wrap ((Go.bits .and .u64 ((IntKind.u64.wrap ((Go.bits .and .u64 (a0 / 2) 6148914691236517205) + (Go.bits .and .u64 a0 6148914691236517205))) / 4) 3689348814741910323) + (Go.bits .and .u64 (IntKind.u64.wrap ((Go.bits .and .u64 (a0 / 2) 6148914691236517205) + (Go.bits .and .u64 a0 6148914691236517205))) 3689348814741910323))) / 16) + (IntKind.u64.wrap ((Go.bits .and .u64 ((IntKind.u64.wrap ((Go.bits .and .u64 (a0 / 2) 6148914691236517205) + (Go.bits .and .u64 a0 6148914691236517205))) / 4) 3689348814741910323) + (Go.bits .and .u64 (IntKind.u64.wrap ((Go.bits .and .u64 (a0 / 2) 6148914691236517205) + (Go.bits .and .u64 a0 6148914691236517205))) 3689348814741910323))))) 1085102592571150095) / 256))) / 65536))) / 4294967296)))) 127)) = some r := h
 clear h
 obtain rfl := Option.some.inj H
 go_enter Tryz.func54, Tryz.ntmps54
 go_wp2
 go_ret
 exact ⟨by first | rfl | (simp; done) | (simp [*]; done), by repeat (first | exact zB0.refl _ | apply zB0.step)⟩
end
end Go.Proofs.YtbghfbhlbfcloaaGreatDoor.PL
namespace Go.Proofs.YtbghfbhlbfcloaaGreatDoor.PL
section
open Go.RowKit Go.Proofs.YtbghfbhlbfcloaaGreatDoorW.PrintWords Go.Proofs.YtbghfbhlbfcloaaGreatDoorW.PrintLast Go.Proofs.YtbghfbhlbfcloaaGreatDoorW.PrintMore
attribute [local go_sem] zBu zBs zC3 zC2 zBn zBm zBt zBr   -- for this text's walks alone
set_option linter.unusedVariables false
set_option linter.unusedSimpArgs false
attribute [local go_sem high] eqA58
def bits_OnesCount.f (a0 : Int) : Option (Int) := (bits_OnesCount64.f a0).bind fun t226 => (some t226)
set_option maxHeartbeats 8000000 in
set_option maxRecDepth 100000 in
theorem bits_OnesCount.calls (a0 : Int) (r : Int) (w : World) (h : bits_OnesCount.f a0 = some r) :
  Calls Tryz.prog 29 #[.int .u64 a0] w fun e w' => e = .returned (.int .i64 r) ∧ zB0 w w' := by
 have H : ((bits_OnesCount64.f a0).bind fun t226 => (some t226)) = some r := h
 clear h
 replace H := Option.bind_eq_some_iff.mp H
 obtain ⟨t226, A20, H⟩ := H
 replace H : (some t226) = some r := H
 have A2 := zA2.mk A20
 clear A20
 obtain rfl := Option.some.inj H
 go_enter Tryz.func29, Tryz.ntmps29
 go_wp2_with (first | ((with_reducible refine zAp (f := 54) rfl ?_); refine zBq (some 7) rfl rfl Tryz.func54 (by kernel_rfl) rfl #[.int .u64 a0] rfl (by (try simp only [List.map_toArray, List.map_cons, List.map_nil]); first | done | rfl | (simp only [List.length_drop, List.length_take]; rfl)) ?_; (with_reducible refine (bits_OnesCount64.calls a0 t226 _ A2.out).mono ?_); rintro e w' ⟨rfl, ⟨nd, rfl⟩⟩; refine ⟨_, rfl, ?_⟩))
 go_ret
 exact ⟨by first | rfl | (simp; done) | (simp [*]; done), by repeat (first | exact zB0.refl _ | apply zB0.step)⟩
end
end Go.Proofs.YtbghfbhlbfcloaaGreatDoor.PL
namespace Go.Proofs.YtbghfbhlbfcloaaGreatDoor.PL
section
open Go.RowKit Go.Proofs.YtbghfbhlbfcloaaGreatDoorW.PrintWords Go.Proofs.YtbghfbhlbfcloaaGreatDoorW.PrintLast Go.Proofs.YtbghfbhlbfcloaaGreatDoorW.PrintMore
attribute [local go_sem] Oper.semAt_some
set_option linter.unusedVariables false
set_option linter.unusedSimpArgs false
theorem nodup_at {l : List S46} (h : (l.map fun x => x.f0).Nodup) {i j : Nat} (hi : i < l.length) (hj : j < l.length) (he : (l.getD i z46).f0 = (l.getD j z46).f0) : i = j := by
 rw [List.getD_eq_getElem?_getD, List.getD_eq_getElem?_getD, List.getElem?_eq_getElem hi, List.getElem?_eq_getElem hj] at he
 exact (List.getElem_inj (h₀ := by simpa using hi) (h₁ := by simpa using hj) h).1 (by simpa using he)
theorem sortC_eq (l : List S46) (hn : (l.map fun x => x.f0).Nodup) : (l.mergeSort fun x y => !(decide (befC y x < 0))) = sortC l := merge_cf befC (befL_swo (fun x : S46 => x.f0)) l (fun a b ha hb h1 h2 => by
 have e : a.f0 = b.f0 := befL_eq _ _ (by
  have := befL_neg a.f0 b.f0
  unfold befC at h1 h2
  omega)
 obtain ⟨i, hi, rfl⟩ := List.getElem_of_mem ha
 obtain ⟨j, hj, rfl⟩ := List.getElem_of_mem hb
 have h := (List.getElem_inj (h₀ := by simpa using hi) (h₁ := by simpa using hj) hn).1 (by simpa using e)
 subst h
 rfl)
theorem sortCallC (W : World) (base : Nat) (v : Value) (l : List S46) (hok : okC l = true) (HO : Kd.S k46 46 W base (fun _ => True) v l) :
  Calls Tryz.prog 37 #[v, .func (.func 38) #[] #[]] W fun e w' => e = .returned (.tuple #[]) ∧ Kd.S k46 46 w' base (fun _ => True) v (sortC l) ∧ W.grownBy w' v.ownBlock := by
 simp only [okC, Bool.and_eq_true, decide_eq_true_eq] at hok
 obtain ⟨⟨hl, hc⟩, hn⟩ := hok
 rcases Nat.eq_zero_or_pos l.length with h0 | h0
 ·obtain rfl := List.eq_nil_of_length_eq_zero h0
  obtain ⟨A, c, rfl⟩ := Kd.S_slice HO
  refine (sortNoneCut A c _ W).mono fun e w' h => ?_
  obtain ⟨he, rfl⟩ := h
  exact ⟨he, by simpa [sortC, isort] using HO, ⟨rfl, rfl, rfl, Nat.le_refl _, fun _ _ _ => rfl⟩⟩
 ·have HO' := Kd.S_R HO
  obtain ⟨_, inner, ⟨_, ho⟩, _⟩ := HO'
  rcases ho with ⟨_, hx⟩ | ⟨g, cap, cur, rfl, hg, _⟩
  ·omega
  ·refine (sortS sortsCut HO (by omega) h0 z46 befC (befL_swo (fun x : S46 => x.f0)) ?_ (enters_of Tryz.func38 (by kernel_rfl) rfl) ?_).mono fun e w' h => ⟨h.1, sortC_eq l hn ▸ h.2.1, h.2.2⟩
   ·intro i j hi hj h1 h2
    refine nodup_at hn hi hj (befL_eq _ _ ?_)
    have := befL_neg (l.getD i z46).f0 (l.getD j z46).f0
    unfold befC at h1 h2
    omega
   ·intro x y cx cy W' hx hy kx ky
    obtain ⟨A0, c0, A1, c1, rfl, g0, g1, g2, g3⟩ := k46_open kx
    obtain ⟨A2, c2, A3, c3, rfl, g4, g5, g6, g7⟩ := k46_open ky
    have h1 := List.all_eq_true.1 (List.all_eq_true.1 hc x hx) y hy
    exact (zCd.exact CU.k A0 c0 x.f0 A1 c1 x.f1 A2 c2 y.f0 A3 c3 y.f1 (befC x y) W' g1 g0 g3 g2 g5 g4 g7 g6 (by simpa using h1)).mono fun e w' h => ⟨h.1, h.2.2⟩
def opsB : Code → Nat → Option (Array Oper)
 | .region id ops _, k => if id == k then some ops else none
 | .seq a b, k => match opsB a k with
  | some o => some o
  | none => opsB b k
 | .cond _ a b, k => match opsB a k with
  | some o => some o
  | none => opsB b k
 | .block _ c, k => opsB c k
 | .rangeFunc _ _ _ c, k => opsB c k
 | _, _ => none
def opsG (f : Func) (k : Nat) : Array Oper := ((f.body.bind fun c => opsB c k)).getD #[]
def notDefer : Op → Bool
 | .defer _ => false
 | _ => true
theorem nd_of {ops : Array Oper} (h : (ops.all fun o => notDefer o.op) = true) : ∀ (i : Nat) (o : Oper), ops[i]? = some o → ∀ c, o.op ≠ .defer c := by
 intro i o ho c e
 have h1 := Array.all_eq_true'.1 h o (Array.mem_of_getElem? ho)
 rw [e] at h1
 cases h1
def CU.T11 : Bool × List (List Nat × List Nat) := (true, [([], []), ([], []), ([1], [1]), ([], []), ([3, 2], [3]), ([2, 4], [2, 4]), ([5], [5]), ([0, 6, 4], [0, 6]), ([7, 7, 0, 1, 2, 3, 4, 5, 6, 7], [7])])
def CU.B11 : List Nat := [0, 0, 2, 0, 14, 30, 62, 127, 255]
theorem CU.tab11 : rtab .any (opsG Tryz.f14 11) = CU.T11 := by kernel_rfl
theorem CU.bits11 : waitsOk CU.T11.2 CU.B11 = true := by kernel_rfl
theorem cell_alloc_l {W : World} {a : Addr} {v : Value} (o : Obj) (h : W.cell? a = some v) : (W.alloc o).cell? a = some v := cell_kept h (World.grownBy_alloc W o none) (fun r e => by cases e)
set_option maxHeartbeats 1000000 in
theorem subsets_make (AL : Option Addr) (n cL : Nat) (m : Int) (w : World) :
  Calls Tryz.prog 28 #[.slice AL n cL, .int .u64 m] w fun e w' => e = .returned (.func (.func 52) #[] #[.pointer (some ⟨w.heap.size + 1, 0, none⟩), .pointer (some ⟨w.heap.size, 0, none⟩)]) ∧ w' = (w.alloc (.cells #[.slice AL n cL] 64)).alloc (.cells #[.int .u64 m] 65) := by
 go_enter Tryz.func28, Tryz.ntmps28
 go_wp2
 go_ret
 exact ⟨rfl, rfl⟩
set_option maxRecDepth 100000 in
set_option maxHeartbeats 4000000 in
theorem CU.calls (a0_0 : Int) (A0_1 : Option Addr) (c0_1 : Nat) (l0_1 : List (S58)) (A1 : Option Addr) (c1 : Nat) (l1 : List Int) (r1 : List (S46)) (r2 : Int) (w : World) (hr0_1 : Kd.C k58 w A0_1 l0_1.length l0_1) (hc0_1 : l0_1.length ≤ c0_1) (hr1 : Kd.C (Kd.int .i64) w A1 l1.length l1) (hc1 : l1.length ≤ c1) (hG : Kd.C (Kd.int .u8) w (some tabA) tabL.length tabL) (h : CU.f a0_0 l0_1 l1 = some (r1, r2)) :
  Calls Tryz.prog 14 #[.agg #[.int .i64 a0_0, .slice A0_1 l0_1.length c0_1], .slice A1 l1.length c1] w fun e w' => ∃ v0_ : Value, e = .returned (.tuple #[v0_, .int .i64 r2]) ∧ Kd.S k46 46 w' w.heap.size (fun _ => True) v0_ r1 ∧ Below w.heap.size w w' := by
 have hu28 := Tryz.underlying28
 have hu41 := Tryz.underlying46
 unfold CU.f at h
 obtain ⟨⟨L, m, er⟩, hop, h1⟩ := Option.bind_eq_some_iff.1 h
 dsimp only at h1
 have HR0 := zA2.mk hr0_1
 have HC0 := zA2.mk hc0_1
 have HR1 := zA2.mk hr1
 have HC1 := zA2.mk hc1
 have HG := zA2.mk hG
 have HOP := zA2.mk hop
 have H := zA2.mk h1
 have HOPC : ∀ w', Below w.heap.size w w' → _ := fun w' hb => (callsIn_wide (n := 5)).2 (zB3.calls CU.k a0_0 A0_1 c0_1 l0_1 A1 c1 l1 L m er w' (Kd.zAk hr0_1 hb) hc0_1 (Kd.zAk hr1 hb) hc1 hop)
 have HO := zA2.mk HOPC
 clear HOPC hr0_1 hc0_1 hr1 hc1 hG hop h h1
 refine (callsIn_wide (n := 6)).1 ?_
 refine callsIn_of_wp_marks Tryz.func14 rfl trivial ?_ rfl
 simp only [Tryz.ntmps14, List.size_toArray, List.length_cons, List.length_nil, Nat.reduceAdd, Nat.reduceSub, Array.replicate_succ, Array.replicate_zero, List.push_toArray, List.append_toArray, List.nil_append, List.cons_append]
 by_cases he : er = 0
 case neg =>
  have heb : (er != 0) = true := by simpa using he
  gi_wp2_with (refine ⟨trivial, ?_⟩; gi_at_call 27; refine (HO.out _ (zA1 (Below.refl _ _) _)).mono ?_; rintro e w2 ⟨vL, rfl, hL, hb⟩; obtain ⟨AL, cL, rfl⟩ := Kd.zCa hL; have hb2 := (zA1 (Below.refl w.heap.size w) (.cells #[.int .i64 a0_0, .slice A0_1 l0_1.length c0_1] 28)).trans (hb.mono (by simp)); clear hb; have HB := zA2.mk hb2; clear hb2)
  have hh := H.out
  rw [if_neg he] at hh
  injection hh with hh
  injection hh with e1 e2
  subst e1 e2
  exact ⟨.tuple #[.slice none 0 0, .int .i64 er], by simp [results, Tryz.f14, go_sem], .slice none 0 0, rfl, Kd.S_nil _ _ _ _ _, zA1 (zA1 HB.out _) _⟩
 case pos =>
  subst he
  have hh := H.out
  rw [if_pos rfl] at hh
  obtain ⟨c, hc, hh⟩ := Option.bind_eq_some_iff.1 hh
  have H2 := zA2.mk hh
  have HC := zA2.mk hc
  clear H hc hh
  cases c with
  | false =>
   gi_wp2_with (first
    | (refine ⟨trivial, ?_⟩; gi_at_call 27; refine (HO.out _ (zA1 (Below.refl _ _) _)).mono ?_; rintro e w2 ⟨vL, rfl, hL, hb⟩; obtain ⟨AL, cL, rfl⟩ := Kd.zCa hL; have hb2 := (zA1 (Below.refl w.heap.size w) (.cells #[.int .i64 a0_0, .slice A0_1 l0_1.length c0_1] 28)).trans (hb.mono (by simp)); clear hb; have HB := zA2.mk hb2; clear hb2; have HLC := zA2.mk (Kd.zBp hL); clear hL)
    | (refine ⟨trivial, ?_⟩; gi_at_call 35; refine (callsIn_wide.2 (zAg.calls CU.k _ _ L m false _ (Kd.zAj (Kd.zAj HLC.out.2.2 _) _) HLC.out.2.1 (Kd.zAj (Kd.zAj (Kd.zAk HG.out HB.out) _) _) HC.out)).mono ?_; rintro e w3 ⟨rfl, hb3⟩; have HB3 := zA2.mk ((zA1 (zA1 HB.out _) _).trans (hb3.mono (by have := HB.out.size; simp; omega))); clear hb3))
   have hh := H2.out
   rw [if_neg (by simp)] at hh
   injection hh with hh
   injection hh with e1 e2
   subst e1 e2
   exact ⟨.tuple #[.slice none 0 0, .int .i64 17], by simp [results, Tryz.f14, go_sem], .slice none 0 0, rfl, Kd.S_nil _ _ _ _ _, HB3.out⟩
  | true =>
   gi_wp2_with (first
    | (refine ⟨trivial, ?_⟩; gi_at_call 27; refine (HO.out _ (zA1 (Below.refl _ _) _)).mono ?_; rintro e w2 ⟨vL, rfl, hL, hb⟩; obtain ⟨AL, cL, rfl⟩ := Kd.zCa hL; have hb2 := (zA1 (Below.refl w.heap.size w) (.cells #[.int .i64 a0_0, .slice A0_1 l0_1.length c0_1] 28)).trans (hb.mono (by simp)); clear hb; have HB := zA2.mk hb2; clear hb2; have HLC := zA2.mk (Kd.zBp hL); clear hL)
    | (refine ⟨trivial, ?_⟩; gi_at_call 35; refine (callsIn_wide.2 (zAg.calls CU.k _ _ L m true _ (Kd.zAj (Kd.zAj HLC.out.2.2 _) _) HLC.out.2.1 (Kd.zAj (Kd.zAj (Kd.zAk HG.out HB.out) _) _) HC.out)).mono ?_; rintro e w3 ⟨rfl, hb3⟩; have HB3 := zA2.mk ((zA1 (zA1 HB.out _) _).trans (hb3.mono (by have := HB.out.size; simp; omega))); have HB4 := zA2.mk hb3; have HLB := zA2.mk (zAl (zA5 (blk_new w2 (.cells #[.slice AL L.length cL] 64)) (.cells #[.int .u64 m] 65)) hb3); have HMB := zA2.mk (zAl (show ((w2.alloc (.cells #[.slice AL L.length cL] 64)).alloc (.cells #[.int .u64 m] 65)).heap[w2.heap.size + 1]? = _ from by have h_ := blk_new (w2.alloc (.cells #[.slice AL L.length cL] 64)) (.cells #[.int .u64 m] 65); rwa [World.size_alloc] at h_) hb3); have hl3 : w3.cell? ⟨w2.heap.size, 0, none⟩ = some (.slice AL L.length cL) := (zA7 HLB.out 0).trans rfl; have hm3 : w3.cell? ⟨w2.heap.size + 1, 0, none⟩ = some (.int .u64 m) := (zA7 HMB.out 0).trans rfl; have hl4 := cell_alloc_l (.cells #[.slice none 0 0] 40) hl3; have hm4 := cell_alloc_l (.cells #[.slice none 0 0] 40) hm3; clear hl3 hm3; clear hb3)
    | (refine ⟨trivial, ?_⟩; gi_at_call 28; refine (callsIn_wide.2 (subsets_make AL L.length cL m _)).mono ?_; rintro e w4 ⟨rfl, rfl⟩))
   have hh := H2.out
   simp only [if_true] at hh
   obtain ⟨ms, hms, hh⟩ := Option.bind_eq_some_iff.1 hh
   split at hh
   case isFalse => cases hh
   rename_i hsome
   obtain ⟨out, hout, hh⟩ := Option.bind_eq_some_iff.1 hh
   split at hh
   case isFalse => cases hh
   rename_i hok
   injection hh with hh
   injection hh with e1 e2
   subst e1 e2
   have hch := subs_chain m 1000 m ms hms
   have hlen := subs_len m 1000 m ms hms
   have hcn : ∀ s ∈ ms, zAg.f CU.k L s = some (cnB L s) := by
    intro s hs
    have h1 := List.all_eq_true.1 hsome s hs
    unfold cnB
    cases e : zAg.f CU.k L s with
    | none => rw [e] at h1; cases h1
    | some b => rfl
   have hat := fun x hx => allO_at hout x hx
   obtain ⟨W0, hW0⟩ : ∃ W0, ((w3.alloc (.cells #[.slice none 0 0] 40)).alloc (.cells #[.slice AL L.length cL] 64)).alloc (.cells #[.int .u64 m] 65) = W0 := ⟨_, rfl⟩
   have hs0 : W0.heap.size = w3.heap.size + 3 := by rw [← hW0]; simp
   have hO0 : W0.heap[w3.heap.size]? = some (.cells #[.slice none 0 0] 40 (0, 0)) := by rw [← hW0]; exact zA5 (zA5 (blk_new w3 _) _) _
   have hL0 : W0.heap[w3.heap.size + 1]? = some (.cells #[.slice AL L.length cL] 64 (0, 0)) := by
    rw [← hW0]; have h_ := blk_new (w3.alloc (.cells #[.slice none 0 0] 40)) (.cells #[.slice AL L.length cL] 64); rw [World.size_alloc] at h_; exact zA5 h_ _
   have hM0 : W0.heap[w3.heap.size + 1 + 1]? = some (.cells #[.int .u64 m] 65 (0, 0)) := by
    rw [← hW0]; have h_ := blk_new ((w3.alloc (.cells #[.slice none 0 0] 40)).alloc (.cells #[.slice AL L.length cL] 64)) (.cells #[.int .u64 m] 65); rwa [World.size_alloc, World.size_alloc] at h_
   have h30 : Below w3.heap.size w3 W0 := by rw [← hW0]; exact zA1 (zA1 (zA1 (Below.refl _ _) _) _) _
   have hBW : Below w.heap.size w W0 := HB3.out.trans (h30.mono HB3.out.size)
   have h23 : w2.heap.size + 2 ≤ w3.heap.size := by have := HB4.out.size; simpa using this
   have hLC0 : ∀ W', Kq w3.heap.size (w3.heap.size + 1 + 1) (w3.heap.size + 1) W0 W' → Kd.C (Kd.int .u64) W' AL L.length L := fun W' h => Kd.zAk (Kd.zAk (Kd.zAj (Kd.zAj HLC.out.2.2 _) _) HB4.out) (h30.trans h.b)
   have hG0 : ∀ W', Kq w3.heap.size (w3.heap.size + 1 + 1) (w3.heap.size + 1) W0 W' → Kd.C (Kd.int .u8) W' (some tabA) tabL.length tabL := fun W' h => Kd.zAk (Kd.zAk HG.out HB3.out) (h30.trans h.b)
   rw [hW0]
   have HAT := zA2.mk hat
   have HLC0 := zA2.mk hLC0
   have HG0 := zA2.mk hG0
   have HS0 := zA2.mk hs0
   have HLEN := zA2.mk hlen
   have HOUT := zA2.mk hout
   have HOK := zA2.mk hok
   have HBW := zA2.mk hBW
   have hlb := h30.block w2.heap.size (by omega)
   rw [HLB.out] at hlb
   have hmb := h30.block (w2.heap.size + 1) (by omega)
   rw [HMB.out] at hmb
   have HLB0 := zA2.mk hlb
   have HMB0 := zA2.mk hmb
   have H23 := zA2.mk h23
   have HO0 := zA2.mk hO0
   clear hat hLC0 hG0 hs0 hlen hout hok hBW hlb hmb h23
   refine wpIn_rangeFunc_ownG (N := (ms.filter (cnB L)).length) rfl (by omega) (gf := 52) (lb := #[.pointer (some ⟨w3.heap.size + 1 + 1, 0, none⟩), .pointer (some ⟨w3.heap.size + 1, 0, none⟩)]) rfl trivial (enters_of Tryz.func52 (by kernel_rfl) rfl)
    (subsets_stops CU.k AL cL L m ms (cnB L) (w3.heap.size + 1 + 1) (w3.heap.size + 1) w3.heap.size 5 W0 (by have := HS0.out; omega) ((zA7 hM0 0).trans rfl) ((zA7 hL0 0).trans rfl) HLC0.out HLC.out.2.1 HG0.out hch hcn)
    (fun h k => h.trans k) ?hKb (Below.refl _ _) (fun _ => rfl)
    (fun pre W => ∃ v ys, allO L m (pre.map fun x => x.1) = some ys ∧ W.heap[w3.heap.size]? = some (.cells #[v] 40 (0, 0)) ∧ Kd.S k46 46 W (w3.heap.size + 3) (fun _ => True) v ys ∧ Kq w3.heap.size (w3.heap.size + 1 + 1) (w3.heap.size + 1) W0 W)
    (fun _ _ _ => False) ?hI (fun _ _ _ _ _ h => h.elim) ⟨_, [], rfl, HO0.out, Kd.S_nil _ _ _ _ _, Kq.refl _ _ _ _⟩
    (fun x => { tmps := #[.agg #[.int .i64 a0_0, .slice A0_1 l0_1.length c0_1], .slice A1 l1.length c1, .pointer (some ⟨w.heap.size, 0, none⟩), undef, .slice none 0 0, .int .i64 0, .pointer (some ⟨w2.heap.size, 0, none⟩), .pointer (some ⟨w2.heap.size + 1, 0, none⟩), .int .i64 0, .pointer (some ⟨w3.heap.size, 0, none⟩), .int .u64 x.1, undef, .tuple #[.slice AL L.length cL, .int .u64 m, .int .i64 0], .agg #[.int .i64 a0_0, .slice A0_1 l0_1.length c0_1], .slice A1 l1.length c1, .tuple #[.slice AL L.length cL, .int .u64 m, .int .i64 0], .slice AL L.length cL, .int .u64 m, .int .i64 0, .int .i64 0, .bool false, undef, .slice AL L.length cL, .int .u64 m, .bool true, .bool false, .slice AL L.length cL, .int .u64 m, .func (.func 52) #[] #[.pointer (some ⟨w3.heap.size + 1 + 1, 0, none⟩), .pointer (some ⟨w3.heap.size + 1, 0, none⟩)], .int .u64 x.1, undef, undef, undef, undef, undef, undef, undef, undef, undef, undef, undef, undef, undef, undef, undef, undef, undef, undef, undef, undef, undef, undef, undef, undef, undef, undef, undef, undef, undef, undef], defers := [] }) ?assign ?body ?done ?stop
   case hKb =>
    intro W l o o' hl ho hc hw
    exact ⟨belowK_b (w := W0) (by have := HS0.out; omega) W l o o' hl ho hc hw, World.putObj_heap_other (by have := HS0.out; omega), World.putObj_heap_other (by have := HS0.out; omega)⟩
   case hI =>
    rintro s A B row ⟨v, ys, hall, hO, hS, hK⟩ hg hr
    have hOl := (Array.getElem?_eq_some_iff.1 hO).1
    have hle := hK.b.size
    have hs := HS0.out
    refine ⟨v, ys, hall, (hg.block _ hOl (fun e => by have := (hr _ e.symm).1; omega)).trans hO, Kd.S_mono (Kd.S_step (Kd.S_bound hS) (fun k hk hlt => hg.block k hlt (fun e => ?_))) (fun _ _ => trivial), hK.trans ⟨(Below.refl _ A).grown hg (by omega) (fun k e => by have := (hr _ e).1; omega), hg.block _ (by omega) (fun e => by have := (hr _ e.symm).1; omega), hg.block _ (by omega) (fun e => by have := (hr _ e.symm).1; omega)⟩⟩
    obtain ⟨_, o, ho, hc⟩ := hr k e.symm
    obtain ⟨_, _, _, q, _, cells, hcell⟩ := hk
    rw [hcell] at ho
    cases ho
    cases hc
   case stop => intro D c pre W _ _ h; exact h.elim
   case assign =>
    intro l x W K hK
    gi_wp2
    exact hK
   case body =>
    rintro l pre x W ⟨v, ys, hall, hO, hS, hK⟩ hlt
    obtain ⟨a, ha⟩ := HAT.out x.1 x.2
    have hsn : allO L m ((pre ++ [x]).map fun x => x.1) = some (ys ++ a) := by rw [List.map_append]; exact allO_snoc hall ha
    have hys : ys.length ≤ 1000 := by
     have h1 := allO_len hall
     have h2 := List.length_filter_le (cnB L) ms
     have h3 := HLEN.out
     rw [List.length_map] at h1
     omega
    have hmC : W.cell? ⟨w2.heap.size + 1, 0, none⟩ = some (.int .u64 m) := (zA7 ((hK.b.block _ (by have := H23.out; omega)).trans HMB0.out) 0).trans rfl
    have hlC : W.cell? ⟨w2.heap.size, 0, none⟩ = some (.slice AL L.length cL) := (zA7 ((hK.b.block _ (by have := H23.out; omega)).trans HLB0.out) 0).trans rfl
    have hOc : W.cell? ⟨w3.heap.size, 0, none⟩ = some v := (zA7 hO 0).trans rfl
    have hOf := zA9 hO 0
    have HLW := zA2.mk (HLC0.out W hK)
    have HGW := zA2.mk (HG0.out W hK)
    have HSN := zA2.mk hsn
    have HYS := zA2.mk hys
    have HOO := zA2.mk hO
    have HSS := zA2.mk hS
    have HKK := zA2.mk hK
    clear hall hsn hys hO hS hK
    unfold ctO at ha
    by_cases z1 : Go.bits .and .u64 x.1 (Go.bits .and .u64 m (IntKind.u64.wrap (-m))) = 0
    ·rw [if_pos z1] at ha
     injection ha with ha
     subst ha
     have zb : (Go.bits .and .u64 x.1 (Go.bits .and .u64 m (IntKind.u64.wrap (-m))) != 0) = false := by rw [z1]; rfl
     clear z1
     gi_wp2
     refine ⟨trivial, ?_⟩
     gi_wp2
     exact ⟨KeepsFrom.refl _ _, Kq.refl _ _ _ _, v, ys, by have := HSN.out; rwa [List.append_nil] at this, HOO.out, HSS.out, HKK.out⟩
    ·rw [if_neg z1] at ha
     have zb : (Go.bits .and .u64 x.1 (Go.bits .and .u64 m (IntKind.u64.wrap (-m))) != 0) = true := by simpa using z1
     clear z1
     by_cases z2 : Go.bits .andNot .u64 m x.1 = 0
     ·rw [if_pos z2] at ha
      injection ha with ha
      subst ha
      have zc : (Go.bits .andNot .u64 m x.1 != 0) = false := by rw [z2]; rfl
      clear z2
      gi_wp2
      refine ⟨trivial, ?_⟩
      gi_wp2
      exact ⟨KeepsFrom.refl _ _, Kq.refl _ _ _ _, v, ys, by have := HSN.out; rwa [List.append_nil] at this, HOO.out, HSS.out, HKK.out⟩
     ·rw [if_neg z2] at ha
      have zc : (Go.bits .andNot .u64 m x.1 != 0) = true := by simpa using z2
      clear z2
      obtain ⟨c, hc2, ha⟩ := Option.bind_eq_some_iff.1 ha
      have HC2 := zA2.mk hc2
      clear hc2
      cases c with
      | false =>
       simp only [Bool.false_eq_true, if_false] at ha
       injection ha with ha
       subst ha
       gi_wp2_with (refine ⟨trivial, ?_⟩; gi_at_call 35; refine (CallsIn.inRound l (callsIn_wide.2 (zAg.calls CU.k AL cL L _ false W HLW.out HLC.out.2.1 HGW.out HC2.out))).mono ?_; rintro e w5 ⟨rfl, hb5⟩)
       have hsz := HKK.out.b.size
       have hs := HS0.out
       exact ⟨KeepsFrom.of_grownBy (grown_of_below hb5) (fun _ e => by cases e), Kq.of hb5 (by omega) (by omega) (by omega), v, ys, by have := HSN.out; rwa [List.append_nil] at this, (hb5.block _ (by omega)).trans HOO.out, Kd.S_below HSS.out hb5, HKK.out.trans (Kq.of hb5 (by omega) (by omega) (by omega))⟩
      | true =>
       simp only [if_true] at ha
       obtain ⟨la, hla, ha⟩ := Option.bind_eq_some_iff.1 ha
       obtain ⟨lb, hlb, ha⟩ := Option.bind_eq_some_iff.1 ha
       injection ha with ha
       subst ha
       have HLA := zA2.mk hla
       have HLBB := zA2.mk hlb
       clear hla hlb
       gi_wp2_with (refine ⟨trivial, ?_⟩; gi_at_call 35; refine (CallsIn.inRound l (callsIn_wide.2 (zAg.calls CU.k AL cL L _ true W HLW.out HLC.out.2.1 HGW.out HC2.out))).mono ?_; rintro e w5 ⟨rfl, hb5⟩; have HB5 := zA2.mk hb5; clear hb5)
       have hsz := HKK.out.b.size
       have hs := HS0.out
       have hOl := zC8 HOO.out
       have hb6 : Below W.heap.size W w5.drew := below_drew HB5.out
       have HS6 := zA2.mk (Kd.S_below HSS.out hb6)
       have hO6 := (hb6.block _ hOl).trans HOO.out
       have HG6 := zA2.mk (Kd.zAk HGW.out hb6)
       have HB6 := zA2.mk hb6
       clear hb6
       refine start_in (n := 9) (S := fun w' => w'.cell? ⟨w3.heap.size, 0, none⟩ = some v) (ds := [8]) #[false, false, false, false, false, false, false, false, false] (by kernel_rfl) rfl rfl (by rintro ⟨_, _, h_⟩; exact h_) (nd_of (by kernel_rfl)) ((zA7 hO6 0).trans rfl) (fun hHeld => ?_)
       refine with_tabW CU.tab11 CU.bits11 (fun HT_ HW_ => ?_)
       have HO6 := zA2.mk hO6
       clear hO6 hmC hlC hOc hOf zb zc
       generalize w5.drew = w6 at HS6 HO6 HG6 HB6 hHeld ⊢
       refine pure_ (i := 1) (N := some 50) (v := ?_) (a' := ?_) #[false, true, false, false, false, false, false, false, false] rfl rfl (zBe HT_.out (by kernel_rfl)) (fun _ _ _ h => h) (Or.inl ⟨by rfl, ?_⟩) ?_ ?_
       rotate_left
       ·intro w'
        go_simp
        with_reducible rfl
       rotate_left
       ·simp only [Act.put, List.setIfInBounds_toArray, List.set_cons_zero, List.set_cons_succ, i64_w, i32_w]
        rfl
       refine pure_ (i := 3) (N := some 52) (v := ?_) (a' := ?_) #[false, true, false, true, false, false, false, false, false] rfl rfl (zBe HT_.out (by kernel_rfl)) (fun _ _ _ h => h) (Or.inl ⟨by rfl, ?_⟩) ?_ ?_
       rotate_left
       ·intro w'
        go_simp
        with_reducible rfl
       rotate_left
       ·simp only [Act.put, List.setIfInBounds_toArray, List.set_cons_zero, List.set_cons_succ, i64_w, i32_w]
        rfl
       refine take_ (i := 0) (N := some 49) (v := ?_) (a' := ?_) #[true, true, false, true, false, false, false, false, false] rfl rfl (zC0 HT_.out HW_.out (by kernel_rfl)) (fun _ _ _ h => h) (Or.inl ⟨by rfl, ?_⟩) hHeld ?_ ?_
       rotate_left
       ·intro w' s0
        go_simp
        with_reducible rfl
       rotate_left
       ·simp only [Act.put, List.setIfInBounds_toArray, List.set_cons_zero, List.set_cons_succ, i64_w, i32_w]
        rfl
       refine one_ (i := 2) (N := some 51) #[true, true, true, true, false, false, false, false, false] rfl rfl (one_of HT_.out (by kernel_rfl)) (by decide) (fun K hK => ?_)
       refine goes_ Tryz.func30 (by kernel_rfl) rfl #[.int .u64 x.1] (by rfl) rfl rfl (by (try simp only [List.map_toArray, List.map_cons, List.map_nil]); first | done | rfl) ?_
       refine (zAz.calls CU.k _ la _ HG6.out HLA.out).mono ?_
       rintro e w7 ⟨va, rfl, hva, hb7⟩
       obtain ⟨Ava, ca, rfl⟩ := Kd.zCa hva
       refine ⟨_, rfl, ?_⟩
       refine hK.out _ _ ((hb7.cell (World.block_lt_of_cell? _ _ hHeld)).trans hHeld) (fun hHeld => ?_)
       clear hK K
       refine one_ (i := 4) (N := some 53) #[true, true, true, true, true, false, false, false, false] rfl rfl (one_of HT_.out (by kernel_rfl)) (by decide) (fun K hK => ?_)
       refine goes_ Tryz.func30 (by kernel_rfl) rfl #[.int .u64 (Go.bits .andNot .u64 m x.1)] (by rfl) rfl rfl (by (try simp only [List.map_toArray, List.map_cons, List.map_nil]); first | done | rfl) ?_
       refine (zAz.calls CU.k _ lb _ (Kd.zAk HG6.out hb7) HLBB.out).mono ?_
       rintro e w8 ⟨vb, rfl, hvb, hb8⟩
       obtain ⟨Avb, cb, rfl⟩ := Kd.zCa hvb
       refine ⟨_, rfl, ?_⟩
       refine hK.out _ _ ((hb8.cell (World.block_lt_of_cell? _ _ hHeld)).trans hHeld) (fun hHeld => ?_)
       clear hK K
       refine pure_ (i := 5) (N := some 54) (v := ?_) (a' := ?_) #[true, true, true, true, true, true, false, false, false] rfl rfl (zBe HT_.out (by kernel_rfl)) (fun _ _ _ h => h) (Or.inl ⟨by rfl, ?_⟩) ?_ ?_
       rotate_left
       ·intro w'
        go_simp
        with_reducible rfl
       rotate_left
       ·simp only [Act.put, List.setIfInBounds_toArray, List.set_cons_zero, List.set_cons_succ, i64_w, i32_w]
        rfl
       have hlt6 := HB6.out.size
       have hVA := zA2.mk (Kd.R_mono (ok' := fun k => w6.heap.size ≤ k) (Kd.R_lower (Kd.R_bound (Kd.R_below hva hb8)) (base' := w3.heap.size + 3) (by omega)) (fun k hk => hk.2.1))
       have hVB := zA2.mk (Kd.R_mono (ok' := fun k => w6.heap.size ≤ k) (Kd.R_lower (Kd.R_bound hvb) (base' := w3.heap.size + 3) (by have := hb7.size; omega)) (fun k hk => Nat.le_trans hb7.size hk.2.1))
       have hb68 := hb7.trans (hb8.mono hb7.size)
       have HB68 := zA2.mk hb68
       have HS8 := zA2.mk (Kd.S_mono (ok' := fun k => True ∧ ¬ w6.heap.size ≤ k) (Kd.S_below (Kd.S_bound HS6.out) hb68) (fun k hk => ⟨trivial, by have := hk.2.2.1; omega⟩))
       have hVne : ∀ k, w6.heap.size ≤ k → some k ≠ v.ownBlock := fun k hk e => by have := Kd.S_lt HS6.out k e.symm; omega
       have HO8 := zA2.mk ((hb68.block _ (zC8 HO6.out)).trans HO6.out)
       have HSZ6 := zA2.mk hlt6
       have hle8 : w3.heap.size + 3 ≤ w8.heap.size := by have := hb68.size; omega
       clear hva hvb hb7 hb8 hb68 hsz hs hlt6
       refine one_ (i := 6) (N := some 55) #[true, true, true, true, true, true, true, false, false] rfl rfl (one_of HT_.out (by kernel_rfl)) (by decide) (fun K hK => ?_)
       refine event_step (v := ?_) (w1 := w8.alloc (.cells [.slice Ava la.length ca, .slice Avb lb.length cb].toArray 46)) (by rfl) ?_ ?_
       rotate_left
       ·go_simp
        rfl
       refine hK.out _ _ (cell_alloc_l _ hHeld) (fun hHeld => ?_)
       clear hK K
       refine one_ (i := 7) (N := some 56) #[true, true, true, true, true, true, true, true, false] rfl rfl (one_of HT_.out (by kernel_rfl)) (by decide) (fun K hK => ?_)
       refine Kd.S_append_step (w0 := w8) (W := w8) k46 (w3.heap.size + 3) (by rfl) (.tmp 49) (.tmp 55) 40 46 (.agg #[(.slice none 0 0), (.slice none 0 0)]) 48 rfl Tryz.underlying40 info46 rfl (by decide) (by omega) v ys ⟨la, lb⟩ [.slice Ava la.length ca, .slice Avb lb.length cb] (fun _ => True) (fun k => w6.heap.size ≤ k) rfl rfl (k46_mkM _ _ _ ⟨la, lb⟩ hVA.out hVB.out) (fun k hk => ⟨trivial, hVne k hk⟩) (fun _ _ => trivial) HS8.out (Below.refl _ _) hle8 (by have := HYS.out; omega) ?_
       intro v9 w9 hS9 hb9 hg9 _
       refine hK.out _ _ ?_ (fun hHeld => ?_)
       ·exact (zA7 ((hb9.block _ (by omega)).trans HO8.out) 0).trans rfl
       clear hK K
       refine last_ (i := 8) (N := none) #[true, true, true, true, true, true, true, true, true] rfl rfl (one_of HT_.out (by kernel_rfl)) (by decide) (fun K hK => ?_)
       obtain ⟨A9, c9, e9⟩ := Kd.S_slice hS9
       rw [show (ys ++ [(⟨la, lb⟩ : S46)]).length = ys.length + 1 by simp] at e9
       subst e9
       have hO9 := (hb9.block _ (show w3.heap.size < w3.heap.size + 3 by omega)).trans HO8.out
       have hf9 := zA9 hO9 0
       refine skip_ (w1 := ?_) (by rfl) rfl ?_ ?_
       rotate_left
       ·go_simp
        rfl
       refine hK.out _ _ ?_
       clear hK K
       refine done_ (done_of HT_.out (by kernel_rfl)) ?_
       have hW8 : Below W.heap.size W w8 := HB6.out.trans (HB68.out.mono HSZ6.out)
       have hK8 : Kq w3.heap.size (w3.heap.size + 1 + 1) (w3.heap.size + 1) W w8 := Kq.of hW8 (by have := HKK.out.b.size; have := HS0.out; omega) (by have := HKK.out.b.size; have := HS0.out; omega) (by have := HKK.out.b.size; have := HS0.out; omega)
       have hKW : Kq w3.heap.size (w3.heap.size + 1 + 1) (w3.heap.size + 1) W (w9.setCell ⟨w3.heap.size, 0, none⟩ (.slice A9 (ys.length + 1) c9)) :=
        (hK8.trans (Kq.of hb9 (by omega) (by omega) (by omega))).trans ⟨(Below.refl _ _).setCell (p := ⟨w3.heap.size, 0, none⟩) (by simp) _, Below.heap_setCell _ _ _ _ (by simp; omega), Below.heap_setCell _ _ _ _ (by simp)⟩
       refine ⟨?_, hKW, _, _, HSN.out, blk_set hO9 0 _, ?_, HKK.out.trans hKW⟩
       ·refine ((KeepsFrom.of_grownBy (grown_of_below hW8) (fun _ e => by cases e)).trans ⟨hg9.size, fun k o hB hk ho => (hg9.block k (zC8 hk) (fun e => ?_)).trans hk⟩).trans ((KeepsOthers.setCell _ _ _).from _)
        obtain ⟨cells, hc⟩ := Kd.S_typed HS8.out k e.symm
        rw [hc] at hk
        cases hk
        cases ho
       ·exact Kd.S_mono (Kd.S_far (Kd.S_bound hS9) (p := ⟨w3.heap.size, 0, none⟩) (fun k hk => by have := hk.2.1; simp; omega) _) (fun _ _ => trivial)
   case done =>
    rintro D xs W hD hxs ⟨v, ys, hall, hO, hS, hK⟩ hDef
    rw [hxs, HOUT.out] at hall
    injection hall with hall
    subst hall
    have hOc : W.cell? ⟨w3.heap.size, 0, none⟩ = some v := (zA7 hO 0).trans rfl
    obtain ⟨A, c, rfl⟩ := Kd.S_slice hS
    have hB : Below w.heap.size w W := HBW.out.trans (hK.b.mono HB3.out.size)
    have hB3s := HB3.out.size
    have HSS := zA2.mk hS
    have HOO := zA2.mk hO
    have HKK := zA2.mk hK
    have HBB := zA2.mk hB
    have HDD := zA2.mk hDef
    have HD := zA2.mk hD
    clear hS hO hK hB hDef hD
    gi_wp2_with (refine ⟨trivial, ?_⟩; gi_at_call 37; refine (callsIn_wide.2 (sortCallC W (w3.heap.size + 3) _ out HOK.out HSS.out)).mono ?_; rintro e w9 ⟨rfl, hS9, hg9⟩; have hSn := Kd.S_base HSS.out; have hO9 := blk_grown HOO.out hg9 (fun e_ => by have := hSn _ e_.symm; omega); have hOc9 : w9.cell? ⟨w3.heap.size, 0, none⟩ = some (.slice A out.length c) := (zA7 hO9 0).trans rfl; have hD9 := blk_grown HDD.out hg9 (fun e_ => by obtain ⟨cells, hc⟩ := Kd.S_typed HSS.out _ e_.symm; have h_ := HDD.out; rw [hc] at h_; cases h_))
    refine ⟨by simp, .inl ⟨_, _, rfl, run_takeDeferred hD9, ?_⟩⟩
    have hpD := grownBy_putObj' w9 D (.deferred none)
    have hDs := HD.out
    have hs := HS0.out
    have hB9 : Below w.heap.size w w9 := HBB.out.grown hg9 (by have := HKK.out.b.size; omega) (fun k hk => by have := hSn k hk; omega)
    refine ⟨.tuple #[.slice A out.length c, .int .i64 0], by simp [results, Tryz.f14, go_sem], .slice A out.length c, rfl, ?_, hB9.grown hpD (by have := HKK.out.b.size; have := hg9.size; omega) (fun k hk => by cases hk; omega)⟩
    refine Kd.S_lower (Kd.S_mono (Kd.S_step (Kd.S_bound hS9) (fun k hk hlt => hpD.block k hlt (fun e => ?_))) (fun _ _ => trivial)) (by omega)
    cases e
    obtain ⟨_, _, _, q, _, cells, hcell⟩ := hk
    rw [hcell] at hD9
    cases hD9
end
end Go.Proofs.YtbghfbhlbfcloaaGreatDoor.PL
namespace Go.Proofs.YtbghfbhlbfcloaaGreatDoor.PL
section
open Go.RowKit Go.Proofs.YtbghfbhlbfcloaaGreatDoorW.PrintWords Go.Proofs.YtbghfbhlbfcloaaGreatDoorW.PrintLast Go.Proofs.YtbghfbhlbfcloaaGreatDoorW.PrintMore
set_option linter.unusedVariables false
set_option linter.unusedSimpArgs false
def stO (most x : Int) : Option (List (List Int)) :=
 (bits_OnesCount.f x).bind fun n => if n ≤ most then (zAz.f CU.k x).bind fun a => some [a] else some []
def allS (st : Int → Option (List (List Int))) : List Int → Option (List (List Int))
 | [] => some []
 | x :: r => (st x).bind fun a => (allS st r).bind fun b => some (a ++ b)
def sortSq (l : List (List Int)) : List (List Int) := isort (leC befL) l
def okS (l : List (List Int)) : Bool := decide (l.length ≤ 1000) && (l.all fun x => l.all fun y => zBz.f CU.k x y == some (befL x y)) && decide l.Nodup
def SU.f (a0 : Int) (l0 : List S58) (l1 : List Int) (a2 : Int) : Option (List (List Int) × Int) :=
 (zB3.f CU.k a0 l0 l1).bind fun t => if t.2.2 = 0 then (if a2 < 1 ∨ (l1.length : Int) < a2 then some ([], 2) else
  (subs t.2.1 5000 t.2.1).bind fun ms => if ms.all (fun s => (zAg.f CU.k t.1 s).isSome) = true then (allS (stO a2) (ms.filter (cnB t.1))).bind fun out => if okS out = true then some (sortSq out, 0) else none else none)
 else some ([], t.2.2)
theorem allS_at {st : Int → Option (List (List Int))} : ∀ {l : List Int} {out : List (List Int)}, allS st l = some out → ∀ x ∈ l, ∃ a, st x = some a
 | [], _, _, x, hx => by simp at hx
 | y :: r, out, h, x, hx => by
  unfold allS at h
  obtain ⟨a, ha, h⟩ := Option.bind_eq_some_iff.1 h
  obtain ⟨b, hb, h⟩ := Option.bind_eq_some_iff.1 h
  rcases List.mem_cons.1 hx with rfl | hx
  ·exact ⟨a, ha⟩
  ·exact allS_at hb x hx
theorem allS_snoc {st : Int → Option (List (List Int))} : ∀ {l : List Int} {out a : List (List Int)} {x : Int}, allS st l = some out → st x = some a → allS st (l ++ [x]) = some (out ++ a)
 | [], out, a, x, h, hx => by
  simp only [allS, Option.some.injEq] at h
  subst h
  simp [allS, hx]
 | y :: r, out, a, x, h, hx => by
  unfold allS at h
  obtain ⟨p, hp, h⟩ := Option.bind_eq_some_iff.1 h
  obtain ⟨b, hb, h⟩ := Option.bind_eq_some_iff.1 h
  injection h with h
  subst h
  simp only [List.cons_append, allS, hp, Option.bind_some, allS_snoc hb hx, List.append_assoc]
theorem stO_len {most x : Int} {a : List (List Int)} (h : stO most x = some a) : a.length ≤ 1 := by
 unfold stO at h
 generalize bits_OnesCount.f x = q at h
 cases q with
 | none => cases h
 | some n =>
 rw [Option.bind_some] at h
 split at h
 ·obtain ⟨p, _, h⟩ := Option.bind_eq_some_iff.1 h
  injection h with h; subst h; simp
 ·injection h with h; subst h; simp
theorem allS_len {st : Int → Option (List (List Int))} (hst : ∀ x a, st x = some a → a.length ≤ 1) : ∀ {l : List Int} {out : List (List Int)}, allS st l = some out → out.length ≤ l.length
 | [], out, h => by
  simp only [allS, Option.some.injEq] at h
  subst h
  simp
 | y :: r, out, h => by
  unfold allS at h
  obtain ⟨p, hp, h⟩ := Option.bind_eq_some_iff.1 h
  obtain ⟨b, hb, h⟩ := Option.bind_eq_some_iff.1 h
  injection h with h
  subst h
  have h1 := hst _ _ hp
  have h2 := allS_len hst hb
  simp only [List.length_append, List.length_cons]
  omega
theorem sortSq_eq (l : List (List Int)) : (l.mergeSort fun x y => !(decide (befL y x < 0))) = sortSq l := merge_cf befL (befL_swo (fun x : List Int => x)) l (fun a b _ _ h1 h2 => befL_eq _ _ (by
 have := befL_neg a b
 omega))
theorem sortCallS (W : World) (base : Nat) (v : Value) (l : List (List Int)) (hok : okS l = true) (HO : Kd.S (Kd.slice 3 (Kd.int .i64)) 23 W base (fun _ => True) v l) :
  Calls Tryz.prog 31 #[v, .func (.func 32) #[] #[]] W fun e w' => e = .returned (.tuple #[]) ∧ Kd.S (Kd.slice 3 (Kd.int .i64)) 23 w' base (fun _ => True) v (sortSq l) ∧ W.grownBy w' v.ownBlock := by
 simp only [okS, Bool.and_eq_true, decide_eq_true_eq] at hok
 obtain ⟨⟨hl, hc⟩, hn⟩ := hok
 rcases Nat.eq_zero_or_pos l.length with h0 | h0
 ·obtain rfl := List.eq_nil_of_length_eq_zero h0
  obtain ⟨A, c, rfl⟩ := Kd.S_slice HO
  refine (sortNoneSet A c _ W).mono fun e w' h => ?_
  obtain ⟨he, rfl⟩ := h
  exact ⟨he, by simpa [sortSq, isort] using HO, ⟨rfl, rfl, rfl, Nat.le_refl _, fun _ _ _ => rfl⟩⟩
 ·have HO' := Kd.S_R HO
  obtain ⟨_, inner, ⟨_, ho⟩, _⟩ := HO'
  rcases ho with ⟨_, hx⟩ | ⟨g, cap, cur, rfl, hg, _⟩
  ·omega
  ·refine (sortS1 sortsSet rfl HO (by omega) h0 [] befL (befL_swo (fun x : List Int => x)) ?_ (enters_of Tryz.func32 (by kernel_rfl) rfl) ?_).mono fun e w' h => ⟨h.1, sortSq_eq l ▸ h.2.1, h.2.2⟩
   ·intro i j hi hj h1 h2
    have he := befL_eq _ _ (show befL (l.getD i []) (l.getD j []) = 0 by
     have := befL_neg (l.getD i []) (l.getD j [])
     omega)
    rw [List.getD_eq_getElem?_getD, List.getD_eq_getElem?_getD, List.getElem?_eq_getElem hi, List.getElem?_eq_getElem hj] at he
    exact (List.getElem_inj (h₀ := hi) (h₁ := hj) hn).1 (by simpa using he)
   ·intro x y cx cy W' hx hy kx ky
    obtain ⟨A0, c0, ex, g0, g1⟩ := kx
    obtain ⟨A1, c1, ey, g2, g3⟩ := ky
    injection ex with ex _
    injection ey with ey _
    subst ex ey
    have h1 := List.all_eq_true.1 (List.all_eq_true.1 hc x hx) y hy
    exact (zBz.calls CU.k A0 c0 x A1 c1 y (befL x y) W' g1 g0 g3 g2 (by simpa using h1)).mono fun e w' h => ⟨h.1, Gr.of_drawn h.2⟩
end
end Go.Proofs.YtbghfbhlbfcloaaGreatDoor.PL
namespace Go.Proofs.YtbghfbhlbfcloaaGreatDoor.PL
section
open Go.RowKit Go.Proofs.YtbghfbhlbfcloaaGreatDoorW.PrintWords Go.Proofs.YtbghfbhlbfcloaaGreatDoorW.PrintLast Go.Proofs.YtbghfbhlbfcloaaGreatDoorW.PrintMore
attribute [local go_sem] Oper.semAt_some
set_option linter.unusedVariables false
set_option linter.unusedSimpArgs false
def SU.T9 : Bool × List (List Nat × List Nat) := (true, [([], []), ([0], [0]), ([], []), ([1, 2], [1, 2])])
def SU.B9 : List Nat := [0, 1, 0, 7]
theorem SU.tab9 : rtab .any (opsG Tryz.f9 9) = SU.T9 := by kernel_rfl
theorem SU.bits9 : waitsOk SU.T9.2 SU.B9 = true := by kernel_rfl
def SU.T10 : Bool × List (List Nat × List Nat) := (true, [([], []), ([], []), ([1], [1]), ([2], [2]), ([0, 3, 2], [0, 3]), ([4, 4, 0, 1, 2, 3, 4], [4])])
def SU.B10 : List Nat := [0, 0, 2, 6, 15, 31]
theorem SU.tab10 : rtab .any (opsG Tryz.f9 10) = SU.T10 := by kernel_rfl
theorem SU.bits10 : waitsOk SU.T10.2 SU.B10 = true := by kernel_rfl
set_option maxRecDepth 100000 in
set_option maxHeartbeats 4000000 in
theorem SU.calls (a0_0 : Int) (A0_1 : Option Addr) (c0_1 : Nat) (l0_1 : List (S58)) (A1 : Option Addr) (c1 : Nat) (l1 : List Int) (a2 : Int) (r1 : List (List Int)) (r2 : Int) (w : World) (hr0_1 : Kd.C k58 w A0_1 l0_1.length l0_1) (hc0_1 : l0_1.length ≤ c0_1) (hr1 : Kd.C (Kd.int .i64) w A1 l1.length l1) (hc1 : l1.length ≤ c1) (hG : Kd.C (Kd.int .u8) w (some tabA) tabL.length tabL) (h : SU.f a0_0 l0_1 l1 a2 = some (r1, r2)) :
  Calls Tryz.prog 9 #[.agg #[.int .i64 a0_0, .slice A0_1 l0_1.length c0_1], .slice A1 l1.length c1, .int .i64 a2] w fun e w' => ∃ v0_ : Value, e = .returned (.tuple #[v0_, .int .i64 r2]) ∧ Kd.S (Kd.slice 3 (Kd.int .i64)) 23 w' w.heap.size (fun _ => True) v0_ r1 ∧ Below w.heap.size w w' := by
 have hu28 := Tryz.underlying28
 unfold SU.f at h
 obtain ⟨⟨L, m, er⟩, hop, h1⟩ := Option.bind_eq_some_iff.1 h
 dsimp only at h1
 have HR0 := zA2.mk hr0_1
 have HC0 := zA2.mk hc0_1
 have HR1 := zA2.mk hr1
 have HC1 := zA2.mk hc1
 have HG := zA2.mk hG
 have HOP := zA2.mk hop
 have H := zA2.mk h1
 have HOPC : ∀ w', Below w.heap.size w w' → _ := fun w' hb => (callsIn_wide (n := 5)).2 (zB3.calls CU.k a0_0 A0_1 c0_1 l0_1 A1 c1 l1 L m er w' (Kd.zAk hr0_1 hb) hc0_1 (Kd.zAk hr1 hb) hc1 hop)
 have HO := zA2.mk HOPC
 clear HOPC hr0_1 hc0_1 hr1 hc1 hG hop h h1
 refine (callsIn_wide (n := 6)).1 ?_
 refine callsIn_of_wp_marks Tryz.func9 rfl trivial ?_ rfl
 simp only [Tryz.ntmps9, List.size_toArray, List.length_cons, List.length_nil, Nat.reduceAdd, Nat.reduceSub, Array.replicate_succ, Array.replicate_zero, List.push_toArray, List.append_toArray, List.nil_append, List.cons_append]
 by_cases he : er = 0
 case neg =>
  have heb : (er != 0) = true := by simpa using he
  gi_wp2_with (refine ⟨trivial, ?_⟩; gi_at_call 27; refine (HO.out _ (zA1 (zA1 (Below.refl _ _) _) _)).mono ?_; rintro e w2 ⟨vL, rfl, hL, hb⟩; obtain ⟨AL, cL, rfl⟩ := Kd.zCa hL; have hb2 := (zA1 (zA1 (Below.refl w.heap.size w) (.cells #[.int .i64 a0_0, .slice A0_1 l0_1.length c0_1] 28)) (.cells #[.int .i64 a2] 3)).trans (hb.mono (by simp; omega)); clear hb; have HB := zA2.mk hb2; clear hb2)
  have hh := H.out
  rw [if_neg he] at hh
  injection hh with hh
  injection hh with e1 e2
  subst e1 e2
  exact ⟨.tuple #[.slice none 0 0, .int .i64 er], by simp [results, Tryz.f9, go_sem], .slice none 0 0, rfl, Kd.S_nil _ _ _ _ _, HB.out⟩
 case pos =>
  subst he
  have hh := H.out
  rw [if_pos rfl] at hh
  clear H
  by_cases z : a2 < 1 ∨ (l1.length : Int) < a2
  ·rw [if_pos z] at hh
   injection hh with hh
   injection hh with e1 e2
   subst e1 e2
   by_cases z1 : a2 < 1
   ·gi_wp2_with (refine ⟨trivial, ?_⟩; gi_at_call 27; refine (HO.out _ (zA1 (zA1 (Below.refl _ _) _) _)).mono ?_; rintro e w2 ⟨vL, rfl, hL, hb⟩; obtain ⟨AL, cL, rfl⟩ := Kd.zCa hL; have hb2 := (zA1 (zA1 (Below.refl w.heap.size w) (.cells #[.int .i64 a0_0, .slice A0_1 l0_1.length c0_1] 28)) (.cells #[.int .i64 a2] 3)).trans (hb.mono (by simp; omega)); have HB := zA2.mk hb2; have HLC := zA2.mk (Kd.zBp hL); have HMB := zA2.mk (zAl (show ((w.alloc (.cells #[.int .i64 a0_0, .slice A0_1 l0_1.length c0_1] 28)).alloc (.cells #[.int .i64 a2] 3)).heap[w.heap.size + 1]? = some (.cells #[.int .i64 a2] 3 (0, 0)) from by have h_ := blk_new (w.alloc (.cells #[.int .i64 a0_0, .slice A0_1 l0_1.length c0_1] 28)) (.cells #[.int .i64 a2] 3); rwa [World.size_alloc] at h_) hb); have hm2 : w2.cell? ⟨w.heap.size + 1, 0, none⟩ = some (.int .i64 a2) := (zA7 HMB.out 0).trans rfl; clear hb hb2 hL)
    exact ⟨.tuple #[.slice none 0 0, .int .i64 2], by simp [results, Tryz.f9, go_sem], .slice none 0 0, rfl, Kd.S_nil _ _ _ _ _, HB.out⟩
   ·have z2 : (l1.length : Int) < a2 := z.resolve_left z1
    gi_wp2_with (refine ⟨trivial, ?_⟩; gi_at_call 27; refine (HO.out _ (zA1 (zA1 (Below.refl _ _) _) _)).mono ?_; rintro e w2 ⟨vL, rfl, hL, hb⟩; obtain ⟨AL, cL, rfl⟩ := Kd.zCa hL; have hb2 := (zA1 (zA1 (Below.refl w.heap.size w) (.cells #[.int .i64 a0_0, .slice A0_1 l0_1.length c0_1] 28)) (.cells #[.int .i64 a2] 3)).trans (hb.mono (by simp; omega)); have HB := zA2.mk hb2; have HLC := zA2.mk (Kd.zBp hL); have HMB := zA2.mk (zAl (show ((w.alloc (.cells #[.int .i64 a0_0, .slice A0_1 l0_1.length c0_1] 28)).alloc (.cells #[.int .i64 a2] 3)).heap[w.heap.size + 1]? = some (.cells #[.int .i64 a2] 3 (0, 0)) from by have h_ := blk_new (w.alloc (.cells #[.int .i64 a0_0, .slice A0_1 l0_1.length c0_1] 28)) (.cells #[.int .i64 a2] 3); rwa [World.size_alloc] at h_) hb); have hm2 : w2.cell? ⟨w.heap.size + 1, 0, none⟩ = some (.int .i64 a2) := (zA7 HMB.out 0).trans rfl; clear hb hb2 hL)
    exact ⟨.tuple #[.slice none 0 0, .int .i64 2], by simp [results, Tryz.f9, go_sem], .slice none 0 0, rfl, Kd.S_nil _ _ _ _ _, HB.out⟩
  ·rw [if_neg z] at hh
   have H2 := zA2.mk hh
   have z1 : ¬ a2 < 1 := fun h => z (.inl h)
   have z2 : ¬ (l1.length : Int) < a2 := fun h => z (.inr h)
   clear hh z
   gi_wp2_with (first
    | (refine ⟨trivial, ?_⟩; gi_at_call 27; refine (HO.out _ (zA1 (zA1 (Below.refl _ _) _) _)).mono ?_; rintro e w2 ⟨vL, rfl, hL, hb⟩; obtain ⟨AL, cL, rfl⟩ := Kd.zCa hL; have hb2 := (zA1 (zA1 (Below.refl w.heap.size w) (.cells #[.int .i64 a0_0, .slice A0_1 l0_1.length c0_1] 28)) (.cells #[.int .i64 a2] 3)).trans (hb.mono (by simp; omega)); have HB := zA2.mk hb2; have HLC := zA2.mk (Kd.zBp hL); have HMB := zA2.mk (zAl (show ((w.alloc (.cells #[.int .i64 a0_0, .slice A0_1 l0_1.length c0_1] 28)).alloc (.cells #[.int .i64 a2] 3)).heap[w.heap.size + 1]? = some (.cells #[.int .i64 a2] 3 (0, 0)) from by have h_ := blk_new (w.alloc (.cells #[.int .i64 a0_0, .slice A0_1 l0_1.length c0_1] 28)) (.cells #[.int .i64 a2] 3); rwa [World.size_alloc] at h_) hb); have hm2 : w2.cell? ⟨w.heap.size + 1, 0, none⟩ = some (.int .i64 a2) := (zA7 HMB.out 0).trans rfl; clear hb hb2 hL)
    | (refine ⟨trivial, ?_⟩; gi_at_call 28; refine (callsIn_wide.2 (subsets_make AL L.length cL m _)).mono ?_; rintro e w4 ⟨rfl, rfl⟩))
   obtain ⟨ms, hms, hh⟩ := Option.bind_eq_some_iff.1 H2.out
   split at hh
   case isFalse => cases hh
   rename_i hsome
   obtain ⟨out, hout, hh⟩ := Option.bind_eq_some_iff.1 hh
   split at hh
   case isFalse => cases hh
   rename_i hok
   injection hh with hh
   injection hh with e1 e2
   subst e1 e2
   have hch := subs_chain m 5000 m ms hms
   have hlen := subs_len m 5000 m ms hms
   have hcn : ∀ s ∈ ms, zAg.f CU.k L s = some (cnB L s) := by
    intro s hs
    have h1 := List.all_eq_true.1 hsome s hs
    unfold cnB
    cases e : zAg.f CU.k L s with
    | none => rw [e] at h1; cases h1
    | some b => rfl
   have hat := fun x hx => allS_at hout x hx
   obtain ⟨W0, hW0⟩ : ∃ W0, ((w2.alloc (.cells #[.slice none 0 0] 30)).alloc (.cells #[.slice AL L.length cL] 64)).alloc (.cells #[.int .u64 m] 65) = W0 := ⟨_, rfl⟩
   have hs0 : W0.heap.size = w2.heap.size + 3 := by rw [← hW0]; simp
   have hO0 : W0.heap[w2.heap.size]? = some (.cells #[.slice none 0 0] 30 (0, 0)) := by rw [← hW0]; exact zA5 (zA5 (blk_new w2 _) _) _
   have hL0 : W0.heap[w2.heap.size + 1]? = some (.cells #[.slice AL L.length cL] 64 (0, 0)) := by
    rw [← hW0]; have h_ := blk_new (w2.alloc (.cells #[.slice none 0 0] 30)) (.cells #[.slice AL L.length cL] 64); rw [World.size_alloc] at h_; exact zA5 h_ _
   have hM0 : W0.heap[w2.heap.size + 1 + 1]? = some (.cells #[.int .u64 m] 65 (0, 0)) := by
    rw [← hW0]; have h_ := blk_new ((w2.alloc (.cells #[.slice none 0 0] 30)).alloc (.cells #[.slice AL L.length cL] 64)) (.cells #[.int .u64 m] 65); rwa [World.size_alloc, World.size_alloc] at h_
   have h30 : Below w2.heap.size w2 W0 := by rw [← hW0]; exact zA1 (zA1 (zA1 (Below.refl _ _) _) _) _
   have hBW : Below w.heap.size w W0 := HB.out.trans (h30.mono HB.out.size)
   have hLC0 : ∀ W', Kq w2.heap.size (w2.heap.size + 1 + 1) (w2.heap.size + 1) W0 W' → Kd.C (Kd.int .u64) W' AL L.length L := fun W' h => Kd.zAk HLC.out.2.2 (h30.trans h.b)
   have hG0 : ∀ W', Kq w2.heap.size (w2.heap.size + 1 + 1) (w2.heap.size + 1) W0 W' → Kd.C (Kd.int .u8) W' (some tabA) tabL.length tabL := fun W' h => Kd.zAk (Kd.zAk HG.out HB.out) (h30.trans h.b)
   have h12 : w.heap.size + 1 < w2.heap.size := zC8 HMB.out
   have hmb := h30.block (w.heap.size + 1) h12
   rw [HMB.out] at hmb
   rw [hW0]
   have HAT := zA2.mk hat
   have HLC0 := zA2.mk hLC0
   have HG0 := zA2.mk hG0
   have HS0 := zA2.mk hs0
   have HLEN := zA2.mk hlen
   have HOUT := zA2.mk hout
   have HOK := zA2.mk hok
   have HBW := zA2.mk hBW
   have HMB0 := zA2.mk hmb
   have H12 := zA2.mk h12
   have HO0 := zA2.mk hO0
   clear hat hLC0 hG0 hs0 hlen hout hok hBW hmb h12 hm2
   refine wpIn_rangeFunc_ownG (N := (ms.filter (cnB L)).length) rfl (by omega) (gf := 52) (lb := #[.pointer (some ⟨w2.heap.size + 1 + 1, 0, none⟩), .pointer (some ⟨w2.heap.size + 1, 0, none⟩)]) rfl trivial (enters_of Tryz.func52 (by kernel_rfl) rfl)
    (subsets_stops CU.k AL cL L m ms (cnB L) (w2.heap.size + 1 + 1) (w2.heap.size + 1) w2.heap.size 5 W0 (by have := HS0.out; omega) ((zA7 hM0 0).trans rfl) ((zA7 hL0 0).trans rfl) HLC0.out HLC.out.2.1 HG0.out hch hcn)
    (fun h k => h.trans k) ?hKb (Below.refl _ _) (fun _ => rfl)
    (fun pre W => ∃ v ys, allS (stO a2) (pre.map fun x => x.1) = some ys ∧ W.heap[w2.heap.size]? = some (.cells #[v] 30 (0, 0)) ∧ Kd.S (Kd.slice 3 (Kd.int .i64)) 23 W (w2.heap.size + 3) (fun _ => True) v ys ∧ Kq w2.heap.size (w2.heap.size + 1 + 1) (w2.heap.size + 1) W0 W)
    (fun _ _ _ => False) ?hI (fun _ _ _ _ _ h => h.elim) ⟨_, [], rfl, HO0.out, Kd.S_nil _ _ _ _ _, Kq.refl _ _ _ _⟩
    (fun x => { tmps := #[.agg #[.int .i64 a0_0, .slice A0_1 l0_1.length c0_1], .slice A1 l1.length c1, .int .i64 a2, .pointer (some ⟨w.heap.size, 0, none⟩), undef, .pointer (some ⟨w.heap.size + 1, 0, none⟩), .slice none 0 0, .int .i64 0, .slice AL L.length cL, .int .u64 m, .int .i64 0, .pointer (some ⟨w2.heap.size, 0, none⟩), .int .u64 x.1, .tuple #[.slice AL L.length cL, .int .u64 m, .int .i64 0], .agg #[.int .i64 a0_0, .slice A0_1 l0_1.length c0_1], .slice A1 l1.length c1, .tuple #[.slice AL L.length cL, .int .u64 m, .int .i64 0], .slice AL L.length cL, .int .u64 m, .int .i64 0, .int .i64 0, .bool false, undef, .int .i64 a2, .bool (decide (a2 < 1)), .bool (decide (a2 < 1)), .int .i64 a2, .slice A1 l1.length c1, .int .i64 (l1.length : Int), .bool (decide ((l1.length : Int) < a2)), .bool (decide (a2 < 1) || decide ((l1.length : Int) < a2)), .slice AL L.length cL, .int .u64 m, .func (.func 52) #[] #[.pointer (some ⟨w2.heap.size + 1 + 1, 0, none⟩), .pointer (some ⟨w2.heap.size + 1, 0, none⟩)], .int .u64 x.1, undef, undef, undef, undef, undef, undef, undef, undef, undef, undef, undef, undef], defers := [] }) ?assign ?body ?done ?stop
   case hKb =>
    intro W l o o' hl ho hc hw
    exact ⟨belowK_b (w := W0) (by have := HS0.out; omega) W l o o' hl ho hc hw, World.putObj_heap_other (by have := HS0.out; omega), World.putObj_heap_other (by have := HS0.out; omega)⟩
   case hI =>
    rintro s A B row ⟨v, ys, hall, hO, hS, hK⟩ hg hr
    have hOl := (Array.getElem?_eq_some_iff.1 hO).1
    have hle := hK.b.size
    have hs := HS0.out
    refine ⟨v, ys, hall, (hg.block _ hOl (fun e => by have := (hr _ e.symm).1; omega)).trans hO, Kd.S_mono (Kd.S_step (Kd.S_bound hS) (fun k hk hlt => hg.block k hlt (fun e => ?_))) (fun _ _ => trivial), hK.trans ⟨(Below.refl _ A).grown hg (by omega) (fun k e => by have := (hr _ e).1; omega), hg.block _ (by omega) (fun e => by have := (hr _ e.symm).1; omega), hg.block _ (by omega) (fun e => by have := (hr _ e.symm).1; omega)⟩⟩
    obtain ⟨_, o, ho, hc⟩ := hr k e.symm
    obtain ⟨_, _, _, q, _, cells, hcell⟩ := hk
    rw [hcell] at ho
    cases ho
    cases hc
   case stop => intro D c pre W _ _ h; exact h.elim
   case assign =>
    intro l x W K hK
    gi_wp2
    exact hK
   case body =>
    rintro l pre x W ⟨v, ys, hall, hO, hS, hK⟩ hlt
    obtain ⟨a, ha⟩ := HAT.out x.1 x.2
    have hsn : allS (stO a2) ((pre ++ [x]).map fun x => x.1) = some (ys ++ a) := by rw [List.map_append]; exact allS_snoc hall ha
    have hys : ys.length ≤ 5000 := by
     have h1 := allS_len (fun _ _ => stO_len) hall
     have h2 := List.length_filter_le (cnB L) ms
     have h3 := HLEN.out
     rw [List.length_map] at h1
     omega
    have hmC : W.cell? ⟨w.heap.size + 1, 0, none⟩ = some (.int .i64 a2) := (zA7 ((hK.b.block _ (by have := H12.out; omega)).trans HMB0.out) 0).trans rfl
    have hOc : W.cell? ⟨w2.heap.size, 0, none⟩ = some v := (zA7 hO 0).trans rfl
    have HLW := zA2.mk (HLC0.out W hK)
    have HGW := zA2.mk (HG0.out W hK)
    have HSN := zA2.mk hsn
    have HYS := zA2.mk hys
    have HOO := zA2.mk hO
    have HSS := zA2.mk hS
    have HKK := zA2.mk hK
    clear hall hsn hys hO hS hK
    unfold stO at ha
    cases hoc : bits_OnesCount.f x.1 with
    | none => rw [hoc] at ha; cases ha
    | some n =>
    rw [hoc, Option.bind_some] at ha
    have HOC := zA2.mk hoc
    clear hoc
    gi_wp2
    refine start_in (n := 4) (S := fun w' => w'.cell? ⟨w.heap.size + 1, 0, none⟩ = some (.int .i64 a2)) (ds := []) #[false, false, false, false] (by kernel_rfl) rfl rfl (by rintro ⟨_, _, h_⟩; exact h_) (nd_of (by kernel_rfl)) hmC (fun hHeld => ?_)
    refine with_tabW SU.tab9 SU.bits9 (fun HT_ HW_ => ?_)
    obtain ⟨w5, hw5⟩ : ∃ w5, W.drew = w5 := ⟨_, rfl⟩
    have hb5 : Below W.heap.size W w5 := by rw [← hw5]; exact below_drew (Below.refl _ _)
    rw [hw5] at hHeld ⊢
    refine pure_ (i := 0) (N := some 35) (v := ?_) (a' := ?_) #[true, false, false, false] rfl rfl (zBe HT_.out (by kernel_rfl)) (fun _ _ _ h => h) (Or.inl ⟨by rfl, ?_⟩) ?_ ?_
    rotate_left
    ·intro w'
     go_simp
     with_reducible rfl
    rotate_left
    ·simp only [Act.put, List.setIfInBounds_toArray, List.set_cons_zero, List.set_cons_succ, i64_w, i32_w]
     rfl
    refine take_ (i := 2) (N := some 37) (v := ?_) (a' := ?_) #[true, false, true, false] rfl rfl (zC0 HT_.out HW_.out (by kernel_rfl)) (fun _ _ _ h => h) (Or.inl ⟨by rfl, ?_⟩) hHeld ?_ ?_
    rotate_left
    ·intro w' s0
     go_simp
     with_reducible rfl
    rotate_left
    ·simp only [Act.put, List.setIfInBounds_toArray, List.set_cons_zero, List.set_cons_succ, i64_w, i32_w]
     rfl
    refine one_ (i := 1) (N := some 36) #[true, true, true, false] rfl rfl (one_of HT_.out (by kernel_rfl)) (by decide) (fun K hK => ?_)
    refine goes_ Tryz.func29 (by kernel_rfl) rfl #[.int .u64 x.1] (by rfl) rfl rfl (by (try simp only [List.map_toArray, List.map_cons, List.map_nil]); first | done | rfl) ?_
    refine (bits_OnesCount.calls _ n _ HOC.out).mono ?_
    rintro e w6 ⟨rfl, ⟨nd, hw6⟩⟩
    have hb6 : Below W.heap.size W w6 := by rw [hw6]; exact zA0 hb5 _
    refine ⟨_, rfl, ?_⟩
    refine hK.out _ _ (by rw [hw6]; exact hHeld) (fun hHeld => ?_)
    clear hK K
    refine pure_ (i := 3) (N := some 38) (v := ?_) (a' := ?_) #[true, true, true, true] rfl rfl (zBe HT_.out (by kernel_rfl)) (fun _ _ _ h => h) (Or.inl ⟨by rfl, ?_⟩) ?_ ?_
    rotate_left
    ·intro w'
     go_simp
     with_reducible rfl
    rotate_left
    ·simp only [Act.put, List.setIfInBounds_toArray, List.set_cons_zero, List.set_cons_succ, i64_w, i32_w]
     rfl
    refine done_ (done_of HT_.out (by kernel_rfl)) ?_
    have hsz := HKK.out.b.size
    have hs := HS0.out
    have hOl := zC8 HOO.out
    have HS6 := zA2.mk (Kd.S_below HSS.out hb6)
    have hO6 := (hb6.block _ hOl).trans HOO.out
    have HG6 := zA2.mk (Kd.zAk HGW.out hb6)
    clear hw6 hHeld hmC hOc
    by_cases z9 : n ≤ a2
    ·rw [if_pos z9] at ha
     obtain ⟨la, hla, ha⟩ := Option.bind_eq_some_iff.1 ha
     injection ha with ha
     subst ha
     have HLA := zA2.mk hla
     clear hla
     gi_wp2
     have hb7 : Below W.heap.size W w6.drew := below_drew hb6
     have HS7 := zA2.mk (Kd.S_below HSS.out hb7)
     have hO7 := (hb7.block _ hOl).trans HOO.out
     have HG7 := zA2.mk (Kd.zAk HGW.out hb7)
     have HB7 := zA2.mk hb7
     clear hb6 HS6 hO6 HG6 hb5 hb7 hw5
     refine start_in (n := 6) (S := fun w' => w'.cell? ⟨w2.heap.size, 0, none⟩ = some v) (ds := [5]) #[false, false, false, false, false, false] (by kernel_rfl) rfl rfl (by rintro ⟨_, _, h_⟩; exact h_) (nd_of (by kernel_rfl)) ((zA7 hO7 0).trans rfl) (fun hHeld => ?_)
     refine with_tabW SU.tab10 SU.bits10 (fun HT_ HW_ => ?_)
     have HO7 := zA2.mk hO7
     clear hO7 z9
     generalize w6.drew = w7 at HS7 HO7 HG7 HB7 hHeld ⊢
     refine pure_ (i := 1) (N := some 40) (v := ?_) (a' := ?_) #[false, true, false, false, false, false] rfl rfl (zBe HT_.out (by kernel_rfl)) (fun _ _ _ h => h) (Or.inl ⟨by rfl, ?_⟩) ?_ ?_
     rotate_left
     ·intro w'
      go_simp
      with_reducible rfl
     rotate_left
     ·simp only [Act.put, List.setIfInBounds_toArray, List.set_cons_zero, List.set_cons_succ, i64_w, i32_w]
      rfl
     refine take_ (i := 0) (N := some 39) (v := ?_) (a' := ?_) #[true, true, false, false, false, false] rfl rfl (zC0 HT_.out HW_.out (by kernel_rfl)) (fun _ _ _ h => h) (Or.inl ⟨by rfl, ?_⟩) hHeld ?_ ?_
     rotate_left
     ·intro w' s0
      go_simp
      with_reducible rfl
     rotate_left
     ·simp only [Act.put, List.setIfInBounds_toArray, List.set_cons_zero, List.set_cons_succ, i64_w, i32_w]
      rfl
     refine one_ (i := 2) (N := some 41) #[true, true, true, false, false, false] rfl rfl (one_of HT_.out (by kernel_rfl)) (by decide) (fun K hK => ?_)
     refine goes_ Tryz.func30 (by kernel_rfl) rfl #[.int .u64 x.1] (by rfl) rfl rfl (by (try simp only [List.map_toArray, List.map_cons, List.map_nil]); first | done | rfl) ?_
     refine (zAz.calls CU.k _ la _ HG7.out HLA.out).mono ?_
     rintro e w8 ⟨va, rfl, hva, hb8⟩
     obtain ⟨Ava, ca, rfl⟩ := Kd.zCa hva
     refine ⟨_, rfl, ?_⟩
     refine hK.out _ _ ((hb8.cell (World.block_lt_of_cell? _ _ hHeld)).trans hHeld) (fun hHeld => ?_)
     clear hK K
     have hlt7 := HB7.out.size
     have hVA := zA2.mk (Kd.R_mono (ok' := fun k => w7.heap.size ≤ k) (Kd.R_lower (Kd.R_bound hva) (base' := w2.heap.size + 3) (by omega)) (fun k hk => hk.2.1))
     have HB78 := zA2.mk hb8
     have HS8 := zA2.mk (Kd.S_mono (ok' := fun k => True ∧ ¬ w7.heap.size ≤ k) (Kd.S_below (Kd.S_bound HS7.out) hb8) (fun k hk => ⟨trivial, by have := hk.2.2.1; omega⟩))
     have hVne : ∀ k, w7.heap.size ≤ k → some k ≠ v.ownBlock := fun k hk e => by have := Kd.S_lt HS7.out k e.symm; omega
     have HO8 := zA2.mk ((hb8.block _ (zC8 HO7.out)).trans HO7.out)
     have HSZ7 := zA2.mk hlt7
     have hle8 : w2.heap.size + 3 ≤ w8.heap.size := by have := hb8.size; omega
     clear hva hb8 hsz hs hlt7
     refine one_ (i := 3) (N := some 42) #[true, true, true, true, false, false] rfl rfl (one_of HT_.out (by kernel_rfl)) (by decide) (fun K hK => ?_)
     refine event_step (v := ?_) (w1 := w8.alloc (.cells [.slice Ava la.length ca].toArray 23)) (by rfl) ?_ ?_
     rotate_left
     ·go_simp
      rfl
     refine hK.out _ _ (cell_alloc_l _ hHeld) (fun hHeld => ?_)
     clear hK K
     refine one_ (i := 4) (N := some 43) #[true, true, true, true, true, false] rfl rfl (one_of HT_.out (by kernel_rfl)) (by decide) (fun K hK => ?_)
     refine Kd.S_append_step (w0 := w8) (W := w8) (Kd.slice 3 (Kd.int .i64)) (w2.heap.size + 3) (by rfl) (.tmp 39) (.tmp 42) 30 23 (.slice none 0 0) 24 rfl Tryz.underlying30 info23 rfl (by decide) (by omega) v ys la [.slice Ava la.length ca] (fun _ => True) (fun k => w7.heap.size ≤ k) rfl rfl ⟨_, rfl, hVA.out⟩ (fun k hk => ⟨trivial, hVne k hk⟩) (fun _ _ => trivial) HS8.out (Below.refl _ _) hle8 (by have := HYS.out; omega) ?_
     intro v9 w9 hS9 hb9 hg9 _
     refine hK.out _ _ ?_ (fun hHeld => ?_)
     ·exact (zA7 ((hb9.block _ (by omega)).trans HO8.out) 0).trans rfl
     clear hK K
     refine last_ (i := 5) (N := none) #[true, true, true, true, true, true] rfl rfl (one_of HT_.out (by kernel_rfl)) (by decide) (fun K hK => ?_)
     obtain ⟨A9, c9, e9⟩ := Kd.S_slice hS9
     rw [show (ys ++ [la]).length = ys.length + 1 by simp] at e9
     subst e9
     have hO9 := (hb9.block _ (show w2.heap.size < w2.heap.size + 3 by omega)).trans HO8.out
     have hf9 := zA9 hO9 0
     refine skip_ (w1 := ?_) (by rfl) rfl ?_ ?_
     rotate_left
     ·go_simp
      rfl
     refine hK.out _ _ ?_
     clear hK K
     refine done_ (done_of HT_.out (by kernel_rfl)) ?_
     have hW8 : Below W.heap.size W w8 := HB7.out.trans (HB78.out.mono HSZ7.out)
     have hK8 : Kq w2.heap.size (w2.heap.size + 1 + 1) (w2.heap.size + 1) W w8 := Kq.of hW8 (by have := HKK.out.b.size; have := HS0.out; omega) (by have := HKK.out.b.size; have := HS0.out; omega) (by have := HKK.out.b.size; have := HS0.out; omega)
     have hKW : Kq w2.heap.size (w2.heap.size + 1 + 1) (w2.heap.size + 1) W (w9.setCell ⟨w2.heap.size, 0, none⟩ (.slice A9 (ys.length + 1) c9)) :=
      (hK8.trans (Kq.of hb9 (by omega) (by omega) (by omega))).trans ⟨(Below.refl _ _).setCell (p := ⟨w2.heap.size, 0, none⟩) (by simp) _, Below.heap_setCell _ _ _ _ (by simp; omega), Below.heap_setCell _ _ _ _ (by simp)⟩
     refine ⟨?_, hKW, _, _, HSN.out, blk_set hO9 0 _, ?_, HKK.out.trans hKW⟩
     ·refine ((KeepsFrom.of_grownBy (grown_of_below hW8) (fun _ e => by cases e)).trans ⟨hg9.size, fun k o hB hk ho => (hg9.block k (zC8 hk) (fun e => ?_)).trans hk⟩).trans ((KeepsOthers.setCell _ _ _).from _)
      obtain ⟨cells, hc⟩ := Kd.S_typed HS8.out k e.symm
      rw [hc] at hk
      cases hk
      cases ho
     ·exact Kd.S_mono (Kd.S_far (Kd.S_bound hS9) (p := ⟨w2.heap.size, 0, none⟩) (fun k hk => by have := hk.2.1; simp; omega) _) (fun _ _ => trivial)
    ·rw [if_neg z9] at ha
     injection ha with ha
     subst ha
     gi_wp2
     exact ⟨KeepsFrom.of_grownBy (grown_of_below hb6) (fun _ e => by cases e), Kq.of hb6 (by omega) (by omega) (by omega), v, ys, by have := HSN.out; rwa [List.append_nil] at this, hO6, HS6.out, HKK.out.trans (Kq.of hb6 (by omega) (by omega) (by omega))⟩
   case done =>
    rintro D xs W hD hxs ⟨v, ys, hall, hO, hS, hK⟩ hDef
    rw [hxs, HOUT.out] at hall
    injection hall with hall
    subst hall
    have hOc : W.cell? ⟨w2.heap.size, 0, none⟩ = some v := (zA7 hO 0).trans rfl
    obtain ⟨A, c, rfl⟩ := Kd.S_slice hS
    have hB : Below w.heap.size w W := HBW.out.trans (hK.b.mono HB.out.size)
    have hB3s := HB.out.size
    have HSS := zA2.mk hS
    have HOO := zA2.mk hO
    have HKK := zA2.mk hK
    have HBB := zA2.mk hB
    have HDD := zA2.mk hDef
    have HD := zA2.mk hD
    clear hS hO hK hB hDef hD
    gi_wp2_with (refine ⟨trivial, ?_⟩; gi_at_call 31; refine (callsIn_wide.2 (sortCallS W (w2.heap.size + 3) _ out HOK.out HSS.out)).mono ?_; rintro e w9 ⟨rfl, hS9, hg9⟩; have hSn := Kd.S_base HSS.out; have hO9 := blk_grown HOO.out hg9 (fun e_ => by have := hSn _ e_.symm; omega); have hOc9 : w9.cell? ⟨w2.heap.size, 0, none⟩ = some (.slice A out.length c) := (zA7 hO9 0).trans rfl; have hD9 := blk_grown HDD.out hg9 (fun e_ => by obtain ⟨cells, hc⟩ := Kd.S_typed HSS.out _ e_.symm; have h_ := HDD.out; rw [hc] at h_; cases h_))
    refine ⟨by simp, .inl ⟨_, _, rfl, run_takeDeferred hD9, ?_⟩⟩
    have hpD := grownBy_putObj' w9 D (.deferred none)
    have hDs := HD.out
    have hs := HS0.out
    have hB9 : Below w.heap.size w w9 := HBB.out.grown hg9 (by have := HKK.out.b.size; omega) (fun k hk => by have := hSn k hk; omega)
    have hlen9 : (sortSq out).length = out.length := (isort_perm (leC befL) out).length_eq
    refine ⟨.tuple #[.slice A out.length c, .int .i64 0], by simp [results, Tryz.f9, go_sem], .slice A out.length c, rfl, ?_, hB9.grown hpD (by have := HKK.out.b.size; have := hg9.size; omega) (fun k hk => by cases hk; omega)⟩
    refine Kd.S_lower (Kd.S_mono (Kd.S_step (Kd.S_bound hS9) (fun k hk hlt => hpD.block k hlt (fun e => ?_))) (fun _ _ => trivial)) (by omega)
    cases e
    obtain ⟨_, _, _, q, _, cells, hcell⟩ := hk
    rw [hcell] at hD9
    cases hD9
end
end Go.Proofs.YtbghfbhlbfcloaaGreatDoor.PL
namespace Go.Proofs.YtbghfbhlbfcloaaGreatDoor.PL
section
open Go.RowKit Go.Proofs.YtbghfbhlbfcloaaGreatDoorW.PrintWords Go.Proofs.YtbghfbhlbfcloaaGreatDoorW.PrintLast Go.Proofs.YtbghfbhlbfcloaaGreatDoorW.PrintMore
attribute [local go_sem] zBu zBs zC3 zC2 zBn zBm zBt zBr   -- for this text's walks alone
set_option linter.unusedVariables false
set_option linter.unusedSimpArgs false
attribute [local go_sem high] eqA58
def liaison_Subsets.f (a0_0 : Int) (l0_1 : List (S58)) (l1 : List Int) (a2 : Int) : Option ((List (List Int)) × Int) := SU.f a0_0 l0_1 l1 a2
theorem liaison_Subsets.calls (a0_0 : Int) (A0_1 : Option Addr) (c0_1 : Nat) (l0_1 : List (S58)) (A1 : Option Addr) (c1 : Nat) (l1 : List Int) (a2 : Int) (r1 : List (List Int)) (r2 : Int) (w : World) (hr0_1 : Kd.C k58 w A0_1 l0_1.length l0_1) (hc0_1 : l0_1.length ≤ c0_1) (hr1 : Kd.C (Kd.int .i64) w A1 l1.length l1) (hc1 : l1.length ≤ c1) (hG : Kd.C (Kd.int .u8) w (some tabA) tabL.length tabL) (h : liaison_Subsets.f a0_0 l0_1 l1 a2 = some (r1, r2)) :
  Calls Tryz.prog 9 #[.agg #[.int .i64 a0_0, .slice A0_1 l0_1.length c0_1], .slice A1 l1.length c1, .int .i64 a2] w fun e w' => ∃ v0_ : Value, e = .returned (.tuple #[v0_, .int .i64 r2]) ∧ Kd.S (Kd.slice 3 (Kd.int .i64)) 23 w' w.heap.size (fun _ => True) v0_ r1 ∧ Below w.heap.size w w' :=
  SU.calls a0_0 A0_1 c0_1 l0_1 A1 c1 l1 a2 r1 r2 w hr0_1 hc0_1 hr1 hc1 hG h
end
end Go.Proofs.YtbghfbhlbfcloaaGreatDoor.PL
namespace Go.Proofs.YtbghfbhlbfcloaaGreatDoor.PL
section
set_option linter.unusedVariables false
set_option linter.unusedSimpArgs false
open Go.RowKit Go.Proofs.YtbghfbhlbfcloaaGreatDoorW.PrintWords Go.Proofs.YtbghfbhlbfcloaaGreatDoorW.PrintLast Go.Proofs.YtbghfbhlbfcloaaGreatDoorW.PrintMore
theorem oc_tab : ((List.range 64).all fun x => bits_OnesCount.f (x : Int) == some ((EI x).length : Int)) = true := by kernel_rfl
theorem oc_f (x : Nat) (hx : x < 64) : bits_OnesCount.f (x : Int) = some ((EI x).length : Int) := by
 have h := List.all_eq_true.1 oc_tab x (List.mem_range.2 hx)
 exact eq_of_beq h
def lenB (most : Int) (x : Nat) : Bool := decide (((EI x).length : Int) ≤ most)
theorem stO_f {x : Nat} (hx : x < 64) (most : Int) : stO most (x : Int) = some (if lenB most x = true then [EI x] else []) := by
 unfold stO
 rw [oc_f x hx, Option.bind_some]
 unfold lenB
 by_cases h : ((EI x).length : Int) ≤ most
 ·rw [if_pos h, listed_f CU.k (by decide) x hx, Option.bind_some, if_pos (decide_eq_true h)]
 ·rw [if_neg h, if_neg (by simpa using h)]
theorem allS_f (most : Int) : ∀ l : List Nat, (∀ x ∈ l, x < 64) → allS (stO most) (l.map fun x : Nat => (x : Int)) = some ((l.filter (lenB most)).map EI)
 | [], _ => rfl
 | x :: r, h => by
  rw [List.map_cons, allS, stO_f (h x (by simp)), Option.bind_some, allS_f most r (fun y hy => h y (by simp [hy])), Option.bind_some]
  by_cases hq : lenB most x = true
  ·rw [if_pos hq, List.filter_cons_of_pos hq]
   rfl
  ·rw [if_neg hq, List.filter_cons_of_neg hq]
   rfl
theorem sortSq_map (l : List Nat) : sortSq (l.map EI) = (isort leM l).map EI := isort_map EI (leC befL) l
theorem okS_f (l : List Nat) (hl : l.length ≤ 64) (hlt : ∀ x ∈ l, x < 64) (hn : l.Nodup) : okS (l.map EI) = true := by
 unfold okS
 rw [Bool.and_eq_true, Bool.and_eq_true]
 refine ⟨⟨decide_eq_true (by rw [List.length_map]; omega), ?_⟩, decide_eq_true ?_⟩
 ·rw [List.all_eq_true]
  intro p hp
  obtain ⟨x, hx, rfl⟩ := List.mem_map.1 hp
  rw [List.all_eq_true]
  intro q hq
  obtain ⟨y, hy, rfl⟩ := List.mem_map.1 hq
  rw [bef_f CU.k (by decide) x y (hlt x hx) (hlt y hy)]
  exact beq_self_eq_true _
 ·exact List.pairwise_map.2 (hn.imp_of_mem fun {a b} ha hb hne h => hne (EI_inj (hlt a ha) (hlt b hb) h))
theorem subs_up (m : Int) : ∀ (q : Nat) (s : Int) (r : List Int), subs m q s = some r → ∀ d, subs m (q + d) s = some r
 | 0, _, _, h, _ => by simp [subs] at h
 | q + 1, s, r, h, d => by
  rw [show q + 1 + d = (q + d) + 1 by omega]
  unfold subs at h ⊢
  by_cases h0 : s = 0
  ·rw [if_pos h0] at h ⊢
   exact h
  ·rw [if_neg h0] at h ⊢
   by_cases h1 : 0 < s ∧ 0 ≤ nextS m s ∧ nextS m s < s
   ·rw [if_pos h1] at h ⊢
    obtain ⟨r', hr, h⟩ := Option.bind_eq_some_iff.1 h
    rw [subs_up m q _ r' hr d, Option.bind_some]
    exact h
   ·rw [if_neg h1] at h
    cases h
theorem SU_plain (t : Nat → Bool) {A : List Nat} (hA : Gd A) {m : Nat} (hm : m < 64) (hop : zB3.f CU.k 6 (Eg t) (EI m) = some (LI A, (m : Int), 0)) (most : Int) :
  SU.f 6 (Eg t) (EI m) most = some (if most < 1 ∨ ((EI m).length : Int) < most then ([], 2) else (((SO m).filter (kp A most)).map EI, 0)) := by
 unfold SU.f
 rw [hop, Option.bind_some, if_pos rfl]
 by_cases h : most < 1 ∨ ((EI m).length : Int) < most
 ·rw [if_pos h, if_pos h]
 ·rw [if_neg h, if_neg h, subs_up _ 1000 _ _ (subs_f m hm) 4000, Option.bind_some, if_pos ?_]
  ·have e1 : ((SB m).map fun x : Nat => (x : Int)).filter (cnB (LI A)) = ((SB m).filter (cB A)).map fun x : Nat => (x : Int) := by
    rw [List.filter_map]
    rfl
   have hlt : ∀ x ∈ (SB m).filter (cB A), x < 64 := fun x hx => (SB_mem.1 (List.mem_filter.1 hx).1).1
   rw [e1, allS_f most _ hlt, Option.bind_some, okS_f, if_pos rfl, sortSq_map, List.filter_filter, SO_filter]
   ·rfl
   ·have h1 := List.length_filter_le (lenB most) ((SB m).filter (cB A))
    have h2 := List.length_filter_le (cB A) (SB m)
    have h3 := SB_len m
    omega
   ·exact fun x hx => hlt x (List.mem_filter.1 hx).1
   ·exact ((SB_nodup m).filter _).filter _
  ·rw [List.all_map, List.all_eq_true]
   intro x hx
   have hx' := SB_mem.1 hx
   show (zAg.f CU.k (LI A) (x : Int)).isSome = true
   rw [cB_f hA hx'.1 hx'.2.1 CU.k (by decide)]
   rfl
end
end Go.Proofs.YtbghfbhlbfcloaaGreatDoor.PL
