/- Put together by this session's program pack.py. -/
import Derived.Below
import Derived.Deep.Draws
import Derived.Deep.AppendLies
import Derived.Maps.AppendAt
import Derived.OwnWalk
import Derived.Laws.BytesArg
import Derived.Laws.MakeOwn
import Derived.Laws.OwnMore
import Derived.Deep.OwnRows
import Derived.Tactics
import Derived.Lib.ConvBytes
import Derived.Laws.Slices
import Derived.WalkKit
import Derived.KernelRfl
import Derived.RowKit3
import Derived.Deep.LoopGhost
import Derived.Deep.QuietTactic
import Derived.BigQuiet
import Derived.WideLaws
import Derived.Deep.DeepCutAuto
import Derived.Deep.CutBlock
import Derived.Deep.RegionHeld3
import Derived.Laws.Rows
import Derived.Lib.AppendStr
import Derived.ArgAppend
import Derived.Laws.IdiomCopy
import Derived.OrdersHeld
import Derived.Laws.BitsLemmas
import Derived.RowKit
import Derived.Sort.Grow
import Derived.Shelf.SlSortCmp.InsertionK
import Derived.WalkSpells
import Derived.Shelf.SlGeneric
import Derived.Shelf.SlSortCmp.NoneTotal
import Derived.Ground.SlsfProg
import Derived.RangeFuncNested
import Derived.RangeFuncBound
import Derived.RangeFuncCalls
import Derived.RangeFuncLeaves
import Derived.Shelf.Abstract
import Derived.Shelf.RegionOpen
import Derived.OwnWalkIn
import Derived.TacticsInMore
import Derived.LoopNIn
import Derived.LoopIn
import Derived.OrdersIn
import Derived.RangeFuncKeeps
import Derived.RangeFuncWrites
import Derived.Shelf.SlicesQ.IndexFunc
import Derived.Shelf.GgClosure.StringsIndexFuncTop
import Derived.Ground.SlgfProg
import Derived.Ground.GgwProg
import Derived.Test.YtbghfbhlbfcloaaGreatDoorVw0
import Derived.Test.YtbghfbhlbfcloaaGreatDoorVp0
import Derived.Test.YtbghfbhlbfcloaaGreatDoorVp1
import Derived.Test.YtbghfbhlbfcloaaGreatDoorVp2
namespace Go.Proofs.YtbghfbhlbfcloaaGreatDoor.PL
section
open Go.RowKit Go.Proofs.YtbghfbhlbfcloaaGreatDoorW.PrintWords Go.Proofs.YtbghfbhlbfcloaaGreatDoorW.PrintLast Go.Proofs.YtbghfbhlbfcloaaGreatDoorW.PrintMore
attribute [local go_sem] zBv zBt zC5 zC4 zBo zBn zBu zBs   -- for this text's walks alone
set_option linter.unusedVariables false
set_option linter.unusedSimpArgs false
def zB4.l0 : Nat → List Int → List Int → Int → List Int → List Int → Int → Int → Option (List Int × Int)
 | 0, _, _, _, _, _, _, _ => none
 | k + 1, x1, x6, x7, x9, x26, x27, x28 => if x28 < x27 then (if 0 ≤ x28 then (if x28 < (x26.length : Int) then (if (x1.length : Int) > 2 then (if 0 ≤ (rd x26 x28) then ((zAi.f k x6 (Go.bits .andNot .u64 x7 (shl .u64 1 (rd x26 x28)))).bind fun t193 => (if t193 = true then (zB4.l0 k x1 x6 x7 x9 x26 x27 (wrap64 (x28 + 1))) else (if x9.length < 17592186044416 then (zB4.l0 k x1 x6 x7 (x9 ++ [rd x26 x28]) x26 x27 (wrap64 (x28 + 1))) else (none)))) else (none)) else (zB4.l0 k x1 x6 x7 x9 x26 x27 (wrap64 (x28 + 1)))) else (none)) else (none)) else (some (x9, 0))
def zB4.f (k : Nat) (a0_0 : Int) (l0_1 : List (S58)) (l1 : List Int) : Option (List Int × Int) := (zBi.f k a0_0 l0_1 l1).bind fun bt186 => (if bt186.2.2 = 0 then ((zAi.f k bt186.1 bt186.2.1).bind fun t191 => (if t191 = true then (zB4.l0 k l1 bt186.1 bt186.2.1 ([] : List Int) l1 (l1.length : Int) 0) else (some (([] : List Int), 17)))) else (some (([] : List Int), bt186.2.2)))
theorem zB4.zBw : ∀ k, (∀ y0 y1 y2 y3 y4 y5 y6, LeO (zB4.l0 k y0 y1 y2 y3 y4 y5 y6) (zB4.l0 (k + 1) y0 y1 y2 y3 y4 y5 y6))
 | 0 => fun _ _ _ _ _ _ _ r h => by simp [zB4.l0] at h
 | k + 1 => by
  have ih0 := zB4.zBw k
  ·intro y0 y1 y2 y3 y4 y5 y6
   unfold zB4.l0
   repeat' first
   | (with_reducible exact ih0 _ _ _ _ _ _ _)
   | (with_reducible exact zAi.mono _ _ _)
   | (with_reducible exact zBi.mono _ _ _ _)
   | (with_reducible exact LeO.refl _)
   | (with_reducible exact LeO.none _)
   | (with_reducible refine LeO.ite ?_ ?_)
   | (with_reducible refine LeO.bind ?_ (fun _ => ?_))
theorem zB4.mono : ∀ a0 a1 a2 k, LeO (zB4.f k a0 a1 a2) (zB4.f (k + 1) a0 a1 a2) := by
 intro a0 a1 a2 k
 have ih0 := zB4.zBw k
 unfold zB4.f
 repeat' first
   | (with_reducible exact ih0 _ _ _ _ _ _ _)
   | (with_reducible exact zAi.mono _ _ _)
   | (with_reducible exact zBi.mono _ _ _ _)
   | (with_reducible exact LeO.refl _)
   | (with_reducible exact LeO.none _)
   | (with_reducible refine LeO.ite ?_ ?_)
   | (with_reducible refine LeO.bind ?_ (fun _ => ?_))
set_option maxHeartbeats 8000000 in
set_option maxRecDepth 100000 in
theorem zB4.calls (k : Nat) (a0_0 : Int) (A0_1 : Option Addr) (c0_1 : Nat) (l0_1 : List (S58)) (A1 : Option Addr) (c1 : Nat) (l1 : List Int) (r1 : List Int) (r2 : Int) (w : World) (hr0_1 : Kd.C k58 w A0_1 l0_1.length l0_1) (hc0_1 : l0_1.length ≤ c0_1) (hr1 : Kd.C (Kd.int .i64) w A1 l1.length l1) (hc1 : l1.length ≤ c1) (hG : Kd.C (Kd.int .u8) w (some tabA) tabL.length tabL) (h : zB4.f k a0_0 l0_1 l1 = some (r1, r2)) :
  Calls Tryz.prog 15 #[.agg #[.int .i64 a0_0, .slice A0_1 l0_1.length c0_1], .slice A1 l1.length c1] w fun e w' => ∃ v0_ : Value, e = .returned (.tuple #[v0_, .int .i64 r2]) ∧ Kd.R (Kd.int .i64) 3 w' w.heap.size (fun _ => True) v0_ r1 ∧ Below w.heap.size w w' := by
 have hu28 := Tryz.underlying28
 have HR0_1 := zA1.mk hr0_1
 have HC0_1 := zA1.mk hc0_1
 clear hr0_1 hc0_1
 have HR1 := zA1.mk hr1
 have HC1 := zA1.mk hc1
 clear hr1 hc1
 have HB := zA1.mk (Below.refl w.heap.size w)
 have HG := zA1.mk hG
 clear hG
 have H : ((zBi.f k a0_0 l0_1 l1).bind fun bt186 => (if bt186.2.2 = 0 then ((zAi.f k bt186.1 bt186.2.1).bind fun t191 => (if t191 = true then (zB4.l0 k l1 bt186.1 bt186.2.1 ([] : List Int) l1 (l1.length : Int) 0) else (some (([] : List Int), 17)))) else (some (([] : List Int), bt186.2.2)))) = some (r1, r2) := h
 clear h
 replace H := Option.bind_eq_some_iff.mp H
 obtain ⟨⟨t186, t189, t190⟩, A30, H⟩ := H
 replace H : (if t190 = 0 then ((zAi.f k t186 t189).bind fun t191 => (if t191 = true then (zB4.l0 k l1 t186 t189 ([] : List Int) l1 (l1.length : Int) 0) else (some (([] : List Int), 17)))) else (some (([] : List Int), t190))) = some (r1, r2) := H
 have A3 := zA1.mk A30
 clear A30
 by_cases c4 : t190 = 0
 ·rw [if_pos c4] at H
  have c4b0 : (t190 == 0) = true := beq_iff_eq.mpr c4
  have c4b1 : (t190 != 0) = false := bne_eq_false_iff_eq.mpr c4
  clear c4
  replace H := Option.bind_eq_some_iff.mp H
  obtain ⟨t191, A50, H⟩ := H
  replace H : (if t191 = true then (zB4.l0 k l1 t186 t189 ([] : List Int) l1 (l1.length : Int) 0) else (some (([] : List Int), 17))) = some (r1, r2) := H
  have A5 := zA1.mk A50
  clear A50
  by_cases c6 : t191 = true
  ·subst c6
   have H1 : (zB4.l0 k l1 t186 t189 ([] : List Int) l1 (l1.length : Int) 0) = some (r1, r2) := by rw [if_pos rfl] at H; exact H
   clear H
   have H := H1
   clear H1
   have H' := zA1.mk H
   clear H
   go_enter Tryz.func15, Tryz.ntmps15
   go_wp2_with (first | ((with_reducible refine zBk (N := 2) rfl ?_); refine zBl ?hg (N := 2) ?hd (cs := #[.int .i64 a0_0, .slice A0_1 l0_1.length c0_1]) (t := 28) ?hr ?_; (case hd => rfl); (case hg => rfl); (case hr => first | (go_simp; done) | (go_simp; rfl)); intro gb185 hg w7 hbox hb; have n0_ := zA1.mk (zAg (by repeat (first | (with_reducible first | exact HB.out | apply zA2 | apply zA0 | apply zA3) | exact HB.out)) hb); have n1_ := zA1.mk (hbox); have n2_ := zA1.mk ((by rw [hg]; exact (zAb (by repeat (first | (with_reducible first | exact HB.out | apply zA2 | apply zA0 | apply zA3) | exact HB.out))) : w.heap.size ≤ gb185)); have n3_ := zA1.mk ((by rw [hg]; exact (zAb (by repeat (first | (with_reducible first | exact HB.out | apply zA2 | apply zA0 | apply zA3) | exact HB.out))) : w.heap.size ≤ gb185)); clear HB; have HB := n0_; have BK185 := n1_; have GW185 := n2_; have GE185 := n3_; clear n0_ n1_ n2_ n3_; clear hb hbox hg; have hcz8_0 : w7.cell? ⟨gb185, 0, none⟩ = some (.int .i64 a0_0) := (zA9 BK185.out 0).trans rfl; have hcz8_1 : w7.cell? ⟨gb185, 1, none⟩ = some (.slice A0_1 l0_1.length c0_1) := (zA9 BK185.out 1).trans rfl; have hfz8_0 := zAd BK185.out 0; have hfz8_1 := zAd BK185.out 1) | ((with_reducible refine zAy (f := 27) rfl ?_); refine zBz (some 15) rfl rfl Tryz.func27 (by kernel_rfl) rfl #[.agg #[.int .i64 a0_0, .slice A0_1 l0_1.length c0_1], .slice A1 l1.length c1] rfl (by (try simp only [List.map_toArray, List.map_cons, List.map_nil]); first | done | rfl | (simp only [List.length_drop, List.length_take]; rfl)) ?_; (with_reducible refine (zBi.calls k a0_0 _ _ l0_1 _ _ l1 t186 t189 t190 _ ?side1 ?side2 ?side3 ?side4 A3.out).mono ?_); (case side1 => repeat (first | exact (Kd.zAx HR0_1.out HB.out) | (with_reducible refine Kd.zAj ?_ _) | (with_reducible refine Kd.zAr ?_ _) | (with_reducible refine Kd.zB9 ?_))); (case side2 => exact HC0_1.out); (case side3 => repeat (first | exact (Kd.zAx HR1.out HB.out) | (with_reducible refine Kd.zAj ?_ _) | (with_reducible refine Kd.zAr ?_ _) | (with_reducible refine Kd.zB9 ?_))); (case side4 => exact HC1.out); rintro e w9 ⟨v187, rfl, ho0, hb⟩; refine ⟨_, rfl, ?_⟩; have n0_ := zA1.mk (Kd.R_lower ho0 (zAb (by repeat (first | (with_reducible first | exact HB.out | apply zA2 | apply zA0 | apply zA3 | refine zA5 ?_ GE185.out) | exact HB.out)))); have n1_ := zA1.mk (zAq (g := gb185) (o := .cells #[.int .i64 a0_0, .slice A0_1 l0_1.length c0_1] 28 (0, 0)) (by (with_reducible repeat (first | refine zA7 ?_ _ | refine zA8 ?_ | refine zA6 ?_ _)); exact BK185.out) hb); have n2_ := zA1.mk (zAg (by repeat (first | (with_reducible first | exact HB.out | apply zA2 | apply zA0 | apply zA3 | refine zA5 ?_ GE185.out) | exact HB.out)) hb); clear BK185; clear HB; have HO188 := n0_; have BK185 := n1_; have HB := n2_; clear n0_ n1_ n2_; (try clear hb); (try clear hb2); (try clear hk); (try clear hi); (try clear ho0); obtain ⟨Ao10, co10, eo10⟩ := Kd.zC3 HO188.out; subst eo10) | ((with_reducible refine zAy (f := 35) rfl ?_); refine zBz (some 24) rfl rfl Tryz.func35 (by kernel_rfl) rfl #[.slice Ao10 t186.length co10, .int .u64 t189] rfl (by (try simp only [List.map_toArray, List.map_cons, List.map_nil]); first | done | rfl | (simp only [List.length_drop, List.length_take]; rfl)) ?_; (with_reducible refine (zAi.calls k _ _ t186 t189 true _ ?side1 ?side2 ?side3 A5.out).mono ?_); (case side1 => repeat (first | exact (Kd.zAz HO188.out).2.2 | (with_reducible refine Kd.zAj ?_ _) | (with_reducible refine Kd.zAr ?_ _) | (with_reducible refine Kd.zB9 ?_))); (case side2 => exact (Kd.zAz HO188.out).2.1); (case side3 => repeat (first | exact (Kd.zAx HG.out HB.out) | (with_reducible refine Kd.zAj ?_ _) | (with_reducible refine Kd.zAr ?_ _) | (with_reducible refine Kd.zB9 ?_))); rintro e w11 ⟨rfl, hb⟩; refine ⟨_, rfl, ?_⟩; have n0_ := zA1.mk (Kd.zBg (by (with_reducible repeat (first | apply Kd.zAf | apply Kd.zAe | apply Kd.zAh)); exact HO188.out) hb); have n1_ := zA1.mk (zAq (g := gb185) (o := .cells #[.int .i64 a0_0, .slice A0_1 l0_1.length c0_1] 28 (0, 0)) (by (with_reducible repeat (first | refine zA7 ?_ _ | refine zA8 ?_ | refine zA6 ?_ _)); exact BK185.out) hb); have n2_ := zA1.mk (zAg (by repeat (first | (with_reducible first | exact HB.out | apply zA2 | apply zA0 | apply zA3 | refine zA5 ?_ GE185.out) | exact HB.out)) hb); clear HO188; clear BK185; clear HB; have HO188 := n0_; have BK185 := n1_; have HB := n2_; clear n0_ n1_ n2_; (try clear hb); (try clear hb2); (try clear hk); (try clear hi)))
   go_loopg [9, 28] k (fun kq v9 v28 w' => ∃ (x9_1 : List Int) (x28_1 : Int), v28 = .int .i64 x28_1 ∧ zA1 (zB4.l0 kq l1 t186 t189 x9_1 l1 (l1.length : Int) x28_1 = some (r1, r2)) ∧ zA1 (kq ≤ k) ∧ zA1 (Kd.R (Kd.int .u64) 65 w' w.heap.size (fun _ => True) (.slice Ao10 t186.length co10) t186) ∧ zA1 (Kd.R (Kd.int .i64) 3 w' w.heap.size (fun _ => True) v9 x9_1) ∧ zA1 (w'.heap[gb185]? = some (.cells #[.int .i64 a0_0, (.slice A0_1 l0_1.length c0_1)] 28 (0, 0))) ∧ zA1 (Below w.heap.size w w'))
   case atStart => exact ⟨(([] : List Int)), (0), (by first | rfl | (simp; done) | (simp [*]; done)), H', ⟨Nat.le_refl _⟩, ⟨by (with_reducible repeat (first | apply Kd.zAf | apply Kd.zAe | apply Kd.zAh)); exact HO188.out⟩, ⟨by first | exact Kd.R_nil _ _ _ _ _ | exact Kd.N_nil _ _ _ _ _ | exact Kd.V_nil _ _ _ _ _ | exact Kd.Q_nil _ _ _ _ _ | exact Kd.S_nil _ _ _ _ _⟩, ⟨by (with_reducible repeat (first | refine zA7 ?_ _ | refine zA8 ?_ | refine zA6 ?_ _)); exact BK185.out⟩, ⟨by repeat (first | (with_reducible first | exact HB.out | apply zA2 | apply zA0 | apply zA3 | refine zA5 ?_ GE185.out) | exact HB.out)⟩⟩
   case round =>
    clear H'
    try clear c1
    try clear c2
    try clear p2
    try clear c3
    try clear c4
    try clear c4b0
    try clear c4b1
    try clear c6
    try clear hcz8_0
    try clear hcz8_1
    try clear hfz8_0
    try clear hfz8_1
    obtain ⟨x9_1, x28_1, rfl, HA, HK1, HO_6, HO_9, BK185, HB⟩ := hrel
    cases gk with
    | zero => exact absurd HA.out (by simp [zB4.l0])
    | succ k1 =>
     have H := HA.out
     clear HA
     simp only [zB4.l0] at H
     by_cases c12 : x28_1 < (l1.length : Int)
     ·rw [if_pos c12] at H
      have c12b0 : decide (x28_1 < (l1.length : Int)) = true := decide_eq_true c12
      clear c12
      by_cases c13 : 0 ≤ x28_1
      rotate_left
      ·rw [if_neg c13] at H
       exact absurd H (by simp)
      rw [if_pos c13] at H
      have c13b0 : decide (0 ≤ x28_1) = true := decide_eq_true c13
      clear c13
      by_cases c14 : x28_1 < (l1.length : Int)
      rotate_left
      ·rw [if_neg c14] at H
       exact absurd H (by simp)
      rw [if_pos c14] at H
      have c14b0 : decide (x28_1 < (l1.length : Int)) = true := decide_eq_true c14
      clear c14
      by_cases c15 : (l1.length : Int) > 2
      ·rw [if_pos c15] at H
       have c15b0 : decide (2 < (l1.length : Int)) = true := decide_eq_true c15
       have c15b1 : decide (2 < l1.length) = true := decide_eq_true (by omega)
       clear c15
       by_cases c16 : 0 ≤ (rd l1 x28_1)
       rotate_left
       ·rw [if_neg c16] at H
        exact absurd H (by simp)
       rw [if_pos c16] at H
       have c16b0 := eq_true c16
       have c16b1 : decide (0 ≤ (rd l1 x28_1)) = true := decide_eq_true c16
       clear c16
       obtain ⟨ji17, hji17⟩ : ∃ j_ : Int, (shl .u64 1 (rd l1 x28_1)) = j_ := ⟨_, rfl⟩
       replace H : ((zAi.f k1 t186 (Go.bits .andNot .u64 t189 (ji17))).bind fun t193 => (if t193 = true then (zB4.l0 k1 l1 t186 t189 x9_1 l1 (l1.length : Int) (wrap64 (x28_1 + 1))) else (if x9_1.length < 17592186044416 then (zB4.l0 k1 l1 t186 t189 (x9_1 ++ [rd l1 x28_1]) l1 (l1.length : Int) (wrap64 (x28_1 + 1))) else (none)))) = some (r1, r2) := by first | (rw [hji17] at H; exact H) | (simp only [hji17] at H ⊢; exact H)
       have hji17_ : (IntKind.u64.wrap (1 * 2 ^ min (rd l1 x28_1).toNat 64)) = ji17 := hji17
       have hji17z : (rd l1 x28_1) ≤ 64 → (IntKind.u64.wrap (1 * 2 ^ (rd l1 x28_1).toNat)) = ji17 := shl_small hji17
       have hji17u : (IntKind.u64.wrap (2 ^ min (rd l1 x28_1).toNat 64)) = ji17 := by have h_ := hji17_; rw [Int.one_mul] at h_; exact h_
       have hji17v : (rd l1 x28_1) ≤ 64 → (IntKind.u64.wrap (2 ^ (rd l1 x28_1).toNat)) = ji17 := fun hle_ => by have h_ := hji17z hle_; rw [Int.one_mul] at h_; exact h_
       replace H := Option.bind_eq_some_iff.mp H
       obtain ⟨t193, A180, H⟩ := H
       replace H : (if t193 = true then (zB4.l0 k1 l1 t186 t189 x9_1 l1 (l1.length : Int) (wrap64 (x28_1 + 1))) else (if x9_1.length < 17592186044416 then (zB4.l0 k1 l1 t186 t189 (x9_1 ++ [rd l1 x28_1]) l1 (l1.length : Int) (wrap64 (x28_1 + 1))) else (none))) = some (r1, r2) := H
       have A18 := zA1.mk A180
       clear A180
       by_cases c19 : t193 = true
       ·subst c19
        have H1 : (zB4.l0 k1 l1 t186 t189 x9_1 l1 (l1.length : Int) (wrap64 (x28_1 + 1))) = some (r1, r2) := by rw [if_pos rfl] at H; exact H
        clear H
        have H := H1
        clear H1
        have H' := zA1.mk H
        clear H
        have p192 : 0 ≤ (x28_1 : Int) := of_decide_eq_true (by first | (with_reducible assumption) | assumption)
        have q192 : x28_1 < (l1.length : Int) := of_decide_eq_true (by first | (with_reducible assumption) | assumption)
        obtain ⟨ad192, e192, hx192_0⟩ := Kd.zCb HR1.out x28_1 p192 q192
        cases e192
        replace hx192_0 := (HB.out.cell (World.block_lt_of_cell? w _ hx192_0)).trans hx192_0
        replace p192 := eq_true p192
        replace q192 := eq_true q192
        go_wp2_with (first | (go_at_call 35; (with_reducible refine (zAi.calls k1 _ _ t186 (Go.bits .andNot .u64 t189 (ji17)) true _ ?side1 ?side2 ?side3 A18.out).mono ?_); (case side1 => repeat (first | exact (Kd.zAz HO_6.out).2.2 | (with_reducible refine Kd.zAj ?_ _) | (with_reducible refine Kd.zAr ?_ _) | (with_reducible refine Kd.zB9 ?_))); (case side2 => exact (Kd.zAz HO_6.out).2.1); (case side3 => repeat (first | exact (Kd.zAx HG.out HB.out) | (with_reducible refine Kd.zAj ?_ _) | (with_reducible refine Kd.zAr ?_ _) | (with_reducible refine Kd.zB9 ?_))); rintro e w20 ⟨rfl, hb⟩; have n0_ := zA1.mk (Kd.zBg (by (with_reducible repeat (first | apply Kd.zAf | apply Kd.zAe | apply Kd.zAh)); exact HO_6.out) hb); have n1_ := zA1.mk (Kd.zBg (by (with_reducible repeat (first | apply Kd.zAf | apply Kd.zAe | apply Kd.zAh)); exact HO_9.out) hb); have n2_ := zA1.mk (zAq (g := gb185) (o := .cells #[.int .i64 a0_0, .slice A0_1 l0_1.length c0_1] 28 (0, 0)) (by (with_reducible repeat (first | refine zA7 ?_ _ | refine zA8 ?_ | refine zA6 ?_ _)); exact BK185.out) hb); have n3_ := zA1.mk (zAg (by repeat (first | (with_reducible first | exact HB.out | apply zA2 | apply zA0 | apply zA3 | refine zA5 ?_ GE185.out) | exact HB.out)) hb); clear HO_6; clear HO_9; clear BK185; clear HB; have HO_6 := n0_; have HO_9 := n1_; have BK185 := n2_; have HB := n3_; clear n0_ n1_ n2_ n3_; (try clear hb); (try clear hb2); (try clear hk); (try clear hi)))
        go_roundg k1
        case measure => have := HK1.out; omega
        case rel => exact ⟨(x9_1), (wrap64 (x28_1 + 1)), (by first | rfl | (simp; done) | (simp [*]; done)), H', ⟨by have := HK1.out; omega⟩, ⟨by (with_reducible repeat (first | apply Kd.zAf | apply Kd.zAe | apply Kd.zAh)); exact HO_6.out⟩, ⟨by (with_reducible repeat (first | apply Kd.zAf | apply Kd.zAe | apply Kd.zAh)); exact HO_9.out⟩, ⟨by (with_reducible repeat (first | refine zA7 ?_ _ | refine zA8 ?_ | refine zA6 ?_ _)); exact BK185.out⟩, ⟨by repeat (first | (with_reducible first | exact HB.out | apply zA2 | apply zA0 | apply zA3 | refine zA5 ?_ GE185.out) | exact HB.out)⟩⟩
       ·replace c19 := Bool.eq_false_iff.mpr c19
        subst c19
        have H1 : (if x9_1.length < 17592186044416 then (zB4.l0 k1 l1 t186 t189 (x9_1 ++ [rd l1 x28_1]) l1 (l1.length : Int) (wrap64 (x28_1 + 1))) else (none)) = some (r1, r2) := by rw [if_neg (show ¬ (false = true) by decide)] at H; exact H
        clear H
        have H := H1
        clear H1
        by_cases c21 : x9_1.length < 17592186044416
        rotate_left
        ·rw [if_neg c21] at H
         exact absurd H (by simp)
        rw [if_pos c21] at H
        have LMc21 := zA1.mk c21
        clear c21
        obtain ⟨y194, hy194⟩ : ∃ y_ : List Int, y_ = (x9_1 ++ [rd l1 x28_1]) := ⟨_, rfl⟩
        replace H : (zB4.l0 k1 l1 t186 t189 y194 l1 (l1.length : Int) (wrap64 (x28_1 + 1))) = some (r1, r2) := by first | (rw [hy194]; with_reducible exact H) | (have H2_ := (Option.bind_some _ _).symm.trans H; rw [hy194]; with_reducible exact H2_) | (have H2_ := (Option.bind_some _ _).symm.trans H; with_reducible exact H2_) | with_reducible exact H | (rw [hy194]; exact H) | exact H
        have Ny194 := zA1.mk hy194
        clear hy194
        have H' := zA1.mk H
        clear H
        have p192 : 0 ≤ (x28_1 : Int) := of_decide_eq_true (by first | (with_reducible assumption) | assumption)
        have q192 : x28_1 < (l1.length : Int) := of_decide_eq_true (by first | (with_reducible assumption) | assumption)
        obtain ⟨ad192, e192, hx192_0⟩ := Kd.zCb HR1.out x28_1 p192 q192
        cases e192
        replace hx192_0 := (HB.out.cell (World.block_lt_of_cell? w _ hx192_0)).trans hx192_0
        replace p192 := eq_true p192
        replace q192 := eq_true q192
        go_wp2_with (first | (go_at_call 35; (with_reducible refine (zAi.calls k1 _ _ t186 (Go.bits .andNot .u64 t189 (ji17)) false _ ?side1 ?side2 ?side3 A18.out).mono ?_); (case side1 => repeat (first | exact (Kd.zAz HO_6.out).2.2 | (with_reducible refine Kd.zAj ?_ _) | (with_reducible refine Kd.zAr ?_ _) | (with_reducible refine Kd.zB9 ?_))); (case side2 => exact (Kd.zAz HO_6.out).2.1); (case side3 => repeat (first | exact (Kd.zAx HG.out HB.out) | (with_reducible refine Kd.zAj ?_ _) | (with_reducible refine Kd.zAr ?_ _) | (with_reducible refine Kd.zB9 ?_))); rintro e w22 ⟨rfl, hb⟩; have n0_ := zA1.mk (Kd.zBg (by (with_reducible repeat (first | apply Kd.zAf | apply Kd.zAe | apply Kd.zAh)); exact HO_6.out) hb); have n1_ := zA1.mk (Kd.zBg (by (with_reducible repeat (first | apply Kd.zAf | apply Kd.zAe | apply Kd.zAh)); exact HO_9.out) hb); have n2_ := zA1.mk (zAq (g := gb185) (o := .cells #[.int .i64 a0_0, .slice A0_1 l0_1.length c0_1] 28 (0, 0)) (by (with_reducible repeat (first | refine zA7 ?_ _ | refine zA8 ?_ | refine zA6 ?_ _)); exact BK185.out) hb); have n3_ := zA1.mk (zAg (by repeat (first | (with_reducible first | exact HB.out | apply zA2 | apply zA0 | apply zA3 | refine zA5 ?_ GE185.out) | exact HB.out)) hb); clear HO_6; clear HO_9; clear BK185; clear HB; have HO_6 := n0_; have HO_9 := n1_; have BK185 := n2_; have HB := n3_; clear n0_ n1_ n2_ n3_; (try clear hb); (try clear hb2); (try clear hk); (try clear hi)) | ((with_reducible refine zCf (b := .append) (xs := #[.tmp 44, .tmp 46]) rfl ?_); at_builtin; refine Kd.R_append (Kd.int .i64) (w0 := w) w.heap.size rfl (.tmp 44) (.tmp 46) 23 3 (.int .i64 0) 8 rfl Tryz.underlying23 info3 rfl (by decide) (by omega) u9 x9_1 (rd l1 x28_1) [.int .i64 (rd l1 x28_1)] (fun _ => True) (fun _ => False) rfl rfl ?aP (fun _ hk => hk.elim) ?aF ?aO ?aB ?aS ?aL ?_; (case aP => exact rfl); (case aB => exact (by repeat (first | (with_reducible first | exact HB.out | apply zA2 | apply zA0 | apply zA3 | refine zA5 ?_ GE185.out) | exact HB.out))); (case aF => exact (fun _ _ => trivial)); (case aO => exact (by (with_reducible repeat (first | apply Kd.zAf | apply Kd.zAe | apply Kd.zAh)); exact HO_9.out)); (case aS => exact (zAb (by repeat (first | (with_reducible first | exact HB.out | apply zA2 | apply zA0 | apply zA3 | refine zA5 ?_ GE185.out) | exact HB.out)))); (case aL => have := LMc21.out; omega); intro v195 w23 ho hb hg hat; rw [← Ny194.out] at ho; have n0_ := zA1.mk (Kd.R_over' (by (with_reducible repeat (first | apply Kd.zAf | apply Kd.zAe | apply Kd.zAh)); exact HO_6.out) (Kd.R_typed (by (with_reducible repeat (first | apply Kd.zAf | apply Kd.zAe | apply Kd.zAh)); exact HO_9.out)) (by decide) hg); have n1_ := zA1.mk (blk_grown (g := gb185) (o := .cells #[.int .i64 a0_0, .slice A0_1 l0_1.length c0_1] 28 (0, 0)) (by (with_reducible repeat (first | refine zA7 ?_ _ | refine zA8 ?_ | refine zA6 ?_ _)); exact BK185.out) hg (Kd.R_ne HO_9.out BK185.out (by decide))); have n2_ := zA1.mk (hb); have n3_ := zA1.mk (ho); clear HO_6; clear BK185; clear HB; clear HO_9; have HO_6 := n0_; have BK185 := n1_; have HB := n2_; have HO196 := n3_; clear n0_ n1_ n2_ n3_; clear ho hb hg hat))
        go_roundg k1
        case measure => have := HK1.out; omega
        case rel => exact ⟨(y194), (wrap64 (x28_1 + 1)), (by first | rfl | (simp; done) | (simp [*]; done)), H', ⟨by have := HK1.out; omega⟩, ⟨by (with_reducible repeat (first | apply Kd.zAf | apply Kd.zAe | apply Kd.zAh)); exact HO_6.out⟩, ⟨by (with_reducible repeat (first | apply Kd.zAf | apply Kd.zAe | apply Kd.zAh)); exact HO196.out⟩, ⟨by (with_reducible repeat (first | refine zA7 ?_ _ | refine zA8 ?_ | refine zA6 ?_ _)); exact BK185.out⟩, ⟨by repeat (first | (with_reducible first | exact HB.out | apply zA2 | apply zA0 | apply zA3 | refine zA5 ?_ GE185.out) | exact HB.out)⟩⟩
      ·rw [if_neg c15] at H
       have c15b0 : decide (2 < (l1.length : Int)) = false := decide_eq_false c15
       have c15b1 : decide (2 < l1.length) = false := decide_eq_false (by omega)
       clear c15
       have H' := zA1.mk H
       clear H
       have p192 : 0 ≤ (x28_1 : Int) := of_decide_eq_true (by first | (with_reducible assumption) | assumption)
       have q192 : x28_1 < (l1.length : Int) := of_decide_eq_true (by first | (with_reducible assumption) | assumption)
       obtain ⟨ad192, e192, hx192_0⟩ := Kd.zCb HR1.out x28_1 p192 q192
       cases e192
       replace hx192_0 := (HB.out.cell (World.block_lt_of_cell? w _ hx192_0)).trans hx192_0
       replace p192 := eq_true p192
       replace q192 := eq_true q192
       go_wp2
       go_roundg k1
       case measure => have := HK1.out; omega
       case rel => exact ⟨(x9_1), (wrap64 (x28_1 + 1)), (by first | rfl | (simp; done) | (simp [*]; done)), H', ⟨by have := HK1.out; omega⟩, ⟨by (with_reducible repeat (first | apply Kd.zAf | apply Kd.zAe | apply Kd.zAh)); exact HO_6.out⟩, ⟨by (with_reducible repeat (first | apply Kd.zAf | apply Kd.zAe | apply Kd.zAh)); exact HO_9.out⟩, ⟨by (with_reducible repeat (first | refine zA7 ?_ _ | refine zA8 ?_ | refine zA6 ?_ _)); exact BK185.out⟩, ⟨by repeat (first | (with_reducible first | exact HB.out | apply zA2 | apply zA0 | apply zA3 | refine zA5 ?_ GE185.out) | exact HB.out)⟩⟩
     ·rw [if_neg c12] at H
      have c12b0 : decide (x28_1 < (l1.length : Int)) = false := decide_eq_false c12
      clear c12
      simp only [Option.some.injEq, Prod.mk.injEq] at H
      obtain ⟨rfl, rfl⟩ := H
      go_wp2
      go_ret2
      exact ⟨_, by first | rfl | (simp [zAp, zAo] <;> rfl) | (simp [*, zAp, zAo] <;> rfl), by (with_reducible repeat (first | apply Kd.zAf | apply Kd.zAe | apply Kd.zAh)); exact HO_9.out, by repeat (first | (with_reducible first | exact HB.out | apply zA2 | apply zA0 | apply zA3 | refine zA5 ?_ GE185.out) | exact HB.out)⟩
  ·replace c6 := Bool.eq_false_iff.mpr c6
   subst c6
   have H1 : (some (([] : List Int), 17)) = some (r1, r2) := by rw [if_neg (show ¬ (false = true) by decide)] at H; exact H
   clear H
   have H := H1
   clear H1
   simp only [Option.some.injEq, Prod.mk.injEq] at H
   obtain ⟨rfl, rfl⟩ := H
   go_enter Tryz.func15, Tryz.ntmps15
   go_wp2_with (first | ((with_reducible refine zBk (N := 2) rfl ?_); refine zBl ?hg (N := 2) ?hd (cs := #[.int .i64 a0_0, .slice A0_1 l0_1.length c0_1]) (t := 28) ?hr ?_; (case hd => rfl); (case hg => rfl); (case hr => first | (go_simp; done) | (go_simp; rfl)); intro gb185 hg w24 hbox hb; have n0_ := zA1.mk (zAg (by repeat (first | (with_reducible first | exact HB.out | apply zA2 | apply zA0 | apply zA3) | exact HB.out)) hb); have n1_ := zA1.mk (hbox); have n2_ := zA1.mk ((by rw [hg]; exact (zAb (by repeat (first | (with_reducible first | exact HB.out | apply zA2 | apply zA0 | apply zA3) | exact HB.out))) : w.heap.size ≤ gb185)); have n3_ := zA1.mk ((by rw [hg]; exact (zAb (by repeat (first | (with_reducible first | exact HB.out | apply zA2 | apply zA0 | apply zA3) | exact HB.out))) : w.heap.size ≤ gb185)); clear HB; have HB := n0_; have BK185 := n1_; have GW185 := n2_; have GE185 := n3_; clear n0_ n1_ n2_ n3_; clear hb hbox hg; have hcz25_0 : w24.cell? ⟨gb185, 0, none⟩ = some (.int .i64 a0_0) := (zA9 BK185.out 0).trans rfl; have hcz25_1 : w24.cell? ⟨gb185, 1, none⟩ = some (.slice A0_1 l0_1.length c0_1) := (zA9 BK185.out 1).trans rfl; have hfz25_0 := zAd BK185.out 0; have hfz25_1 := zAd BK185.out 1) | ((with_reducible refine zAy (f := 27) rfl ?_); refine zBz (some 15) rfl rfl Tryz.func27 (by kernel_rfl) rfl #[.agg #[.int .i64 a0_0, .slice A0_1 l0_1.length c0_1], .slice A1 l1.length c1] rfl (by (try simp only [List.map_toArray, List.map_cons, List.map_nil]); first | done | rfl | (simp only [List.length_drop, List.length_take]; rfl)) ?_; (with_reducible refine (zBi.calls k a0_0 _ _ l0_1 _ _ l1 t186 t189 t190 _ ?side1 ?side2 ?side3 ?side4 A3.out).mono ?_); (case side1 => repeat (first | exact (Kd.zAx HR0_1.out HB.out) | (with_reducible refine Kd.zAj ?_ _) | (with_reducible refine Kd.zAr ?_ _) | (with_reducible refine Kd.zB9 ?_))); (case side2 => exact HC0_1.out); (case side3 => repeat (first | exact (Kd.zAx HR1.out HB.out) | (with_reducible refine Kd.zAj ?_ _) | (with_reducible refine Kd.zAr ?_ _) | (with_reducible refine Kd.zB9 ?_))); (case side4 => exact HC1.out); rintro e w26 ⟨v187, rfl, ho0, hb⟩; refine ⟨_, rfl, ?_⟩; have n0_ := zA1.mk (Kd.R_lower ho0 (zAb (by repeat (first | (with_reducible first | exact HB.out | apply zA2 | apply zA0 | apply zA3 | refine zA5 ?_ GE185.out) | exact HB.out)))); have n1_ := zA1.mk (zAq (g := gb185) (o := .cells #[.int .i64 a0_0, .slice A0_1 l0_1.length c0_1] 28 (0, 0)) (by (with_reducible repeat (first | refine zA7 ?_ _ | refine zA8 ?_ | refine zA6 ?_ _)); exact BK185.out) hb); have n2_ := zA1.mk (zAg (by repeat (first | (with_reducible first | exact HB.out | apply zA2 | apply zA0 | apply zA3 | refine zA5 ?_ GE185.out) | exact HB.out)) hb); clear BK185; clear HB; have HO188 := n0_; have BK185 := n1_; have HB := n2_; clear n0_ n1_ n2_; (try clear hb); (try clear hb2); (try clear hk); (try clear hi); (try clear ho0); obtain ⟨Ao27, co27, eo27⟩ := Kd.zC3 HO188.out; subst eo27) | ((with_reducible refine zAy (f := 35) rfl ?_); refine zBz (some 24) rfl rfl Tryz.func35 (by kernel_rfl) rfl #[.slice Ao27 t186.length co27, .int .u64 t189] rfl (by (try simp only [List.map_toArray, List.map_cons, List.map_nil]); first | done | rfl | (simp only [List.length_drop, List.length_take]; rfl)) ?_; (with_reducible refine (zAi.calls k _ _ t186 t189 false _ ?side1 ?side2 ?side3 A5.out).mono ?_); (case side1 => repeat (first | exact (Kd.zAz HO188.out).2.2 | (with_reducible refine Kd.zAj ?_ _) | (with_reducible refine Kd.zAr ?_ _) | (with_reducible refine Kd.zB9 ?_))); (case side2 => exact (Kd.zAz HO188.out).2.1); (case side3 => repeat (first | exact (Kd.zAx HG.out HB.out) | (with_reducible refine Kd.zAj ?_ _) | (with_reducible refine Kd.zAr ?_ _) | (with_reducible refine Kd.zB9 ?_))); rintro e w28 ⟨rfl, hb⟩; refine ⟨_, rfl, ?_⟩; have n0_ := zA1.mk (Kd.zBg (by (with_reducible repeat (first | apply Kd.zAf | apply Kd.zAe | apply Kd.zAh)); exact HO188.out) hb); have n1_ := zA1.mk (zAq (g := gb185) (o := .cells #[.int .i64 a0_0, .slice A0_1 l0_1.length c0_1] 28 (0, 0)) (by (with_reducible repeat (first | refine zA7 ?_ _ | refine zA8 ?_ | refine zA6 ?_ _)); exact BK185.out) hb); have n2_ := zA1.mk (zAg (by repeat (first | (with_reducible first | exact HB.out | apply zA2 | apply zA0 | apply zA3 | refine zA5 ?_ GE185.out) | exact HB.out)) hb); clear HO188; clear BK185; clear HB; have HO188 := n0_; have BK185 := n1_; have HB := n2_; clear n0_ n1_ n2_; (try clear hb); (try clear hb2); (try clear hk); (try clear hi)))
   go_ret2
   exact ⟨_, by first | rfl | (simp [zAp, zAo] <;> rfl) | (simp [*, zAp, zAo] <;> rfl), by first | exact Kd.R_nil _ _ _ _ _ | exact Kd.N_nil _ _ _ _ _ | exact Kd.V_nil _ _ _ _ _ | exact Kd.Q_nil _ _ _ _ _ | exact Kd.S_nil _ _ _ _ _, by repeat (first | (with_reducible first | exact HB.out | apply zA2 | apply zA0 | apply zA3 | refine zA5 ?_ GE185.out) | exact HB.out)⟩
 ·rw [if_neg c4] at H
  have c4b0 : (t190 == 0) = false := beq_eq_false_iff_ne.mpr c4
  have c4b1 : (t190 != 0) = true := bne_iff_ne.mpr c4
  simp only [Option.some.injEq, Prod.mk.injEq] at H
  obtain ⟨rfl, rfl⟩ := H
  go_enter Tryz.func15, Tryz.ntmps15
  go_wp2_with (first | ((with_reducible refine zBk (N := 2) rfl ?_); refine zBl ?hg (N := 2) ?hd (cs := #[.int .i64 a0_0, .slice A0_1 l0_1.length c0_1]) (t := 28) ?hr ?_; (case hd => rfl); (case hg => rfl); (case hr => first | (go_simp; done) | (go_simp; rfl)); intro gb185 hg w29 hbox hb; have n0_ := zA1.mk (zAg (by repeat (first | (with_reducible first | exact HB.out | apply zA2 | apply zA0 | apply zA3) | exact HB.out)) hb); have n1_ := zA1.mk (hbox); have n2_ := zA1.mk ((by rw [hg]; exact (zAb (by repeat (first | (with_reducible first | exact HB.out | apply zA2 | apply zA0 | apply zA3) | exact HB.out))) : w.heap.size ≤ gb185)); have n3_ := zA1.mk ((by rw [hg]; exact (zAb (by repeat (first | (with_reducible first | exact HB.out | apply zA2 | apply zA0 | apply zA3) | exact HB.out))) : w.heap.size ≤ gb185)); clear HB; have HB := n0_; have BK185 := n1_; have GW185 := n2_; have GE185 := n3_; clear n0_ n1_ n2_ n3_; clear hb hbox hg; have hcz30_0 : w29.cell? ⟨gb185, 0, none⟩ = some (.int .i64 a0_0) := (zA9 BK185.out 0).trans rfl; have hcz30_1 : w29.cell? ⟨gb185, 1, none⟩ = some (.slice A0_1 l0_1.length c0_1) := (zA9 BK185.out 1).trans rfl; have hfz30_0 := zAd BK185.out 0; have hfz30_1 := zAd BK185.out 1) | ((with_reducible refine zAy (f := 27) rfl ?_); refine zBz (some 15) rfl rfl Tryz.func27 (by kernel_rfl) rfl #[.agg #[.int .i64 a0_0, .slice A0_1 l0_1.length c0_1], .slice A1 l1.length c1] rfl (by (try simp only [List.map_toArray, List.map_cons, List.map_nil]); first | done | rfl | (simp only [List.length_drop, List.length_take]; rfl)) ?_; (with_reducible refine (zBi.calls k a0_0 _ _ l0_1 _ _ l1 t186 t189 t190 _ ?side1 ?side2 ?side3 ?side4 A3.out).mono ?_); (case side1 => repeat (first | exact (Kd.zAx HR0_1.out HB.out) | (with_reducible refine Kd.zAj ?_ _) | (with_reducible refine Kd.zAr ?_ _) | (with_reducible refine Kd.zB9 ?_))); (case side2 => exact HC0_1.out); (case side3 => repeat (first | exact (Kd.zAx HR1.out HB.out) | (with_reducible refine Kd.zAj ?_ _) | (with_reducible refine Kd.zAr ?_ _) | (with_reducible refine Kd.zB9 ?_))); (case side4 => exact HC1.out); rintro e w31 ⟨v187, rfl, ho0, hb⟩; refine ⟨_, rfl, ?_⟩; have n0_ := zA1.mk (Kd.R_lower ho0 (zAb (by repeat (first | (with_reducible first | exact HB.out | apply zA2 | apply zA0 | apply zA3 | refine zA5 ?_ GE185.out) | exact HB.out)))); have n1_ := zA1.mk (zAq (g := gb185) (o := .cells #[.int .i64 a0_0, .slice A0_1 l0_1.length c0_1] 28 (0, 0)) (by (with_reducible repeat (first | refine zA7 ?_ _ | refine zA8 ?_ | refine zA6 ?_ _)); exact BK185.out) hb); have n2_ := zA1.mk (zAg (by repeat (first | (with_reducible first | exact HB.out | apply zA2 | apply zA0 | apply zA3 | refine zA5 ?_ GE185.out) | exact HB.out)) hb); clear BK185; clear HB; have HO188 := n0_; have BK185 := n1_; have HB := n2_; clear n0_ n1_ n2_; (try clear hb); (try clear hb2); (try clear hk); (try clear hi); (try clear ho0)))
  go_ret2
  exact ⟨_, by first | rfl | (simp [zAp, zAo] <;> rfl) | (simp [*, zAp, zAo] <;> rfl), by first | exact Kd.R_nil _ _ _ _ _ | exact Kd.N_nil _ _ _ _ _ | exact Kd.V_nil _ _ _ _ _ | exact Kd.Q_nil _ _ _ _ _ | exact Kd.S_nil _ _ _ _ _, by repeat (first | (with_reducible first | exact HB.out | apply zA2 | apply zA0 | apply zA3 | refine zA5 ?_ GE185.out) | exact HB.out)⟩
end
end Go.Proofs.YtbghfbhlbfcloaaGreatDoor.PL
namespace Go.Proofs.YtbghfbhlbfcloaaGreatDoor.PL
section
set_option linter.unusedVariables false
set_option linter.unusedSimpArgs false
open Go.RowKit Go.Proofs.YtbghfbhlbfcloaaGreatDoorW.PrintWords Go.Proofs.YtbghfbhlbfcloaaGreatDoorW.PrintLast Go.Proofs.YtbghfbhlbfcloaaGreatDoorW.PrintMore
theorem cB_iff {A : List Nat} (hA : Gd A) {x : Nat} (hx : x < 64) (h0 : x ≠ 0) : cB A x = true ↔ IsP A x x := by
 obtain ⟨p, hp⟩ := piece_ex hA x hx h0
 unfold cB cnB
 rw [connected_f hA x p hx h0 hp CU.k (by decide)]
 show decide (p = x) = true ↔ _
 rw [decide_eq_true_iff]
 constructor
 ·intro h
  rw [h] at hp
  exact hp
 ·intro h
  exact hp.unique h
theorem lo_sub_tab : ((List.range 64).all fun m => (SB m).all fun x => !(x.testBit (lo m)) || (lo x == lo m)) = true := by kernel_rfl
theorem lo_sub {m x : Nat} (hm : m < 64) (hx : x ∈ SB m) (h : x.testBit (lo m) = true) : lo x = lo m := by
 have h1 := List.all_eq_true.1 (List.all_eq_true.1 lo_sub_tab m (List.mem_range.2 hm)) x hx
 rw [h] at h1
 exact eq_of_beq h1
theorem one_lo : ((List.range 6).all fun i => lo (2 ^ i) == i) = true := by kernel_rfl
theorem lo_one {i : Nat} (hi : i < 6) : lo (2 ^ i) = i := eq_of_beq (List.all_eq_true.1 one_lo i (List.mem_range.2 hi))
theorem pow6 {i : Nat} (h : i < 6) : 2 ^ i < 64 := Nat.pow_lt_pow_right (m := i) (n := 6) (by decide) h
theorem pow0 (i : Nat) : 2 ^ i ≠ 0 := Nat.pos_iff_ne_zero.1 (Nat.pow_pos (by decide))
theorem con_one {A : List Nat} {i : Nat} (hi : i < 6) : IsP A (2 ^ i) (2 ^ i) := by
 refine ⟨pow6 hi, by rw [lo_one hi, Nat.testBit_two_pow_self], fun _ _ _ _ _ _ h => h, fun q _ hl _ j _ hj => ?_⟩
 rw [Nat.testBit_two_pow] at hj
 rw [lo_one hi] at hl
 rw [← of_decide_eq_true hj]
 exact hl
theorem sub_SB {m x : Nat} (hx : x < 64) (h0 : x ≠ 0) (h : Sub x m) : x ∈ SB m := SB_mem.2 ⟨hx, h0, bit_ext (Nat.lt_of_le_of_lt Nat.and_le_left hx) hx fun i hi => by
 rw [Nat.testBit_and]
 cases e : x.testBit i with
 | false => rfl
 | true => rw [h i hi e]; rfl⟩
theorem SB_sub {m x : Nat} (h : x ∈ SB m) : Sub x m := fun i _ hb => by
 have h1 := (SB_mem.1 h).2.2
 rw [← h1, Nat.testBit_and, Bool.and_eq_true] at hb
 exact hb.2
theorem con_grow {A : List Nat} {m x i j : Nat} (hm : m < 64) (hx : IsP A x x) (hlo : lo x = lo m) (hi : i < 6) (hj : j < 6) (hxi : x.testBit i = true) (ha : ad A i j = true) (hml : (x ||| 2 ^ j) ∈ SB m) : IsP A (x ||| 2 ^ j) (x ||| 2 ^ j) := by
 have hlt : x ||| 2 ^ j < 64 := Nat.or_lt_two_pow (n := 6) hx.lt (pow6 hj)
 have hbit : ∀ k, (x ||| 2 ^ j).testBit k = (x.testBit k || decide (j = k)) := fun k => by rw [Nat.testBit_or, Nat.testBit_two_pow]
 have hl2 : lo (x ||| 2 ^ j) = lo m := lo_sub hm hml (by
  have := hx.low
  rw [hlo] at this
  rw [hbit, this]
  rfl)
 refine ⟨hlt, ?_, fun _ _ _ _ _ _ h => h, fun q hq hql hc k hk hkb => ?_⟩
 ·have := hx.low
  rw [hl2, hbit, ← hlo, this]
  rfl
 ·rw [hl2, ← hlo] at hql
  have hq' : q &&& x < 64 := Nat.lt_of_le_of_lt Nat.and_le_left hq
  have hsub : Sub x (q &&& x) := hx.least (q &&& x) hq' (by rw [Nat.testBit_and, hql, hx.low]; rfl) (fun a b ha' hb' hqa hab hxb => by
   rw [Nat.testBit_and, Bool.and_eq_true] at hqa
   rw [Nat.testBit_and, hxb, hc a b ha' hb' hqa.1 hab (by rw [hbit, hxb]; rfl)]
   rfl)
  have hin : ∀ a, a < 6 → x.testBit a = true → q.testBit a = true := fun a ha' h => by
   have h1 := hsub a ha' h
   rw [Nat.testBit_and, Bool.and_eq_true] at h1
   exact h1.1
  rw [hbit, Bool.or_eq_true, decide_eq_true_eq] at hkb
  rcases hkb with h | h
  ·exact hin k hk h
  ·subst h
   exact hc i j hi hj (hin i hi hxi) ha (by rw [hbit]; simp)
theorem con_leaf {A : List Nat} {m : Nat} (hm : m < 64) (hcm : IsP A m m) : ∀ (d x : Nat), m - x ≤ d → IsP A x x → x ∈ SB m → lo x = lo m → x ≠ m → ∃ j, j < 6 ∧ m.testBit j = true ∧ j ≠ lo m ∧ IsP A (wo m (2 ^ j)) (wo m (2 ^ j))
 | d, x, hd, hx, hxm, hlo, hne => by
  have hsx := SB_sub hxm
  have hle : x ≤ m := by
   have h1 := (SB_mem.1 hxm).2.2
   rw [← h1]
   exact Nat.and_le_right
  have hout : ∃ i j, i < 6 ∧ j < 6 ∧ x.testBit i = true ∧ ad A i j = true ∧ m.testBit j = true ∧ x.testBit j = false := by
   refine Classical.byContradiction fun h => hne ?_
   refine sub_antisymm hx.lt hm hsx (hcm.least x hx.lt (by have := hx.low; rw [hlo] at this; exact this) fun i j hi hj hxi ha hmj => ?_)
   cases e : x.testBit j with
   | true => rfl
   | false => exact absurd ⟨i, j, hi, hj, hxi, ha, hmj, e⟩ h
  obtain ⟨i, j, hi, hj, hxi, ha, hmj, hxj⟩ := hout
  have hbit : ∀ k, (x ||| 2 ^ j).testBit k = (x.testBit k || decide (j = k)) := fun k => by rw [Nat.testBit_or, Nat.testBit_two_pow]
  have hlt : x ||| 2 ^ j < 64 := Nat.or_lt_two_pow (n := 6) hx.lt (pow6 hj)
  have hsub : Sub (x ||| 2 ^ j) m := fun k hk h => by
   rw [hbit, Bool.or_eq_true, decide_eq_true_eq] at h
   rcases h with h | h
   ·exact hsx k hk h
   ·rw [← h]; exact hmj
  have hml : (x ||| 2 ^ j) ∈ SB m := sub_SB hlt (fun e => by
   have h1 := hbit j
   rw [e, Nat.zero_testBit] at h1
   simp at h1) hsub
  have hg := con_grow hm hx hlo hi hj hxi ha hml
  by_cases he : x ||| 2 ^ j = m
  ·refine ⟨j, hj, hmj, fun h => ?_, ?_⟩
   ·have := hx.low
    rw [hlo, ← h, hxj] at this
    cases this
   ·have hw : wo m (2 ^ j) = x := bit_ext (wo_lt m _ hm) hx.lt fun k hk => by
     rw [wo_bit m _ k hk, ← he, hbit, Nat.testBit_two_pow]
     by_cases hjk : j = k
     ·subst hjk
      rw [hxj]
      simp
     ·rw [decide_eq_false hjk]
      simp
    rw [hw]
    exact hx
  ·have hgt : x < x ||| 2 ^ j := by
    rcases Nat.lt_or_eq_of_le (show x ≤ x ||| 2 ^ j from Nat.left_le_or) with h | h
    ·exact h
    ·exfalso
     have h1 := hbit j
     rw [← h, hxj] at h1
     simp at h1
   cases d with
   | zero => exact absurd (Nat.le_antisymm hle (by omega)) hne
   | succ d =>
    refine con_leaf hm hcm d (x ||| 2 ^ j) (by omega) hg hml (lo_sub hm hml ?_) he
    have := hx.low
    rw [hlo] at this
    rw [hbit, this]
    rfl
theorem con_two {A : List Nat} {m : Nat} (hm : m < 64) (h0 : m ≠ 0) (hcm : IsP A m m) (h2 : 2 ≤ (EI m).length) : ∃ j, j < 6 ∧ m.testBit j = true ∧ j ≠ lo m ∧ IsP A (wo m (2 ^ j)) (wo m (2 ^ j)) := by
 obtain ⟨_, l2, l3, _⟩ := lo_f m hm h0
 have hone : 2 ^ lo m ∈ SB m := sub_SB (pow6 l3) (pow0 _) fun i _ h => by
  rw [Nat.testBit_two_pow] at h
  rw [← of_decide_eq_true h]
  exact l2
 refine con_leaf hm hcm m (2 ^ lo m) (Nat.sub_le _ _) (con_one l3) hone (lo_one l3) fun he => ?_
 have h1 : ((List.range 6).all fun i => decide ((EI (2 ^ i)).length = 1)) = true := by kernel_rfl
 have h3 := of_decide_eq_true (List.all_eq_true.1 h1 (lo m) (List.mem_range.2 l3))
 rw [he] at h3
 omega
theorem wo_less {A : List Nat} {m p : Nat} (hm : m < 64) (h0 : m ≠ 0) (hp : IsP A m p) : wo m p < m := by
 have hle : wo m p ≤ m := Nat.and_le_left
 rcases Nat.lt_or_eq_of_le hle with h | h
 ·exact h
 ·exfalso
  obtain ⟨_, l2, l3, _⟩ := lo_f m hm h0
  have h1 := wo_bit m p (lo m) l3
  rw [h, l2, hp.low] at h1
  cases h1
theorem pieces_one {A : List Nat} (hA : Gd A) : ∀ (d m : Nat), m ≤ d → m < 64 → ∀ (k : Nat) (out : List (List Int)), 700 + d + 1 ≤ k → out.length + m < 1000 →
  ∃ l, zB3.l0 k (LI A) (m : Int) out = some (out ++ l, 0) ∧ (m = 0 → l = []) ∧ (m ≠ 0 → 1 ≤ l.length) ∧ ∀ p, IsP A m p → m ≠ 0 → (p = m ↔ l.length = 1)
 | d, m, hd, hm, k, out, hk, ho => by
  obtain ⟨k, rfl⟩ : ∃ q, k = q + 1 := ⟨k - 1, by omega⟩
  by_cases h0 : m = 0
  ·subst h0
   refine ⟨[], ?_, fun _ => rfl, fun h => absurd rfl h, fun p _ h => absurd rfl h⟩
   rw [zB3.l0, if_pos (by simp), List.append_nil]
  ·obtain ⟨p, hpf, hp⟩ := piece_f hA m hm h0 k (by omega)
   have hless := wo_less hm h0 hp
   cases d with
   | zero => omega
   | succ d =>
    obtain ⟨l, h1, h5, h9, _⟩ := pieces_one hA d (wo m p) (by omega) (by omega) k (out ++ [EI p]) (by omega) (by simp; omega)
    refine ⟨EI p :: l, ?_, fun h => absurd h h0, fun _ => by simp, fun q hq _ => ?_⟩
    ·rw [zB3.l0, if_neg (by omega), hpf, Option.bind_some, listed_f k (by omega) p hp.lt, Option.bind_some, if_pos (by omega), andNotI m p hm hp.lt, h1, List.append_assoc]
     rfl
    ·obtain rfl := hp.unique hq
     rw [List.length_cons]
     constructor
     ·intro e
      have : wo m p = 0 := by
       refine bit_ext (wo_lt m p hm) (by decide) fun i hi => ?_
       rw [wo_bit m p i hi, e]
       simp
      rw [h5 this]
      rfl
     ·intro e
      by_cases hw : wo m p = 0
      ·refine bit_ext hp.lt hm fun i hi => ?_
       have h6 := wo_bit m p i hi
       rw [hw, Nat.zero_testBit] at h6
       cases e7 : m.testBit i with
       | true =>
        rw [e7] at h6
        simpa using h6.symm
       | false =>
        cases e8 : p.testBit i with
        | false => rfl
        | true => rw [hp.sub hm h0 i hi e8] at e7; cases e7
      ·exfalso
       have := h9 hw
       omega
end
end Go.Proofs.YtbghfbhlbfcloaaGreatDoor.PL
namespace Go.Proofs.YtbghfbhlbfcloaaGreatDoor.PL
section
open Go.RowKit Go.Proofs.YtbghfbhlbfcloaaGreatDoorW.PrintWords Go.Proofs.YtbghfbhlbfcloaaGreatDoorW.PrintLast Go.Proofs.YtbghfbhlbfcloaaGreatDoorW.PrintMore
attribute [local go_sem] zBv zBt zC5 zC4 zBo zBn zBu zBs   -- for this text's walks alone
set_option linter.unusedVariables false
set_option linter.unusedSimpArgs false
def zAt.l0 : Nat → List (List Int) → List Int → Int → Option (Bool)
 | 0, _, _, _ => none
 | k + 1, x0, x1, x5 => if x5 < (x0.length : Int) then (if 0 ≤ x5 then ((zB1.f k (rd_L1 x0 x5) x1).bind fun t338 => (if t338 = true then (some true) else (zAt.l0 k x0 x1 (wrap64 (x5 + 1))))) else (none)) else (some false)
def zAt.f (k : Nat) (l0 : List (List Int)) (l1 : List Int) : Option (Bool) := zAt.l0 k l0 l1 0
theorem zAt.zBw : ∀ k, (∀ y0 y1 y2, LeO (zAt.l0 k y0 y1 y2) (zAt.l0 (k + 1) y0 y1 y2))
 | 0 => fun _ _ _ r h => by simp [zAt.l0] at h
 | k + 1 => by
  have ih0 := zAt.zBw k
  ·intro y0 y1 y2
   unfold zAt.l0
   repeat' first
   | (with_reducible exact ih0 _ _ _)
   | (with_reducible exact zB1.mono _ _ _)
   | (with_reducible exact LeO.refl _)
   | (with_reducible exact LeO.none _)
   | (with_reducible refine LeO.ite ?_ ?_)
   | (with_reducible refine LeO.bind ?_ (fun _ => ?_))
theorem zAt.mono : ∀ a0 a1 k, LeO (zAt.f k a0 a1) (zAt.f (k + 1) a0 a1) := by
 intro a0 a1 k
 have ih0 := zAt.zBw k
 unfold zAt.f
 repeat' first
   | (with_reducible exact ih0 _ _ _)
   | (with_reducible exact zB1.mono _ _ _)
   | (with_reducible exact LeO.refl _)
   | (with_reducible exact LeO.none _)
   | (with_reducible refine LeO.ite ?_ ?_)
   | (with_reducible refine LeO.bind ?_ (fun _ => ?_))
set_option maxHeartbeats 8000000 in
set_option maxRecDepth 100000 in
theorem zAt.calls (k : Nat) (A0 : Option Addr) (c0 : Nat) (l0 : List (List Int)) (A1 : Option Addr) (c1 : Nat) (l1 : List Int) (r : Bool) (w : World) (hr0 : Kd.C (Kd.slice 3 (Kd.int .i64)) w A0 l0.length l0) (hc0 : l0.length ≤ c0) (hr1 : Kd.C (Kd.int .i64) w A1 l1.length l1) (hc1 : l1.length ≤ c1) (h : zAt.f k l0 l1 = some r) :
  Calls Tryz.prog 17 #[.slice A0 l0.length c0, .slice A1 l1.length c1] w fun e w' => e = .returned (.bool r) ∧ zB6 w w' := by
 have HR0 := zA1.mk hr0
 have HC0 := zA1.mk hc0
 clear hr0 hc0
 have HR1 := zA1.mk hr1
 have HC1 := zA1.mk hc1
 clear hr1 hc1
 have H : (zAt.l0 k l0 l1 0) = some r := h
 clear h
 have H' := zA1.mk H
 clear H
 go_enter Tryz.func17, Tryz.ntmps17
 go_wp2
 go_loopg [5] k (fun kq v5 w' => ∃ (x5_1 : Int), v5 = .int .i64 x5_1 ∧ zA1 (zAt.l0 kq l0 l1 x5_1 = some r) ∧ zA1 (kq ≤ k) ∧ zB6 w w')
 case atStart => exact ⟨(0), (by first | rfl | (simp; done) | (simp [*]; done)), H', ⟨Nat.le_refl _⟩, by repeat (first | exact zB6.refl _ | apply zB6.step)⟩
 case round =>
  clear H'
  try clear c1
  try clear p2
  obtain ⟨x5_1, rfl, HA, HK1, ⟨m1, rfl⟩⟩ := hrel
  cases gk with
  | zero => exact absurd HA.out (by simp [zAt.l0])
  | succ k1 =>
   have H := HA.out
   clear HA
   simp only [zAt.l0] at H
   by_cases c3 : x5_1 < (l0.length : Int)
   ·rw [if_pos c3] at H
    have c3b0 : decide (x5_1 < (l0.length : Int)) = true := decide_eq_true c3
    clear c3
    by_cases c4 : 0 ≤ x5_1
    rotate_left
    ·rw [if_neg c4] at H
     exact absurd H (by simp)
    rw [if_pos c4] at H
    have c4b0 : decide (0 ≤ x5_1) = true := decide_eq_true c4
    clear c4
    replace H := Option.bind_eq_some_iff.mp H
    obtain ⟨t338, A50, H⟩ := H
    replace H : (if t338 = true then (some true) else (zAt.l0 k1 l0 l1 (wrap64 (x5_1 + 1)))) = some r := H
    have A5 := zA1.mk A50
    clear A50
    by_cases c6 : t338 = true
    ·subst c6
     have H1 : (some true) = some r := by rw [if_pos rfl] at H; exact H
     clear H
     have H := H1
     clear H1
     obtain rfl := Option.some.inj H
     have p337 : 0 ≤ (x5_1 : Int) := of_decide_eq_true (by first | (with_reducible assumption) | assumption)
     have q337 : x5_1 < (l0.length : Int) := of_decide_eq_true (by first | (with_reducible assumption) | assumption)
     obtain ⟨ad337, A337_0, c337_0, e337, hx337_0, hl337_0, hi337_0⟩ := at_L1 HR0.out x5_1 p337 q337
     cases e337
     have HR337_0 := zA1.mk hi337_0
     have HC337_0 := zA1.mk hl337_0
     clear hi337_0 hl337_0
     replace p337 := eq_true p337
     replace q337 := eq_true q337
     go_wp2_with (first | ((with_reducible refine zAy (f := 26) rfl ?_); refine zBz (some 17) rfl rfl Tryz.func26 (by kernel_rfl) rfl #[.slice A337_0 (rd_L1 l0 x5_1).length c337_0, .slice A1 l1.length c1] rfl (by (try simp only [List.map_toArray, List.map_cons, List.map_nil]); first | done | rfl | (simp only [List.length_drop, List.length_take]; rfl)) ?_; (with_reducible refine (zB1.calls k1 _ _ (rd_L1 l0 x5_1) _ _ l1 true _ ?side1 ?side2 ?side3 ?side4 A5.out).mono ?_); (case side1 => repeat (first | exact HR337_0.out | (with_reducible refine Kd.zAj ?_ _) | (with_reducible refine Kd.zAr ?_ _) | (with_reducible refine Kd.zB9 ?_))); (case side2 => exact HC337_0.out); (case side3 => repeat (first | exact HR1.out | (with_reducible refine Kd.zAj ?_ _) | (with_reducible refine Kd.zAr ?_ _) | (with_reducible refine Kd.zB9 ?_))); (case side4 => exact HC1.out); rintro e w' ⟨rfl, ⟨nd, rfl⟩⟩; refine ⟨_, rfl, ?_⟩))
     go_ret
     exact ⟨by first | rfl | (simp; done) | (simp [*]; done), by repeat (first | exact zB6.refl _ | apply zB6.step)⟩
    ·replace c6 := Bool.eq_false_iff.mpr c6
     subst c6
     have H1 : (zAt.l0 k1 l0 l1 (wrap64 (x5_1 + 1))) = some r := by rw [if_neg (show ¬ (false = true) by decide)] at H; exact H
     clear H
     have H := H1
     clear H1
     have H' := zA1.mk H
     clear H
     have p337 : 0 ≤ (x5_1 : Int) := of_decide_eq_true (by first | (with_reducible assumption) | assumption)
     have q337 : x5_1 < (l0.length : Int) := of_decide_eq_true (by first | (with_reducible assumption) | assumption)
     obtain ⟨ad337, A337_0, c337_0, e337, hx337_0, hl337_0, hi337_0⟩ := at_L1 HR0.out x5_1 p337 q337
     cases e337
     have HR337_0 := zA1.mk hi337_0
     have HC337_0 := zA1.mk hl337_0
     clear hi337_0 hl337_0
     replace p337 := eq_true p337
     replace q337 := eq_true q337
     go_wp2_with (first | ((with_reducible refine zAy (f := 26) rfl ?_); refine zBz (some 17) rfl rfl Tryz.func26 (by kernel_rfl) rfl #[.slice A337_0 (rd_L1 l0 x5_1).length c337_0, .slice A1 l1.length c1] rfl (by (try simp only [List.map_toArray, List.map_cons, List.map_nil]); first | done | rfl | (simp only [List.length_drop, List.length_take]; rfl)) ?_; (with_reducible refine (zB1.calls k1 _ _ (rd_L1 l0 x5_1) _ _ l1 false _ ?side1 ?side2 ?side3 ?side4 A5.out).mono ?_); (case side1 => repeat (first | exact HR337_0.out | (with_reducible refine Kd.zAj ?_ _) | (with_reducible refine Kd.zAr ?_ _) | (with_reducible refine Kd.zB9 ?_))); (case side2 => exact HC337_0.out); (case side3 => repeat (first | exact HR1.out | (with_reducible refine Kd.zAj ?_ _) | (with_reducible refine Kd.zAr ?_ _) | (with_reducible refine Kd.zB9 ?_))); (case side4 => exact HC1.out); rintro e w' ⟨rfl, ⟨nd, rfl⟩⟩; refine ⟨_, rfl, ?_⟩))
     go_roundg k1
     case measure => have := HK1.out; omega
     case rel => exact ⟨(wrap64 (x5_1 + 1)), (by first | rfl | (simp; done) | (simp [*]; done)), H', ⟨by have := HK1.out; omega⟩, by repeat (first | exact zB6.refl _ | apply zB6.step)⟩
   ·rw [if_neg c3] at H
    have c3b0 : decide (x5_1 < (l0.length : Int)) = false := decide_eq_false c3
    clear c3
    obtain rfl := Option.some.inj H
    go_wp2
    go_ret
    exact ⟨by first | rfl | (simp; done) | (simp [*]; done), by repeat (first | exact zB6.refl _ | apply zB6.step)⟩
end
end Go.Proofs.YtbghfbhlbfcloaaGreatDoor.PL
namespace Go.Proofs.YtbghfbhlbfcloaaGreatDoor.PL
section
open Go.RowKit Go.Proofs.YtbghfbhlbfcloaaGreatDoorW.PrintWords Go.Proofs.YtbghfbhlbfcloaaGreatDoorW.PrintLast Go.Proofs.YtbghfbhlbfcloaaGreatDoorW.PrintMore
attribute [local go_sem] zBv zBt zC5 zC4 zBo zBn zBu zBs   -- for this text's walks alone
set_option linter.unusedVariables false
set_option linter.unusedSimpArgs false
def zBr.f (k : Nat) (a0_0 : Int) (l0_1 : List (S58)) (l1 : List Int) : Option (Bool × Int) := (zBi.f k a0_0 l0_1 l1).bind fun bt329 => (if bt329.2.2 = 0 then ((zAi.f k bt329.1 bt329.2.1).bind fun t334 => (some (t334, bt329.2.2))) else (some (false, bt329.2.2)))
theorem zBr.mono : ∀ a0 a1 a2 k, LeO (zBr.f k a0 a1 a2) (zBr.f (k + 1) a0 a1 a2) := by
 intro a0 a1 a2 k
 unfold zBr.f
 repeat' first
   | (with_reducible exact zAi.mono _ _ _)
   | (with_reducible exact zBi.mono _ _ _ _)
   | (with_reducible exact LeO.refl _)
   | (with_reducible exact LeO.none _)
   | (with_reducible refine LeO.ite ?_ ?_)
   | (with_reducible refine LeO.bind ?_ (fun _ => ?_))
set_option maxHeartbeats 8000000 in
set_option maxRecDepth 100000 in
theorem zBr.calls (k : Nat) (a0_0 : Int) (A0_1 : Option Addr) (c0_1 : Nat) (l0_1 : List (S58)) (A1 : Option Addr) (c1 : Nat) (l1 : List Int) (r1 : Bool) (r2 : Int) (w : World) (hr0_1 : Kd.C k58 w A0_1 l0_1.length l0_1) (hc0_1 : l0_1.length ≤ c0_1) (hr1 : Kd.C (Kd.int .i64) w A1 l1.length l1) (hc1 : l1.length ≤ c1) (hG : Kd.C (Kd.int .u8) w (some tabA) tabL.length tabL) (h : zBr.f k a0_0 l0_1 l1 = some (r1, r2)) :
  Calls Tryz.prog 12 #[.agg #[.int .i64 a0_0, .slice A0_1 l0_1.length c0_1], .slice A1 l1.length c1] w fun e w' => e = .returned (.tuple #[.bool r1, .int .i64 r2]) ∧ Below w.heap.size w w' := by
 have hu28 := Tryz.underlying28
 have HR0_1 := zA1.mk hr0_1
 have HC0_1 := zA1.mk hc0_1
 clear hr0_1 hc0_1
 have HR1 := zA1.mk hr1
 have HC1 := zA1.mk hc1
 clear hr1 hc1
 have HB := zA1.mk (Below.refl w.heap.size w)
 have HG := zA1.mk hG
 clear hG
 have H : ((zBi.f k a0_0 l0_1 l1).bind fun bt329 => (if bt329.2.2 = 0 then ((zAi.f k bt329.1 bt329.2.1).bind fun t334 => (some (t334, bt329.2.2))) else (some (false, bt329.2.2)))) = some (r1, r2) := h
 clear h
 replace H := Option.bind_eq_some_iff.mp H
 obtain ⟨⟨t329, t332, t333⟩, A30, H⟩ := H
 replace H : (if t333 = 0 then ((zAi.f k t329 t332).bind fun t334 => (some (t334, t333))) else (some (false, t333))) = some (r1, r2) := H
 have A3 := zA1.mk A30
 clear A30
 by_cases c4 : t333 = 0
 ·rw [if_pos c4] at H
  have c4b0 : (t333 == 0) = true := beq_iff_eq.mpr c4
  have c4b1 : (t333 != 0) = false := bne_eq_false_iff_eq.mpr c4
  clear c4
  replace H := Option.bind_eq_some_iff.mp H
  obtain ⟨t334, A50, H⟩ := H
  replace H : (some (t334, t333)) = some (r1, r2) := H
  have A5 := zA1.mk A50
  clear A50
  simp only [Option.some.injEq, Prod.mk.injEq] at H
  obtain ⟨rfl, rfl⟩ := H
  go_enter Tryz.func12, Tryz.ntmps12
  go_wp2_with (first | ((with_reducible refine zBk (N := 2) rfl ?_); refine zBl ?hg (N := 2) ?hd (cs := #[.int .i64 a0_0, .slice A0_1 l0_1.length c0_1]) (t := 28) ?hr ?_; (case hd => rfl); (case hg => rfl); (case hr => first | (go_simp; done) | (go_simp; rfl)); intro gb328 hg w6 hbox hb; have n0_ := zA1.mk (zAg (by repeat (first | (with_reducible first | exact HB.out | apply zA2 | apply zA0 | apply zA3) | exact HB.out)) hb); have n1_ := zA1.mk (hbox); have n2_ := zA1.mk ((by rw [hg]; exact (zAb (by repeat (first | (with_reducible first | exact HB.out | apply zA2 | apply zA0 | apply zA3) | exact HB.out))) : w.heap.size ≤ gb328)); have n3_ := zA1.mk ((by rw [hg]; exact (zAb (by repeat (first | (with_reducible first | exact HB.out | apply zA2 | apply zA0 | apply zA3) | exact HB.out))) : w.heap.size ≤ gb328)); clear HB; have HB := n0_; have BK328 := n1_; have GW328 := n2_; have GE328 := n3_; clear n0_ n1_ n2_ n3_; clear hb hbox hg; have hcz7_0 : w6.cell? ⟨gb328, 0, none⟩ = some (.int .i64 a0_0) := (zA9 BK328.out 0).trans rfl; have hcz7_1 : w6.cell? ⟨gb328, 1, none⟩ = some (.slice A0_1 l0_1.length c0_1) := (zA9 BK328.out 1).trans rfl; have hfz7_0 := zAd BK328.out 0; have hfz7_1 := zAd BK328.out 1) | ((with_reducible refine zAy (f := 27) rfl ?_); refine zBz (some 12) rfl rfl Tryz.func27 (by kernel_rfl) rfl #[.agg #[.int .i64 a0_0, .slice A0_1 l0_1.length c0_1], .slice A1 l1.length c1] rfl (by (try simp only [List.map_toArray, List.map_cons, List.map_nil]); first | done | rfl | (simp only [List.length_drop, List.length_take]; rfl)) ?_; (with_reducible refine (zBi.calls k a0_0 _ _ l0_1 _ _ l1 t329 t332 t333 _ ?side1 ?side2 ?side3 ?side4 A3.out).mono ?_); (case side1 => repeat (first | exact (Kd.zAx HR0_1.out HB.out) | (with_reducible refine Kd.zAj ?_ _) | (with_reducible refine Kd.zAr ?_ _) | (with_reducible refine Kd.zB9 ?_))); (case side2 => exact HC0_1.out); (case side3 => repeat (first | exact (Kd.zAx HR1.out HB.out) | (with_reducible refine Kd.zAj ?_ _) | (with_reducible refine Kd.zAr ?_ _) | (with_reducible refine Kd.zB9 ?_))); (case side4 => exact HC1.out); rintro e w8 ⟨v330, rfl, ho0, hb⟩; refine ⟨_, rfl, ?_⟩; have n0_ := zA1.mk (Kd.R_lower ho0 (zAb (by repeat (first | (with_reducible first | exact HB.out | apply zA2 | apply zA0 | apply zA3 | refine zA5 ?_ GE328.out) | exact HB.out)))); have n1_ := zA1.mk (zAq (g := gb328) (o := .cells #[.int .i64 a0_0, .slice A0_1 l0_1.length c0_1] 28 (0, 0)) (by (with_reducible repeat (first | refine zA7 ?_ _ | refine zA8 ?_ | refine zA6 ?_ _)); exact BK328.out) hb); have n2_ := zA1.mk (zAg (by repeat (first | (with_reducible first | exact HB.out | apply zA2 | apply zA0 | apply zA3 | refine zA5 ?_ GE328.out) | exact HB.out)) hb); clear BK328; clear HB; have HO331 := n0_; have BK328 := n1_; have HB := n2_; clear n0_ n1_ n2_; (try clear hb); (try clear hb2); (try clear hk); (try clear hi); (try clear ho0); obtain ⟨Ao9, co9, eo9⟩ := Kd.zC3 HO331.out; subst eo9) | (go_at_call 35; (with_reducible refine (zAi.calls k _ _ t329 t332 t334 _ ?side1 ?side2 ?side3 A5.out).mono ?_); (case side1 => repeat (first | exact (Kd.zAz HO331.out).2.2 | (with_reducible refine Kd.zAj ?_ _) | (with_reducible refine Kd.zAr ?_ _) | (with_reducible refine Kd.zB9 ?_))); (case side2 => exact (Kd.zAz HO331.out).2.1); (case side3 => repeat (first | exact (Kd.zAx HG.out HB.out) | (with_reducible refine Kd.zAj ?_ _) | (with_reducible refine Kd.zAr ?_ _) | (with_reducible refine Kd.zB9 ?_))); rintro e w10 ⟨rfl, hb⟩; have n0_ := zA1.mk (Kd.zBg (by (with_reducible repeat (first | apply Kd.zAf | apply Kd.zAe | apply Kd.zAh)); exact HO331.out) hb); have n1_ := zA1.mk (zAq (g := gb328) (o := .cells #[.int .i64 a0_0, .slice A0_1 l0_1.length c0_1] 28 (0, 0)) (by (with_reducible repeat (first | refine zA7 ?_ _ | refine zA8 ?_ | refine zA6 ?_ _)); exact BK328.out) hb); have n2_ := zA1.mk (zAg (by repeat (first | (with_reducible first | exact HB.out | apply zA2 | apply zA0 | apply zA3 | refine zA5 ?_ GE328.out) | exact HB.out)) hb); clear HO331; clear BK328; clear HB; have HO331 := n0_; have BK328 := n1_; have HB := n2_; clear n0_ n1_ n2_; (try clear hb); (try clear hb2); (try clear hk); (try clear hi)))
  go_ret2
  exact ⟨by first | rfl | (simp [zAp, zAo] <;> rfl) | (simp [*, zAp, zAo] <;> rfl), by repeat (first | (with_reducible first | exact HB.out | apply zA2 | apply zA0 | apply zA3 | refine zA5 ?_ GE328.out) | exact HB.out)⟩
 ·rw [if_neg c4] at H
  have c4b0 : (t333 == 0) = false := beq_eq_false_iff_ne.mpr c4
  have c4b1 : (t333 != 0) = true := bne_iff_ne.mpr c4
  simp only [Option.some.injEq, Prod.mk.injEq] at H
  obtain ⟨rfl, rfl⟩ := H
  go_enter Tryz.func12, Tryz.ntmps12
  go_wp2_with (first | ((with_reducible refine zBk (N := 2) rfl ?_); refine zBl ?hg (N := 2) ?hd (cs := #[.int .i64 a0_0, .slice A0_1 l0_1.length c0_1]) (t := 28) ?hr ?_; (case hd => rfl); (case hg => rfl); (case hr => first | (go_simp; done) | (go_simp; rfl)); intro gb328 hg w11 hbox hb; have n0_ := zA1.mk (zAg (by repeat (first | (with_reducible first | exact HB.out | apply zA2 | apply zA0 | apply zA3) | exact HB.out)) hb); have n1_ := zA1.mk (hbox); have n2_ := zA1.mk ((by rw [hg]; exact (zAb (by repeat (first | (with_reducible first | exact HB.out | apply zA2 | apply zA0 | apply zA3) | exact HB.out))) : w.heap.size ≤ gb328)); have n3_ := zA1.mk ((by rw [hg]; exact (zAb (by repeat (first | (with_reducible first | exact HB.out | apply zA2 | apply zA0 | apply zA3) | exact HB.out))) : w.heap.size ≤ gb328)); clear HB; have HB := n0_; have BK328 := n1_; have GW328 := n2_; have GE328 := n3_; clear n0_ n1_ n2_ n3_; clear hb hbox hg; have hcz12_0 : w11.cell? ⟨gb328, 0, none⟩ = some (.int .i64 a0_0) := (zA9 BK328.out 0).trans rfl; have hcz12_1 : w11.cell? ⟨gb328, 1, none⟩ = some (.slice A0_1 l0_1.length c0_1) := (zA9 BK328.out 1).trans rfl; have hfz12_0 := zAd BK328.out 0; have hfz12_1 := zAd BK328.out 1) | ((with_reducible refine zAy (f := 27) rfl ?_); refine zBz (some 12) rfl rfl Tryz.func27 (by kernel_rfl) rfl #[.agg #[.int .i64 a0_0, .slice A0_1 l0_1.length c0_1], .slice A1 l1.length c1] rfl (by (try simp only [List.map_toArray, List.map_cons, List.map_nil]); first | done | rfl | (simp only [List.length_drop, List.length_take]; rfl)) ?_; (with_reducible refine (zBi.calls k a0_0 _ _ l0_1 _ _ l1 t329 t332 t333 _ ?side1 ?side2 ?side3 ?side4 A3.out).mono ?_); (case side1 => repeat (first | exact (Kd.zAx HR0_1.out HB.out) | (with_reducible refine Kd.zAj ?_ _) | (with_reducible refine Kd.zAr ?_ _) | (with_reducible refine Kd.zB9 ?_))); (case side2 => exact HC0_1.out); (case side3 => repeat (first | exact (Kd.zAx HR1.out HB.out) | (with_reducible refine Kd.zAj ?_ _) | (with_reducible refine Kd.zAr ?_ _) | (with_reducible refine Kd.zB9 ?_))); (case side4 => exact HC1.out); rintro e w13 ⟨v330, rfl, ho0, hb⟩; refine ⟨_, rfl, ?_⟩; have n0_ := zA1.mk (Kd.R_lower ho0 (zAb (by repeat (first | (with_reducible first | exact HB.out | apply zA2 | apply zA0 | apply zA3 | refine zA5 ?_ GE328.out) | exact HB.out)))); have n1_ := zA1.mk (zAq (g := gb328) (o := .cells #[.int .i64 a0_0, .slice A0_1 l0_1.length c0_1] 28 (0, 0)) (by (with_reducible repeat (first | refine zA7 ?_ _ | refine zA8 ?_ | refine zA6 ?_ _)); exact BK328.out) hb); have n2_ := zA1.mk (zAg (by repeat (first | (with_reducible first | exact HB.out | apply zA2 | apply zA0 | apply zA3 | refine zA5 ?_ GE328.out) | exact HB.out)) hb); clear BK328; clear HB; have HO331 := n0_; have BK328 := n1_; have HB := n2_; clear n0_ n1_ n2_; (try clear hb); (try clear hb2); (try clear hk); (try clear hi); (try clear ho0)))
  go_ret2
  exact ⟨by first | rfl | (simp [zAp, zAo] <;> rfl) | (simp [*, zAp, zAo] <;> rfl), by repeat (first | (with_reducible first | exact HB.out | apply zA2 | apply zA0 | apply zA3 | refine zA5 ?_ GE328.out) | exact HB.out)⟩
end
end Go.Proofs.YtbghfbhlbfcloaaGreatDoor.PL
namespace Go.Proofs.YtbghfbhlbfcloaaGreatDoor.PL
section
open Go.RowKit Go.Proofs.YtbghfbhlbfcloaaGreatDoorW.PrintWords Go.Proofs.YtbghfbhlbfcloaaGreatDoorW.PrintLast Go.Proofs.YtbghfbhlbfcloaaGreatDoorW.PrintMore
attribute [local go_sem] zBv zBt zC5 zC4 zBo zBn zBu zBs   -- for this text's walks alone
set_option linter.unusedVariables false
set_option linter.unusedSimpArgs false
def liaison_Cuts.f (a0_0 : Int) (l0_1 : List (S58)) (l1 : List Int) : Option ((List (S46)) × Int) := CU.f a0_0 l0_1 l1
theorem liaison_Cuts.calls (a0_0 : Int) (A0_1 : Option Addr) (c0_1 : Nat) (l0_1 : List (S58)) (A1 : Option Addr) (c1 : Nat) (l1 : List Int) (r1 : List (S46)) (r2 : Int) (w : World) (hr0_1 : Kd.C k58 w A0_1 l0_1.length l0_1) (hc0_1 : l0_1.length ≤ c0_1) (hr1 : Kd.C (Kd.int .i64) w A1 l1.length l1) (hc1 : l1.length ≤ c1) (hG : Kd.C (Kd.int .u8) w (some tabA) tabL.length tabL) (h : liaison_Cuts.f a0_0 l0_1 l1 = some (r1, r2)) :
  Calls Tryz.prog 14 #[.agg #[.int .i64 a0_0, .slice A0_1 l0_1.length c0_1], .slice A1 l1.length c1] w fun e w' => ∃ v0_ : Value, e = .returned (.tuple #[v0_, .int .i64 r2]) ∧ Kd.S k46 46 w' w.heap.size (fun _ => True) v0_ r1 ∧ Below w.heap.size w w' :=
  CU.calls a0_0 A0_1 c0_1 l0_1 A1 c1 l1 r1 r2 w hr0_1 hc0_1 hr1 hc1 hG h
end
end Go.Proofs.YtbghfbhlbfcloaaGreatDoor.PL
namespace Go.Proofs.YtbghfbhlbfcloaaGreatDoor.PL
section
open Go.RowKit Go.Proofs.YtbghfbhlbfcloaaGreatDoorW.PrintWords Go.Proofs.YtbghfbhlbfcloaaGreatDoorW.PrintLast Go.Proofs.YtbghfbhlbfcloaaGreatDoorW.PrintMore
attribute [local go_sem] zBv zBt zC5 zC4 zBo zBn zBu zBs   -- for this text's walks alone
set_option linter.unusedVariables false
set_option linter.unusedSimpArgs false
def zB8.l0 : Nat → List Int → List Int → Int → Option (Bool)
 | 0, _, _, _ => none
 | k + 1, x0, x1, x5 => if x5 < (x0.length : Int) then (if 0 ≤ x5 then ((zAs.f k x1 (rd x0 x5)).bind fun t336 => (if t336 = true then (some false) else (zB8.l0 k x0 x1 (wrap64 (x5 + 1))))) else (none)) else (some true)
def zB8.f (k : Nat) (l0 : List Int) (l1 : List Int) : Option (Bool) := zB8.l0 k l0 l1 0
theorem zB8.zBw : ∀ k, (∀ y0 y1 y2, LeO (zB8.l0 k y0 y1 y2) (zB8.l0 (k + 1) y0 y1 y2))
 | 0 => fun _ _ _ r h => by simp [zB8.l0] at h
 | k + 1 => by
  have ih0 := zB8.zBw k
  ·intro y0 y1 y2
   unfold zB8.l0
   repeat' first
   | (with_reducible exact ih0 _ _ _)
   | (with_reducible exact zAs.mono _ _ _)
   | (with_reducible exact LeO.refl _)
   | (with_reducible exact LeO.none _)
   | (with_reducible refine LeO.ite ?_ ?_)
   | (with_reducible refine LeO.bind ?_ (fun _ => ?_))
theorem zB8.mono : ∀ a0 a1 k, LeO (zB8.f k a0 a1) (zB8.f (k + 1) a0 a1) := by
 intro a0 a1 k
 have ih0 := zB8.zBw k
 unfold zB8.f
 repeat' first
   | (with_reducible exact ih0 _ _ _)
   | (with_reducible exact zAs.mono _ _ _)
   | (with_reducible exact LeO.refl _)
   | (with_reducible exact LeO.none _)
   | (with_reducible refine LeO.ite ?_ ?_)
   | (with_reducible refine LeO.bind ?_ (fun _ => ?_))
set_option maxHeartbeats 8000000 in
set_option maxRecDepth 100000 in
theorem zB8.calls (k : Nat) (A0 : Option Addr) (c0 : Nat) (l0 : List Int) (A1 : Option Addr) (c1 : Nat) (l1 : List Int) (r : Bool) (w : World) (hr0 : Kd.C (Kd.int .i64) w A0 l0.length l0) (hc0 : l0.length ≤ c0) (hr1 : Kd.C (Kd.int .i64) w A1 l1.length l1) (hc1 : l1.length ≤ c1) (h : zB8.f k l0 l1 = some r) :
  Calls Tryz.prog 16 #[.slice A0 l0.length c0, .slice A1 l1.length c1] w fun e w' => e = .returned (.bool r) ∧ zB6 w w' := by
 have HR0 := zA1.mk hr0
 have HC0 := zA1.mk hc0
 clear hr0 hc0
 have HR1 := zA1.mk hr1
 have HC1 := zA1.mk hc1
 clear hr1 hc1
 have H : (zB8.l0 k l0 l1 0) = some r := h
 clear h
 have H' := zA1.mk H
 clear H
 go_enter Tryz.func16, Tryz.ntmps16
 go_wp2
 go_loopg [5] k (fun kq v5 w' => ∃ (x5_1 : Int), v5 = .int .i64 x5_1 ∧ zA1 (zB8.l0 kq l0 l1 x5_1 = some r) ∧ zA1 (kq ≤ k) ∧ zB6 w w')
 case atStart => exact ⟨(0), (by first | rfl | (simp; done) | (simp [*]; done)), H', ⟨Nat.le_refl _⟩, by repeat (first | exact zB6.refl _ | apply zB6.step)⟩
 case round =>
  clear H'
  try clear c1
  try clear p2
  obtain ⟨x5_1, rfl, HA, HK1, ⟨m1, rfl⟩⟩ := hrel
  cases gk with
  | zero => exact absurd HA.out (by simp [zB8.l0])
  | succ k1 =>
   have H := HA.out
   clear HA
   simp only [zB8.l0] at H
   by_cases c3 : x5_1 < (l0.length : Int)
   ·rw [if_pos c3] at H
    have c3b0 : decide (x5_1 < (l0.length : Int)) = true := decide_eq_true c3
    clear c3
    by_cases c4 : 0 ≤ x5_1
    rotate_left
    ·rw [if_neg c4] at H
     exact absurd H (by simp)
    rw [if_pos c4] at H
    have c4b0 : decide (0 ≤ x5_1) = true := decide_eq_true c4
    clear c4
    replace H := Option.bind_eq_some_iff.mp H
    obtain ⟨t336, A50, H⟩ := H
    replace H : (if t336 = true then (some false) else (zB8.l0 k1 l0 l1 (wrap64 (x5_1 + 1)))) = some r := H
    have A5 := zA1.mk A50
    clear A50
    by_cases c6 : t336 = true
    ·subst c6
     have H1 : (some false) = some r := by rw [if_pos rfl] at H; exact H
     clear H
     have H := H1
     clear H1
     obtain rfl := Option.some.inj H
     have p335 : 0 ≤ (x5_1 : Int) := of_decide_eq_true (by first | (with_reducible assumption) | assumption)
     have q335 : x5_1 < (l0.length : Int) := of_decide_eq_true (by first | (with_reducible assumption) | assumption)
     obtain ⟨ad335, e335, hx335_0⟩ := Kd.zCb HR0.out x5_1 p335 q335
     cases e335
     replace p335 := eq_true p335
     replace q335 := eq_true q335
     go_wp2_with (first | ((with_reducible refine zAy (f := 19) rfl ?_); refine zBz (some 17) rfl rfl Tryz.func19 (by kernel_rfl) rfl #[.slice A1 l1.length c1, .int .i64 (rd l0 x5_1)] rfl (by (try simp only [List.map_toArray, List.map_cons, List.map_nil]); first | done | rfl | (simp only [List.length_drop, List.length_take]; rfl)) ?_; (with_reducible refine (zAs.calls k1 _ _ l1 (rd l0 x5_1) true _ ?side1 ?side2 A5.out).mono ?_); (case side1 => repeat (first | exact HR1.out | (with_reducible refine Kd.zAj ?_ _) | (with_reducible refine Kd.zAr ?_ _) | (with_reducible refine Kd.zB9 ?_))); (case side2 => exact HC1.out); rintro e w' ⟨rfl, ⟨nd, rfl⟩⟩; refine ⟨_, rfl, ?_⟩))
     go_ret
     exact ⟨by first | rfl | (simp; done) | (simp [*]; done), by repeat (first | exact zB6.refl _ | apply zB6.step)⟩
    ·replace c6 := Bool.eq_false_iff.mpr c6
     subst c6
     have H1 : (zB8.l0 k1 l0 l1 (wrap64 (x5_1 + 1))) = some r := by rw [if_neg (show ¬ (false = true) by decide)] at H; exact H
     clear H
     have H := H1
     clear H1
     have H' := zA1.mk H
     clear H
     have p335 : 0 ≤ (x5_1 : Int) := of_decide_eq_true (by first | (with_reducible assumption) | assumption)
     have q335 : x5_1 < (l0.length : Int) := of_decide_eq_true (by first | (with_reducible assumption) | assumption)
     obtain ⟨ad335, e335, hx335_0⟩ := Kd.zCb HR0.out x5_1 p335 q335
     cases e335
     replace p335 := eq_true p335
     replace q335 := eq_true q335
     go_wp2_with (first | ((with_reducible refine zAy (f := 19) rfl ?_); refine zBz (some 17) rfl rfl Tryz.func19 (by kernel_rfl) rfl #[.slice A1 l1.length c1, .int .i64 (rd l0 x5_1)] rfl (by (try simp only [List.map_toArray, List.map_cons, List.map_nil]); first | done | rfl | (simp only [List.length_drop, List.length_take]; rfl)) ?_; (with_reducible refine (zAs.calls k1 _ _ l1 (rd l0 x5_1) false _ ?side1 ?side2 A5.out).mono ?_); (case side1 => repeat (first | exact HR1.out | (with_reducible refine Kd.zAj ?_ _) | (with_reducible refine Kd.zAr ?_ _) | (with_reducible refine Kd.zB9 ?_))); (case side2 => exact HC1.out); rintro e w' ⟨rfl, ⟨nd, rfl⟩⟩; refine ⟨_, rfl, ?_⟩))
     go_roundg k1
     case measure => have := HK1.out; omega
     case rel => exact ⟨(wrap64 (x5_1 + 1)), (by first | rfl | (simp; done) | (simp [*]; done)), H', ⟨by have := HK1.out; omega⟩, by repeat (first | exact zB6.refl _ | apply zB6.step)⟩
   ·rw [if_neg c3] at H
    have c3b0 : decide (x5_1 < (l0.length : Int)) = false := decide_eq_false c3
    clear c3
    obtain rfl := Option.some.inj H
    go_wp2
    go_ret
    exact ⟨by first | rfl | (simp; done) | (simp [*]; done), by repeat (first | exact zB6.refl _ | apply zB6.step)⟩
end
end Go.Proofs.YtbghfbhlbfcloaaGreatDoor.PL
namespace Go.Proofs.YtbghfbhlbfcloaaGreatDoor.PL
section
open Go.RowKit Go.Proofs.YtbghfbhlbfcloaaGreatDoorW.PrintWords Go.Proofs.YtbghfbhlbfcloaaGreatDoorW.PrintLast Go.Proofs.YtbghfbhlbfcloaaGreatDoorW.PrintMore
attribute [local go_sem] zBv zBt zC5 zC4 zBo zBn zBu zBs   -- for this text's walks alone
set_option linter.unusedVariables false
set_option linter.unusedSimpArgs false
def zCc.f (k : Nat) (a0_0 : ByteArray) (l0_1 : List Int) (a1_0 : ByteArray) (l1_1 : List Int) : Option (Bool) := (zAw.f k l0_1).bind fun t201 => ((zAw.f k l1_1).bind fun t202 => (if t201 = t202 then (some false) else (some ((Go.bits .and .u64 t201 t202) == t201))))
theorem zCc.mono : ∀ a0 a1 a2 a3 k, LeO (zCc.f k a0 a1 a2 a3) (zCc.f (k + 1) a0 a1 a2 a3) := by
 intro a0 a1 a2 a3 k
 unfold zCc.f
 repeat' first
   | (with_reducible exact zAw.mono _ _)
   | (with_reducible exact LeO.refl _)
   | (with_reducible exact LeO.none _)
   | (with_reducible refine LeO.ite ?_ ?_)
   | (with_reducible refine LeO.bind ?_ (fun _ => ?_))
set_option maxHeartbeats 8000000 in
set_option maxRecDepth 100000 in
theorem zCc.calls (k : Nat) (a0_0 : ByteArray) (A0_1 : Option Addr) (c0_1 : Nat) (l0_1 : List Int) (a1_0 : ByteArray) (A1_1 : Option Addr) (c1_1 : Nat) (l1_1 : List Int) (r : Bool) (w : World) (hr0_1 : Kd.C (Kd.int .i64) w A0_1 l0_1.length l0_1) (hc0_1 : l0_1.length ≤ c0_1) (hr1_1 : Kd.C (Kd.int .i64) w A1_1 l1_1.length l1_1) (hc1_1 : l1_1.length ≤ c1_1) (h : zCc.f k a0_0 l0_1 a1_0 l1_1 = some r) :
  Calls Tryz.prog 48 #[.agg #[.string a0_0, .slice A0_1 l0_1.length c0_1], .agg #[.string a1_0, .slice A1_1 l1_1.length c1_1]] w fun e w' => e = .returned (.bool r) ∧ Below w.heap.size w w' := by
 have hu60 := Tryz.underlying60
 have HR0_1 := zA1.mk hr0_1
 have HC0_1 := zA1.mk hc0_1
 clear hr0_1 hc0_1
 have HR1_1 := zA1.mk hr1_1
 have HC1_1 := zA1.mk hc1_1
 clear hr1_1 hc1_1
 have HB := zA1.mk (Below.refl w.heap.size w)
 have H : ((zAw.f k l0_1).bind fun t201 => ((zAw.f k l1_1).bind fun t202 => (if t201 = t202 then (some false) else (some ((Go.bits .and .u64 t201 t202) == t201))))) = some r := h
 clear h
 replace H := Option.bind_eq_some_iff.mp H
 obtain ⟨t201, A30, H⟩ := H
 replace H : ((zAw.f k l1_1).bind fun t202 => (if t201 = t202 then (some false) else (some ((Go.bits .and .u64 t201 t202) == t201)))) = some r := H
 have A3 := zA1.mk A30
 clear A30
 replace H := Option.bind_eq_some_iff.mp H
 obtain ⟨t202, A40, H⟩ := H
 replace H : (if t201 = t202 then (some false) else (some ((Go.bits .and .u64 t201 t202) == t201))) = some r := H
 have A4 := zA1.mk A40
 clear A40
 by_cases c5 : t201 = t202
 ·rw [if_pos c5] at H
  have c5b0 : (t201 == t202) = true := beq_iff_eq.mpr c5
  have c5b1 : (t201 != t202) = false := bne_eq_false_iff_eq.mpr c5
  clear c5
  obtain rfl := Option.some.inj H
  go_enter Tryz.func48, Tryz.ntmps48
  go_wp2_with (first | ((with_reducible refine zBk (N := 2) rfl ?_); refine zBl ?hg (N := 2) ?hd (cs := #[.string a0_0, .slice A0_1 l0_1.length c0_1]) (t := 60) ?hr ?_; (case hd => rfl); (case hg => rfl); (case hr => first | (go_simp; done) | (go_simp; rfl)); intro gb199 hg w6 hbox hb; have n0_ := zA1.mk (zAg (by repeat (first | (with_reducible first | exact HB.out | apply zA2 | apply zA0 | apply zA3) | exact HB.out)) hb); have n1_ := zA1.mk (hbox); have n2_ := zA1.mk ((by rw [hg]; exact (zAb (by repeat (first | (with_reducible first | exact HB.out | apply zA2 | apply zA0 | apply zA3) | exact HB.out))) : w.heap.size ≤ gb199)); have n3_ := zA1.mk ((by rw [hg]; exact (zAb (by repeat (first | (with_reducible first | exact HB.out | apply zA2 | apply zA0 | apply zA3) | exact HB.out))) : w.heap.size ≤ gb199)); clear HB; have HB := n0_; have BK199 := n1_; have GW199 := n2_; have GE199 := n3_; clear n0_ n1_ n2_ n3_; clear hb hbox hg) | ((with_reducible refine zBk (N := 3) rfl ?_); refine zBl ?hg (N := 3) ?hd (cs := #[.string a1_0, .slice A1_1 l1_1.length c1_1]) (t := 60) ?hr ?_; (case hd => rfl); (case hg => rfl); (case hr => first | (go_simp; done) | (go_simp; rfl)); intro gb200 hg w7 hbox hb; have n0_ := zA1.mk (zAq (g := gb199) (o := .cells #[.string a0_0, .slice A0_1 l0_1.length c0_1] 60 (0, 0)) (by (with_reducible repeat (first | refine zA7 ?_ _ | refine zA8 ?_ | refine zA6 ?_ _)); exact BK199.out) hb); have n1_ := zA1.mk (zAg (by repeat (first | (with_reducible first | exact HB.out | apply zA2 | apply zA0 | apply zA3 | refine zA5 ?_ GE199.out) | exact HB.out)) hb); have n2_ := zA1.mk (hbox); have n3_ := zA1.mk ((by rw [hg]; exact (zAb (by repeat (first | (with_reducible first | exact HB.out | apply zA2 | apply zA0 | apply zA3 | refine zA5 ?_ GE199.out) | exact HB.out))) : w.heap.size ≤ gb200)); have n4_ := zA1.mk ((by rw [hg]; exact (zAb (by repeat (first | (with_reducible first | exact HB.out | apply zA2 | apply zA0 | apply zA3 | refine zA5 ?_ GE199.out) | exact HB.out))) : w.heap.size ≤ gb200)); have n5_ := zA1.mk ((by rw [hg]; exact Nat.ne_of_lt (zC7 (g := gb199) (o := .cells #[.string a0_0, .slice A0_1 l0_1.length c0_1] 60 (0, 0)) (by (with_reducible repeat (first | refine zA7 ?_ _ | refine zA8 ?_ | refine zA6 ?_ _)); exact BK199.out)) : gb199 ≠ gb200)); have n6_ := zA1.mk ((by rw [hg]; exact Nat.ne_of_gt (zC7 (g := gb199) (o := .cells #[.string a0_0, .slice A0_1 l0_1.length c0_1] 60 (0, 0)) (by (with_reducible repeat (first | refine zA7 ?_ _ | refine zA8 ?_ | refine zA6 ?_ _)); exact BK199.out)) : gb200 ≠ gb199)); clear BK199; clear HB; have BK199 := n0_; have HB := n1_; have BK200 := n2_; have GW200 := n3_; have GE200 := n4_; have NB199_200 := n5_; have NB200_199 := n6_; clear n0_ n1_ n2_ n3_ n4_ n5_ n6_; clear hb hbox hg; have hnb8 := NB199_200.out; have hnc8 := NB200_199.out; have hcz9_0 : w7.cell? ⟨gb199, 0, none⟩ = some (.string a0_0) := (zA9 BK199.out 0).trans rfl; have hcz9_1 : w7.cell? ⟨gb199, 1, none⟩ = some (.slice A0_1 l0_1.length c0_1) := (zA9 BK199.out 1).trans rfl; have hfz9_0 := zAd BK199.out 0; have hfz9_1 := zAd BK199.out 1) | (go_at_call 51; (with_reducible refine (zAw.calls k _ _ l0_1 t201 _ ?side1 ?side2 A3.out).mono ?_); (case side1 => repeat (first | exact (Kd.zAx HR0_1.out HB.out) | (with_reducible refine Kd.zAj ?_ _) | (with_reducible refine Kd.zAr ?_ _) | (with_reducible refine Kd.zB9 ?_))); (case side2 => exact HC0_1.out); rintro e w' ⟨rfl, ⟨nd, rfl⟩⟩; (try first | exact ⟨rfl, _, World.drewN_drewN _ _ _⟩ | exact ⟨rfl, _, Eq.trans (World.drewN_drewN _ _ _) (congrArg (World.drewN _) (Nat.add_assoc _ _ _))⟩); have hcz10_0 : w7.cell? ⟨gb200, 0, none⟩ = some (.string a1_0) := (zA9 BK200.out 0).trans rfl; have hcz10_1 : w7.cell? ⟨gb200, 1, none⟩ = some (.slice A1_1 l1_1.length c1_1) := (zA9 BK200.out 1).trans rfl; have hfz10_0 := zAd BK200.out 0; have hfz10_1 := zAd BK200.out 1) | (go_at_call 51; (with_reducible refine (zAw.calls k _ _ l1_1 t202 _ ?side1 ?side2 A4.out).mono ?_); (case side1 => repeat (first | exact (Kd.zAx HR1_1.out (by repeat (first | (with_reducible first | exact HB.out | apply zA2 | apply zA0 | apply zA3 | refine zA5 ?_ GE199.out | refine zA5 ?_ GE200.out) | exact HB.out))) | (with_reducible refine Kd.zAj ?_ _) | (with_reducible refine Kd.zAr ?_ _) | (with_reducible refine Kd.zB9 ?_))); (case side2 => exact HC1_1.out); rintro e w' ⟨rfl, ⟨nd, rfl⟩⟩; (try first | exact ⟨rfl, _, World.drewN_drewN _ _ _⟩ | exact ⟨rfl, _, Eq.trans (World.drewN_drewN _ _ _) (congrArg (World.drewN _) (Nat.add_assoc _ _ _))⟩)))
  repeat (go_quiet (first | ((with_reducible refine zBk (N := 2) rfl ?_); refine zBl ?hg (N := 2) ?hd (cs := #[.string a0_0, .slice A0_1 l0_1.length c0_1]) (t := 60) ?hr ?_; (case hd => rfl); (case hg => rfl); (case hr => first | (go_simp; done) | (go_simp; rfl)); intro gb199 hg w6 hbox hb; have n0_ := zA1.mk (zAg (by repeat (first | (with_reducible first | exact HB.out | apply zA2 | apply zA0 | apply zA3) | exact HB.out)) hb); have n1_ := zA1.mk (hbox); have n2_ := zA1.mk ((by rw [hg]; exact (zAb (by repeat (first | (with_reducible first | exact HB.out | apply zA2 | apply zA0 | apply zA3) | exact HB.out))) : w.heap.size ≤ gb199)); have n3_ := zA1.mk ((by rw [hg]; exact (zAb (by repeat (first | (with_reducible first | exact HB.out | apply zA2 | apply zA0 | apply zA3) | exact HB.out))) : w.heap.size ≤ gb199)); clear HB; have HB := n0_; have BK199 := n1_; have GW199 := n2_; have GE199 := n3_; clear n0_ n1_ n2_ n3_; clear hb hbox hg) | ((with_reducible refine zBk (N := 3) rfl ?_); refine zBl ?hg (N := 3) ?hd (cs := #[.string a1_0, .slice A1_1 l1_1.length c1_1]) (t := 60) ?hr ?_; (case hd => rfl); (case hg => rfl); (case hr => first | (go_simp; done) | (go_simp; rfl)); intro gb200 hg w7 hbox hb; have n0_ := zA1.mk (zAq (g := gb199) (o := .cells #[.string a0_0, .slice A0_1 l0_1.length c0_1] 60 (0, 0)) (by (with_reducible repeat (first | refine zA7 ?_ _ | refine zA8 ?_ | refine zA6 ?_ _)); exact BK199.out) hb); have n1_ := zA1.mk (zAg (by repeat (first | (with_reducible first | exact HB.out | apply zA2 | apply zA0 | apply zA3 | refine zA5 ?_ GE199.out) | exact HB.out)) hb); have n2_ := zA1.mk (hbox); have n3_ := zA1.mk ((by rw [hg]; exact (zAb (by repeat (first | (with_reducible first | exact HB.out | apply zA2 | apply zA0 | apply zA3 | refine zA5 ?_ GE199.out) | exact HB.out))) : w.heap.size ≤ gb200)); have n4_ := zA1.mk ((by rw [hg]; exact (zAb (by repeat (first | (with_reducible first | exact HB.out | apply zA2 | apply zA0 | apply zA3 | refine zA5 ?_ GE199.out) | exact HB.out))) : w.heap.size ≤ gb200)); have n5_ := zA1.mk ((by rw [hg]; exact Nat.ne_of_lt (zC7 (g := gb199) (o := .cells #[.string a0_0, .slice A0_1 l0_1.length c0_1] 60 (0, 0)) (by (with_reducible repeat (first | refine zA7 ?_ _ | refine zA8 ?_ | refine zA6 ?_ _)); exact BK199.out)) : gb199 ≠ gb200)); have n6_ := zA1.mk ((by rw [hg]; exact Nat.ne_of_gt (zC7 (g := gb199) (o := .cells #[.string a0_0, .slice A0_1 l0_1.length c0_1] 60 (0, 0)) (by (with_reducible repeat (first | refine zA7 ?_ _ | refine zA8 ?_ | refine zA6 ?_ _)); exact BK199.out)) : gb200 ≠ gb199)); clear BK199; clear HB; have BK199 := n0_; have HB := n1_; have BK200 := n2_; have GW200 := n3_; have GE200 := n4_; have NB199_200 := n5_; have NB200_199 := n6_; clear n0_ n1_ n2_ n3_ n4_ n5_ n6_; clear hb hbox hg; have hnb8 := NB199_200.out; have hnc8 := NB200_199.out; have hcz9_0 : w7.cell? ⟨gb199, 0, none⟩ = some (.string a0_0) := (zA9 BK199.out 0).trans rfl; have hcz9_1 : w7.cell? ⟨gb199, 1, none⟩ = some (.slice A0_1 l0_1.length c0_1) := (zA9 BK199.out 1).trans rfl; have hfz9_0 := zAd BK199.out 0; have hfz9_1 := zAd BK199.out 1) | (go_at_call 51; (with_reducible refine (zAw.calls k _ _ l0_1 t201 _ ?side1 ?side2 A3.out).mono ?_); (case side1 => repeat (first | exact (Kd.zAx HR0_1.out HB.out) | (with_reducible refine Kd.zAj ?_ _) | (with_reducible refine Kd.zAr ?_ _) | (with_reducible refine Kd.zB9 ?_))); (case side2 => exact HC0_1.out); rintro e w' ⟨rfl, ⟨nd, rfl⟩⟩; (try first | exact ⟨rfl, _, World.drewN_drewN _ _ _⟩ | exact ⟨rfl, _, Eq.trans (World.drewN_drewN _ _ _) (congrArg (World.drewN _) (Nat.add_assoc _ _ _))⟩); have hcz10_0 : w7.cell? ⟨gb200, 0, none⟩ = some (.string a1_0) := (zA9 BK200.out 0).trans rfl; have hcz10_1 : w7.cell? ⟨gb200, 1, none⟩ = some (.slice A1_1 l1_1.length c1_1) := (zA9 BK200.out 1).trans rfl; have hfz10_0 := zAd BK200.out 0; have hfz10_1 := zAd BK200.out 1) | (go_at_call 51; (with_reducible refine (zAw.calls k _ _ l1_1 t202 _ ?side1 ?side2 A4.out).mono ?_); (case side1 => repeat (first | exact (Kd.zAx HR1_1.out (by repeat (first | (with_reducible first | exact HB.out | apply zA2 | apply zA0 | apply zA3 | refine zA5 ?_ GE199.out | refine zA5 ?_ GE200.out) | exact HB.out))) | (with_reducible refine Kd.zAj ?_ _) | (with_reducible refine Kd.zAr ?_ _) | (with_reducible refine Kd.zB9 ?_))); (case side2 => exact HC1_1.out); rintro e w' ⟨rfl, ⟨nd, rfl⟩⟩; (try first | exact ⟨rfl, _, World.drewN_drewN _ _ _⟩ | exact ⟨rfl, _, Eq.trans (World.drewN_drewN _ _ _) (congrArg (World.drewN _) (Nat.add_assoc _ _ _))⟩))); try go_wp2_with (first | ((with_reducible refine zBk (N := 2) rfl ?_); refine zBl ?hg (N := 2) ?hd (cs := #[.string a0_0, .slice A0_1 l0_1.length c0_1]) (t := 60) ?hr ?_; (case hd => rfl); (case hg => rfl); (case hr => first | (go_simp; done) | (go_simp; rfl)); intro gb199 hg w6 hbox hb; have n0_ := zA1.mk (zAg (by repeat (first | (with_reducible first | exact HB.out | apply zA2 | apply zA0 | apply zA3) | exact HB.out)) hb); have n1_ := zA1.mk (hbox); have n2_ := zA1.mk ((by rw [hg]; exact (zAb (by repeat (first | (with_reducible first | exact HB.out | apply zA2 | apply zA0 | apply zA3) | exact HB.out))) : w.heap.size ≤ gb199)); have n3_ := zA1.mk ((by rw [hg]; exact (zAb (by repeat (first | (with_reducible first | exact HB.out | apply zA2 | apply zA0 | apply zA3) | exact HB.out))) : w.heap.size ≤ gb199)); clear HB; have HB := n0_; have BK199 := n1_; have GW199 := n2_; have GE199 := n3_; clear n0_ n1_ n2_ n3_; clear hb hbox hg) | ((with_reducible refine zBk (N := 3) rfl ?_); refine zBl ?hg (N := 3) ?hd (cs := #[.string a1_0, .slice A1_1 l1_1.length c1_1]) (t := 60) ?hr ?_; (case hd => rfl); (case hg => rfl); (case hr => first | (go_simp; done) | (go_simp; rfl)); intro gb200 hg w7 hbox hb; have n0_ := zA1.mk (zAq (g := gb199) (o := .cells #[.string a0_0, .slice A0_1 l0_1.length c0_1] 60 (0, 0)) (by (with_reducible repeat (first | refine zA7 ?_ _ | refine zA8 ?_ | refine zA6 ?_ _)); exact BK199.out) hb); have n1_ := zA1.mk (zAg (by repeat (first | (with_reducible first | exact HB.out | apply zA2 | apply zA0 | apply zA3 | refine zA5 ?_ GE199.out) | exact HB.out)) hb); have n2_ := zA1.mk (hbox); have n3_ := zA1.mk ((by rw [hg]; exact (zAb (by repeat (first | (with_reducible first | exact HB.out | apply zA2 | apply zA0 | apply zA3 | refine zA5 ?_ GE199.out) | exact HB.out))) : w.heap.size ≤ gb200)); have n4_ := zA1.mk ((by rw [hg]; exact (zAb (by repeat (first | (with_reducible first | exact HB.out | apply zA2 | apply zA0 | apply zA3 | refine zA5 ?_ GE199.out) | exact HB.out))) : w.heap.size ≤ gb200)); have n5_ := zA1.mk ((by rw [hg]; exact Nat.ne_of_lt (zC7 (g := gb199) (o := .cells #[.string a0_0, .slice A0_1 l0_1.length c0_1] 60 (0, 0)) (by (with_reducible repeat (first | refine zA7 ?_ _ | refine zA8 ?_ | refine zA6 ?_ _)); exact BK199.out)) : gb199 ≠ gb200)); have n6_ := zA1.mk ((by rw [hg]; exact Nat.ne_of_gt (zC7 (g := gb199) (o := .cells #[.string a0_0, .slice A0_1 l0_1.length c0_1] 60 (0, 0)) (by (with_reducible repeat (first | refine zA7 ?_ _ | refine zA8 ?_ | refine zA6 ?_ _)); exact BK199.out)) : gb200 ≠ gb199)); clear BK199; clear HB; have BK199 := n0_; have HB := n1_; have BK200 := n2_; have GW200 := n3_; have GE200 := n4_; have NB199_200 := n5_; have NB200_199 := n6_; clear n0_ n1_ n2_ n3_ n4_ n5_ n6_; clear hb hbox hg; have hnb8 := NB199_200.out; have hnc8 := NB200_199.out; have hcz9_0 : w7.cell? ⟨gb199, 0, none⟩ = some (.string a0_0) := (zA9 BK199.out 0).trans rfl; have hcz9_1 : w7.cell? ⟨gb199, 1, none⟩ = some (.slice A0_1 l0_1.length c0_1) := (zA9 BK199.out 1).trans rfl; have hfz9_0 := zAd BK199.out 0; have hfz9_1 := zAd BK199.out 1) | (go_at_call 51; (with_reducible refine (zAw.calls k _ _ l0_1 t201 _ ?side1 ?side2 A3.out).mono ?_); (case side1 => repeat (first | exact (Kd.zAx HR0_1.out HB.out) | (with_reducible refine Kd.zAj ?_ _) | (with_reducible refine Kd.zAr ?_ _) | (with_reducible refine Kd.zB9 ?_))); (case side2 => exact HC0_1.out); rintro e w' ⟨rfl, ⟨nd, rfl⟩⟩; (try first | exact ⟨rfl, _, World.drewN_drewN _ _ _⟩ | exact ⟨rfl, _, Eq.trans (World.drewN_drewN _ _ _) (congrArg (World.drewN _) (Nat.add_assoc _ _ _))⟩); have hcz10_0 : w7.cell? ⟨gb200, 0, none⟩ = some (.string a1_0) := (zA9 BK200.out 0).trans rfl; have hcz10_1 : w7.cell? ⟨gb200, 1, none⟩ = some (.slice A1_1 l1_1.length c1_1) := (zA9 BK200.out 1).trans rfl; have hfz10_0 := zAd BK200.out 0; have hfz10_1 := zAd BK200.out 1) | (go_at_call 51; (with_reducible refine (zAw.calls k _ _ l1_1 t202 _ ?side1 ?side2 A4.out).mono ?_); (case side1 => repeat (first | exact (Kd.zAx HR1_1.out (by repeat (first | (with_reducible first | exact HB.out | apply zA2 | apply zA0 | apply zA3 | refine zA5 ?_ GE199.out | refine zA5 ?_ GE200.out) | exact HB.out))) | (with_reducible refine Kd.zAj ?_ _) | (with_reducible refine Kd.zAr ?_ _) | (with_reducible refine Kd.zB9 ?_))); (case side2 => exact HC1_1.out); rintro e w' ⟨rfl, ⟨nd, rfl⟩⟩; (try first | exact ⟨rfl, _, World.drewN_drewN _ _ _⟩ | exact ⟨rfl, _, Eq.trans (World.drewN_drewN _ _ _) (congrArg (World.drewN _) (Nat.add_assoc _ _ _))⟩))))
  go_ret
  exact ⟨by first | rfl | (simp [zAp, zAo] <;> rfl) | (simp [*, zAp, zAo] <;> rfl), by repeat (first | (with_reducible first | exact HB.out | apply zA2 | apply zA0 | apply zA3 | refine zA5 ?_ GE199.out | refine zA5 ?_ GE200.out) | exact HB.out)⟩
 ·rw [if_neg c5] at H
  have c5b0 : (t201 == t202) = false := beq_eq_false_iff_ne.mpr c5
  have c5b1 : (t201 != t202) = true := bne_iff_ne.mpr c5
  obtain rfl := Option.some.inj H
  go_enter Tryz.func48, Tryz.ntmps48
  go_wp2_with (first | ((with_reducible refine zBk (N := 2) rfl ?_); refine zBl ?hg (N := 2) ?hd (cs := #[.string a0_0, .slice A0_1 l0_1.length c0_1]) (t := 60) ?hr ?_; (case hd => rfl); (case hg => rfl); (case hr => first | (go_simp; done) | (go_simp; rfl)); intro gb199 hg w11 hbox hb; have n0_ := zA1.mk (zAg (by repeat (first | (with_reducible first | exact HB.out | apply zA2 | apply zA0 | apply zA3) | exact HB.out)) hb); have n1_ := zA1.mk (hbox); have n2_ := zA1.mk ((by rw [hg]; exact (zAb (by repeat (first | (with_reducible first | exact HB.out | apply zA2 | apply zA0 | apply zA3) | exact HB.out))) : w.heap.size ≤ gb199)); have n3_ := zA1.mk ((by rw [hg]; exact (zAb (by repeat (first | (with_reducible first | exact HB.out | apply zA2 | apply zA0 | apply zA3) | exact HB.out))) : w.heap.size ≤ gb199)); clear HB; have HB := n0_; have BK199 := n1_; have GW199 := n2_; have GE199 := n3_; clear n0_ n1_ n2_ n3_; clear hb hbox hg) | ((with_reducible refine zBk (N := 3) rfl ?_); refine zBl ?hg (N := 3) ?hd (cs := #[.string a1_0, .slice A1_1 l1_1.length c1_1]) (t := 60) ?hr ?_; (case hd => rfl); (case hg => rfl); (case hr => first | (go_simp; done) | (go_simp; rfl)); intro gb200 hg w12 hbox hb; have n0_ := zA1.mk (zAq (g := gb199) (o := .cells #[.string a0_0, .slice A0_1 l0_1.length c0_1] 60 (0, 0)) (by (with_reducible repeat (first | refine zA7 ?_ _ | refine zA8 ?_ | refine zA6 ?_ _)); exact BK199.out) hb); have n1_ := zA1.mk (zAg (by repeat (first | (with_reducible first | exact HB.out | apply zA2 | apply zA0 | apply zA3 | refine zA5 ?_ GE199.out) | exact HB.out)) hb); have n2_ := zA1.mk (hbox); have n3_ := zA1.mk ((by rw [hg]; exact (zAb (by repeat (first | (with_reducible first | exact HB.out | apply zA2 | apply zA0 | apply zA3 | refine zA5 ?_ GE199.out) | exact HB.out))) : w.heap.size ≤ gb200)); have n4_ := zA1.mk ((by rw [hg]; exact (zAb (by repeat (first | (with_reducible first | exact HB.out | apply zA2 | apply zA0 | apply zA3 | refine zA5 ?_ GE199.out) | exact HB.out))) : w.heap.size ≤ gb200)); have n5_ := zA1.mk ((by rw [hg]; exact Nat.ne_of_lt (zC7 (g := gb199) (o := .cells #[.string a0_0, .slice A0_1 l0_1.length c0_1] 60 (0, 0)) (by (with_reducible repeat (first | refine zA7 ?_ _ | refine zA8 ?_ | refine zA6 ?_ _)); exact BK199.out)) : gb199 ≠ gb200)); have n6_ := zA1.mk ((by rw [hg]; exact Nat.ne_of_gt (zC7 (g := gb199) (o := .cells #[.string a0_0, .slice A0_1 l0_1.length c0_1] 60 (0, 0)) (by (with_reducible repeat (first | refine zA7 ?_ _ | refine zA8 ?_ | refine zA6 ?_ _)); exact BK199.out)) : gb200 ≠ gb199)); clear BK199; clear HB; have BK199 := n0_; have HB := n1_; have BK200 := n2_; have GW200 := n3_; have GE200 := n4_; have NB199_200 := n5_; have NB200_199 := n6_; clear n0_ n1_ n2_ n3_ n4_ n5_ n6_; clear hb hbox hg; have hnb13 := NB199_200.out; have hnc13 := NB200_199.out; have hcz14_0 : w12.cell? ⟨gb199, 0, none⟩ = some (.string a0_0) := (zA9 BK199.out 0).trans rfl; have hcz14_1 : w12.cell? ⟨gb199, 1, none⟩ = some (.slice A0_1 l0_1.length c0_1) := (zA9 BK199.out 1).trans rfl; have hfz14_0 := zAd BK199.out 0; have hfz14_1 := zAd BK199.out 1) | (go_at_call 51; (with_reducible refine (zAw.calls k _ _ l0_1 t201 _ ?side1 ?side2 A3.out).mono ?_); (case side1 => repeat (first | exact (Kd.zAx HR0_1.out HB.out) | (with_reducible refine Kd.zAj ?_ _) | (with_reducible refine Kd.zAr ?_ _) | (with_reducible refine Kd.zB9 ?_))); (case side2 => exact HC0_1.out); rintro e w' ⟨rfl, ⟨nd, rfl⟩⟩; (try first | exact ⟨rfl, _, World.drewN_drewN _ _ _⟩ | exact ⟨rfl, _, Eq.trans (World.drewN_drewN _ _ _) (congrArg (World.drewN _) (Nat.add_assoc _ _ _))⟩); have hcz15_0 : w12.cell? ⟨gb200, 0, none⟩ = some (.string a1_0) := (zA9 BK200.out 0).trans rfl; have hcz15_1 : w12.cell? ⟨gb200, 1, none⟩ = some (.slice A1_1 l1_1.length c1_1) := (zA9 BK200.out 1).trans rfl; have hfz15_0 := zAd BK200.out 0; have hfz15_1 := zAd BK200.out 1) | (go_at_call 51; (with_reducible refine (zAw.calls k _ _ l1_1 t202 _ ?side1 ?side2 A4.out).mono ?_); (case side1 => repeat (first | exact (Kd.zAx HR1_1.out (by repeat (first | (with_reducible first | exact HB.out | apply zA2 | apply zA0 | apply zA3 | refine zA5 ?_ GE199.out | refine zA5 ?_ GE200.out) | exact HB.out))) | (with_reducible refine Kd.zAj ?_ _) | (with_reducible refine Kd.zAr ?_ _) | (with_reducible refine Kd.zB9 ?_))); (case side2 => exact HC1_1.out); rintro e w' ⟨rfl, ⟨nd, rfl⟩⟩; (try first | exact ⟨rfl, _, World.drewN_drewN _ _ _⟩ | exact ⟨rfl, _, Eq.trans (World.drewN_drewN _ _ _) (congrArg (World.drewN _) (Nat.add_assoc _ _ _))⟩)))
  repeat (go_quiet (first | ((with_reducible refine zBk (N := 2) rfl ?_); refine zBl ?hg (N := 2) ?hd (cs := #[.string a0_0, .slice A0_1 l0_1.length c0_1]) (t := 60) ?hr ?_; (case hd => rfl); (case hg => rfl); (case hr => first | (go_simp; done) | (go_simp; rfl)); intro gb199 hg w11 hbox hb; have n0_ := zA1.mk (zAg (by repeat (first | (with_reducible first | exact HB.out | apply zA2 | apply zA0 | apply zA3) | exact HB.out)) hb); have n1_ := zA1.mk (hbox); have n2_ := zA1.mk ((by rw [hg]; exact (zAb (by repeat (first | (with_reducible first | exact HB.out | apply zA2 | apply zA0 | apply zA3) | exact HB.out))) : w.heap.size ≤ gb199)); have n3_ := zA1.mk ((by rw [hg]; exact (zAb (by repeat (first | (with_reducible first | exact HB.out | apply zA2 | apply zA0 | apply zA3) | exact HB.out))) : w.heap.size ≤ gb199)); clear HB; have HB := n0_; have BK199 := n1_; have GW199 := n2_; have GE199 := n3_; clear n0_ n1_ n2_ n3_; clear hb hbox hg) | ((with_reducible refine zBk (N := 3) rfl ?_); refine zBl ?hg (N := 3) ?hd (cs := #[.string a1_0, .slice A1_1 l1_1.length c1_1]) (t := 60) ?hr ?_; (case hd => rfl); (case hg => rfl); (case hr => first | (go_simp; done) | (go_simp; rfl)); intro gb200 hg w12 hbox hb; have n0_ := zA1.mk (zAq (g := gb199) (o := .cells #[.string a0_0, .slice A0_1 l0_1.length c0_1] 60 (0, 0)) (by (with_reducible repeat (first | refine zA7 ?_ _ | refine zA8 ?_ | refine zA6 ?_ _)); exact BK199.out) hb); have n1_ := zA1.mk (zAg (by repeat (first | (with_reducible first | exact HB.out | apply zA2 | apply zA0 | apply zA3 | refine zA5 ?_ GE199.out) | exact HB.out)) hb); have n2_ := zA1.mk (hbox); have n3_ := zA1.mk ((by rw [hg]; exact (zAb (by repeat (first | (with_reducible first | exact HB.out | apply zA2 | apply zA0 | apply zA3 | refine zA5 ?_ GE199.out) | exact HB.out))) : w.heap.size ≤ gb200)); have n4_ := zA1.mk ((by rw [hg]; exact (zAb (by repeat (first | (with_reducible first | exact HB.out | apply zA2 | apply zA0 | apply zA3 | refine zA5 ?_ GE199.out) | exact HB.out))) : w.heap.size ≤ gb200)); have n5_ := zA1.mk ((by rw [hg]; exact Nat.ne_of_lt (zC7 (g := gb199) (o := .cells #[.string a0_0, .slice A0_1 l0_1.length c0_1] 60 (0, 0)) (by (with_reducible repeat (first | refine zA7 ?_ _ | refine zA8 ?_ | refine zA6 ?_ _)); exact BK199.out)) : gb199 ≠ gb200)); have n6_ := zA1.mk ((by rw [hg]; exact Nat.ne_of_gt (zC7 (g := gb199) (o := .cells #[.string a0_0, .slice A0_1 l0_1.length c0_1] 60 (0, 0)) (by (with_reducible repeat (first | refine zA7 ?_ _ | refine zA8 ?_ | refine zA6 ?_ _)); exact BK199.out)) : gb200 ≠ gb199)); clear BK199; clear HB; have BK199 := n0_; have HB := n1_; have BK200 := n2_; have GW200 := n3_; have GE200 := n4_; have NB199_200 := n5_; have NB200_199 := n6_; clear n0_ n1_ n2_ n3_ n4_ n5_ n6_; clear hb hbox hg; have hnb13 := NB199_200.out; have hnc13 := NB200_199.out; have hcz14_0 : w12.cell? ⟨gb199, 0, none⟩ = some (.string a0_0) := (zA9 BK199.out 0).trans rfl; have hcz14_1 : w12.cell? ⟨gb199, 1, none⟩ = some (.slice A0_1 l0_1.length c0_1) := (zA9 BK199.out 1).trans rfl; have hfz14_0 := zAd BK199.out 0; have hfz14_1 := zAd BK199.out 1) | (go_at_call 51; (with_reducible refine (zAw.calls k _ _ l0_1 t201 _ ?side1 ?side2 A3.out).mono ?_); (case side1 => repeat (first | exact (Kd.zAx HR0_1.out HB.out) | (with_reducible refine Kd.zAj ?_ _) | (with_reducible refine Kd.zAr ?_ _) | (with_reducible refine Kd.zB9 ?_))); (case side2 => exact HC0_1.out); rintro e w' ⟨rfl, ⟨nd, rfl⟩⟩; (try first | exact ⟨rfl, _, World.drewN_drewN _ _ _⟩ | exact ⟨rfl, _, Eq.trans (World.drewN_drewN _ _ _) (congrArg (World.drewN _) (Nat.add_assoc _ _ _))⟩); have hcz15_0 : w12.cell? ⟨gb200, 0, none⟩ = some (.string a1_0) := (zA9 BK200.out 0).trans rfl; have hcz15_1 : w12.cell? ⟨gb200, 1, none⟩ = some (.slice A1_1 l1_1.length c1_1) := (zA9 BK200.out 1).trans rfl; have hfz15_0 := zAd BK200.out 0; have hfz15_1 := zAd BK200.out 1) | (go_at_call 51; (with_reducible refine (zAw.calls k _ _ l1_1 t202 _ ?side1 ?side2 A4.out).mono ?_); (case side1 => repeat (first | exact (Kd.zAx HR1_1.out (by repeat (first | (with_reducible first | exact HB.out | apply zA2 | apply zA0 | apply zA3 | refine zA5 ?_ GE199.out | refine zA5 ?_ GE200.out) | exact HB.out))) | (with_reducible refine Kd.zAj ?_ _) | (with_reducible refine Kd.zAr ?_ _) | (with_reducible refine Kd.zB9 ?_))); (case side2 => exact HC1_1.out); rintro e w' ⟨rfl, ⟨nd, rfl⟩⟩; (try first | exact ⟨rfl, _, World.drewN_drewN _ _ _⟩ | exact ⟨rfl, _, Eq.trans (World.drewN_drewN _ _ _) (congrArg (World.drewN _) (Nat.add_assoc _ _ _))⟩))); try go_wp2_with (first | ((with_reducible refine zBk (N := 2) rfl ?_); refine zBl ?hg (N := 2) ?hd (cs := #[.string a0_0, .slice A0_1 l0_1.length c0_1]) (t := 60) ?hr ?_; (case hd => rfl); (case hg => rfl); (case hr => first | (go_simp; done) | (go_simp; rfl)); intro gb199 hg w11 hbox hb; have n0_ := zA1.mk (zAg (by repeat (first | (with_reducible first | exact HB.out | apply zA2 | apply zA0 | apply zA3) | exact HB.out)) hb); have n1_ := zA1.mk (hbox); have n2_ := zA1.mk ((by rw [hg]; exact (zAb (by repeat (first | (with_reducible first | exact HB.out | apply zA2 | apply zA0 | apply zA3) | exact HB.out))) : w.heap.size ≤ gb199)); have n3_ := zA1.mk ((by rw [hg]; exact (zAb (by repeat (first | (with_reducible first | exact HB.out | apply zA2 | apply zA0 | apply zA3) | exact HB.out))) : w.heap.size ≤ gb199)); clear HB; have HB := n0_; have BK199 := n1_; have GW199 := n2_; have GE199 := n3_; clear n0_ n1_ n2_ n3_; clear hb hbox hg) | ((with_reducible refine zBk (N := 3) rfl ?_); refine zBl ?hg (N := 3) ?hd (cs := #[.string a1_0, .slice A1_1 l1_1.length c1_1]) (t := 60) ?hr ?_; (case hd => rfl); (case hg => rfl); (case hr => first | (go_simp; done) | (go_simp; rfl)); intro gb200 hg w12 hbox hb; have n0_ := zA1.mk (zAq (g := gb199) (o := .cells #[.string a0_0, .slice A0_1 l0_1.length c0_1] 60 (0, 0)) (by (with_reducible repeat (first | refine zA7 ?_ _ | refine zA8 ?_ | refine zA6 ?_ _)); exact BK199.out) hb); have n1_ := zA1.mk (zAg (by repeat (first | (with_reducible first | exact HB.out | apply zA2 | apply zA0 | apply zA3 | refine zA5 ?_ GE199.out) | exact HB.out)) hb); have n2_ := zA1.mk (hbox); have n3_ := zA1.mk ((by rw [hg]; exact (zAb (by repeat (first | (with_reducible first | exact HB.out | apply zA2 | apply zA0 | apply zA3 | refine zA5 ?_ GE199.out) | exact HB.out))) : w.heap.size ≤ gb200)); have n4_ := zA1.mk ((by rw [hg]; exact (zAb (by repeat (first | (with_reducible first | exact HB.out | apply zA2 | apply zA0 | apply zA3 | refine zA5 ?_ GE199.out) | exact HB.out))) : w.heap.size ≤ gb200)); have n5_ := zA1.mk ((by rw [hg]; exact Nat.ne_of_lt (zC7 (g := gb199) (o := .cells #[.string a0_0, .slice A0_1 l0_1.length c0_1] 60 (0, 0)) (by (with_reducible repeat (first | refine zA7 ?_ _ | refine zA8 ?_ | refine zA6 ?_ _)); exact BK199.out)) : gb199 ≠ gb200)); have n6_ := zA1.mk ((by rw [hg]; exact Nat.ne_of_gt (zC7 (g := gb199) (o := .cells #[.string a0_0, .slice A0_1 l0_1.length c0_1] 60 (0, 0)) (by (with_reducible repeat (first | refine zA7 ?_ _ | refine zA8 ?_ | refine zA6 ?_ _)); exact BK199.out)) : gb200 ≠ gb199)); clear BK199; clear HB; have BK199 := n0_; have HB := n1_; have BK200 := n2_; have GW200 := n3_; have GE200 := n4_; have NB199_200 := n5_; have NB200_199 := n6_; clear n0_ n1_ n2_ n3_ n4_ n5_ n6_; clear hb hbox hg; have hnb13 := NB199_200.out; have hnc13 := NB200_199.out; have hcz14_0 : w12.cell? ⟨gb199, 0, none⟩ = some (.string a0_0) := (zA9 BK199.out 0).trans rfl; have hcz14_1 : w12.cell? ⟨gb199, 1, none⟩ = some (.slice A0_1 l0_1.length c0_1) := (zA9 BK199.out 1).trans rfl; have hfz14_0 := zAd BK199.out 0; have hfz14_1 := zAd BK199.out 1) | (go_at_call 51; (with_reducible refine (zAw.calls k _ _ l0_1 t201 _ ?side1 ?side2 A3.out).mono ?_); (case side1 => repeat (first | exact (Kd.zAx HR0_1.out HB.out) | (with_reducible refine Kd.zAj ?_ _) | (with_reducible refine Kd.zAr ?_ _) | (with_reducible refine Kd.zB9 ?_))); (case side2 => exact HC0_1.out); rintro e w' ⟨rfl, ⟨nd, rfl⟩⟩; (try first | exact ⟨rfl, _, World.drewN_drewN _ _ _⟩ | exact ⟨rfl, _, Eq.trans (World.drewN_drewN _ _ _) (congrArg (World.drewN _) (Nat.add_assoc _ _ _))⟩); have hcz15_0 : w12.cell? ⟨gb200, 0, none⟩ = some (.string a1_0) := (zA9 BK200.out 0).trans rfl; have hcz15_1 : w12.cell? ⟨gb200, 1, none⟩ = some (.slice A1_1 l1_1.length c1_1) := (zA9 BK200.out 1).trans rfl; have hfz15_0 := zAd BK200.out 0; have hfz15_1 := zAd BK200.out 1) | (go_at_call 51; (with_reducible refine (zAw.calls k _ _ l1_1 t202 _ ?side1 ?side2 A4.out).mono ?_); (case side1 => repeat (first | exact (Kd.zAx HR1_1.out (by repeat (first | (with_reducible first | exact HB.out | apply zA2 | apply zA0 | apply zA3 | refine zA5 ?_ GE199.out | refine zA5 ?_ GE200.out) | exact HB.out))) | (with_reducible refine Kd.zAj ?_ _) | (with_reducible refine Kd.zAr ?_ _) | (with_reducible refine Kd.zB9 ?_))); (case side2 => exact HC1_1.out); rintro e w' ⟨rfl, ⟨nd, rfl⟩⟩; (try first | exact ⟨rfl, _, World.drewN_drewN _ _ _⟩ | exact ⟨rfl, _, Eq.trans (World.drewN_drewN _ _ _) (congrArg (World.drewN _) (Nat.add_assoc _ _ _))⟩))))
  go_ret
  exact ⟨by first | rfl | (simp [zAp, zAo] <;> rfl) | (simp [*, zAp, zAo] <;> rfl), by repeat (first | (with_reducible first | exact HB.out | apply zA2 | apply zA0 | apply zA3 | refine zA5 ?_ GE199.out | refine zA5 ?_ GE200.out) | exact HB.out)⟩
end
end Go.Proofs.YtbghfbhlbfcloaaGreatDoor.PL
namespace Go.Proofs.YtbghfbhlbfcloaaGreatDoor.PL
section
open Go.RowKit Go.Proofs.YtbghfbhlbfcloaaGreatDoorW.PrintWords Go.Proofs.YtbghfbhlbfcloaaGreatDoorW.PrintLast Go.Proofs.YtbghfbhlbfcloaaGreatDoorW.PrintMore
attribute [local go_sem] zBv zBt zC5 zC4 zBo zBn zBu zBs   -- for this text's walks alone
set_option linter.unusedVariables false
set_option linter.unusedSimpArgs false
def zBd.l0 : Nat → List Int → List Int → Int → Int → Option (Bool)
 | 0, _, _, _, _ => none
 | k + 1, x0, x1, x12, x13 => if x13 < x12 then (if 0 ≤ x13 then (if x13 < (x0.length : Int) then (if x13 < (x1.length : Int) then (if (rd x0 x13) = (rd x1 x13) then (zBd.l0 k x0 x1 x12 (wrap64 (x13 + 1))) else (some false)) else (none)) else (none)) else (none)) else (some true)
def zBd.f (k : Nat) (l0 : List Int) (l1 : List Int) : Option (Bool) := if (l0.length : Int) = (l1.length : Int) then (zBd.l0 k l0 l1 (l0.length : Int) 0) else (some false)
theorem zBd.zBw : ∀ k, (∀ y0 y1 y2 y3, LeO (zBd.l0 k y0 y1 y2 y3) (zBd.l0 (k + 1) y0 y1 y2 y3))
 | 0 => fun _ _ _ _ r h => by simp [zBd.l0] at h
 | k + 1 => by
  have ih0 := zBd.zBw k
  ·intro y0 y1 y2 y3
   unfold zBd.l0
   repeat' first
   | (with_reducible exact ih0 _ _ _ _)
   | (with_reducible exact LeO.refl _)
   | (with_reducible exact LeO.none _)
   | (with_reducible refine LeO.ite ?_ ?_)
   | (with_reducible refine LeO.bind ?_ (fun _ => ?_))
theorem zBd.mono : ∀ a0 a1 k, LeO (zBd.f k a0 a1) (zBd.f (k + 1) a0 a1) := by
 intro a0 a1 k
 have ih0 := zBd.zBw k
 unfold zBd.f
 repeat' first
   | (with_reducible exact ih0 _ _ _ _)
   | (with_reducible exact LeO.refl _)
   | (with_reducible exact LeO.none _)
   | (with_reducible refine LeO.ite ?_ ?_)
   | (with_reducible refine LeO.bind ?_ (fun _ => ?_))
set_option maxHeartbeats 8000000 in
set_option maxRecDepth 100000 in
theorem zBd.calls (k : Nat) (A0 : Option Addr) (c0 : Nat) (l0 : List Int) (A1 : Option Addr) (c1 : Nat) (l1 : List Int) (r : Bool) (w : World) (hr0 : Kd.C (Kd.int .i64) w A0 l0.length l0) (hc0 : l0.length ≤ c0) (hr1 : Kd.C (Kd.int .i64) w A1 l1.length l1) (hc1 : l1.length ≤ c1) (h : zBd.f k l0 l1 = some r) :
  Calls Tryz.prog 69 #[.slice A0 l0.length c0, .slice A1 l1.length c1] w fun e w' => e = .returned (.bool r) ∧ zB6 w w' := by
 have HR0 := zA1.mk hr0
 have HC0 := zA1.mk hc0
 clear hr0 hc0
 have HR1 := zA1.mk hr1
 have HC1 := zA1.mk hc1
 clear hr1 hc1
 have H : (if (l0.length : Int) = (l1.length : Int) then (zBd.l0 k l0 l1 (l0.length : Int) 0) else (some false)) = some r := h
 clear h
 by_cases c3 : (l0.length : Int) = (l1.length : Int)
 ·rw [if_pos c3] at H
  have c3b0 : ((l0.length : Int) == (l1.length : Int)) = true := beq_iff_eq.mpr c3
  have c3b1 : ((l0.length : Int) != (l1.length : Int)) = false := bne_eq_false_iff_eq.mpr c3
  have c3b2 : (l0.length == l1.length) = true := by first | simpa using c3 | (simp at c3 ⊢; omega)
  clear c3
  have H' := zA1.mk H
  clear H
  go_enter Tryz.func69, Tryz.ntmps69
  go_wp2
  repeat (go_quiet (fail); try go_wp2)
  go_loopg [13] k (fun kq v13 w' => ∃ (x13_1 : Int), v13 = .int .i64 x13_1 ∧ zA1 (zBd.l0 kq l0 l1 (l0.length : Int) x13_1 = some r) ∧ zA1 (kq ≤ k) ∧ zB6 w w')
  case atStart => exact ⟨(0), (by first | rfl | (simp; done) | (simp [*]; done)), H', ⟨Nat.le_refl _⟩, by repeat (first | exact zB6.refl _ | apply zB6.step)⟩
  case round =>
   clear H'
   try clear c1
   try clear p2
   try clear c3
   try clear c3b0
   try clear c3b1
   try clear c3b2
   obtain ⟨x13_1, rfl, HA, HK1, ⟨m1, rfl⟩⟩ := hrel
   cases gk with
   | zero => exact absurd HA.out (by simp [zBd.l0])
   | succ k1 =>
    have H := HA.out
    clear HA
    simp only [zBd.l0] at H
    by_cases c4 : x13_1 < (l0.length : Int)
    ·rw [if_pos c4] at H
     have c4b0 : decide (x13_1 < (l0.length : Int)) = true := decide_eq_true c4
     clear c4
     by_cases c5 : 0 ≤ x13_1
     rotate_left
     ·rw [if_neg c5] at H
      exact absurd H (by simp)
     rw [if_pos c5] at H
     have c5b0 : decide (0 ≤ x13_1) = true := decide_eq_true c5
     clear c5
     by_cases c6 : x13_1 < (l0.length : Int)
     rotate_left
     ·rw [if_neg c6] at H
      exact absurd H (by simp)
     rw [if_pos c6] at H
     have c6b0 : decide (x13_1 < (l0.length : Int)) = true := decide_eq_true c6
     clear c6
     by_cases c7 : x13_1 < (l1.length : Int)
     rotate_left
     ·rw [if_neg c7] at H
      exact absurd H (by simp)
     rw [if_pos c7] at H
     have c7b0 : decide (x13_1 < (l1.length : Int)) = true := decide_eq_true c7
     clear c7
     by_cases c8 : (rd l0 x13_1) = (rd l1 x13_1)
     ·rw [if_pos c8] at H
      have c8b0 : ((rd l0 x13_1) == (rd l1 x13_1)) = true := beq_iff_eq.mpr c8
      have c8b1 : ((rd l0 x13_1) != (rd l1 x13_1)) = false := bne_eq_false_iff_eq.mpr c8
      clear c8
      have H' := zA1.mk H
      clear H
      have p197 : 0 ≤ (x13_1 : Int) := of_decide_eq_true (by first | (with_reducible assumption) | assumption)
      have q197 : x13_1 < (l0.length : Int) := of_decide_eq_true (by first | (with_reducible assumption) | assumption)
      obtain ⟨ad197, e197, hx197_0⟩ := Kd.zCb HR0.out x13_1 p197 q197
      cases e197
      replace p197 := eq_true p197
      replace q197 := eq_true q197
      have p198 : 0 ≤ (x13_1 : Int) := of_decide_eq_true (by first | (with_reducible assumption) | assumption)
      have q198 : x13_1 < (l1.length : Int) := of_decide_eq_true (by first | (with_reducible assumption) | assumption)
      obtain ⟨ad198, e198, hx198_0⟩ := Kd.zCb HR1.out x13_1 p198 q198
      cases e198
      replace p198 := eq_true p198
      replace q198 := eq_true q198
      go_wp2
      repeat (go_quiet (fail); try go_wp2)
      go_roundg k1
      case measure => have := HK1.out; omega
      case rel => exact ⟨(wrap64 (x13_1 + 1)), (by first | rfl | (simp; done) | (simp [*]; done)), H', ⟨by have := HK1.out; omega⟩, by repeat (first | exact zB6.refl _ | apply zB6.step)⟩
     ·rw [if_neg c8] at H
      have c8b0 : ((rd l0 x13_1) == (rd l1 x13_1)) = false := beq_eq_false_iff_ne.mpr c8
      have c8b1 : ((rd l0 x13_1) != (rd l1 x13_1)) = true := bne_iff_ne.mpr c8
      obtain rfl := Option.some.inj H
      have p197 : 0 ≤ (x13_1 : Int) := of_decide_eq_true (by first | (with_reducible assumption) | assumption)
      have q197 : x13_1 < (l0.length : Int) := of_decide_eq_true (by first | (with_reducible assumption) | assumption)
      obtain ⟨ad197, e197, hx197_0⟩ := Kd.zCb HR0.out x13_1 p197 q197
      cases e197
      replace p197 := eq_true p197
      replace q197 := eq_true q197
      have p198 : 0 ≤ (x13_1 : Int) := of_decide_eq_true (by first | (with_reducible assumption) | assumption)
      have q198 : x13_1 < (l1.length : Int) := of_decide_eq_true (by first | (with_reducible assumption) | assumption)
      obtain ⟨ad198, e198, hx198_0⟩ := Kd.zCb HR1.out x13_1 p198 q198
      cases e198
      replace p198 := eq_true p198
      replace q198 := eq_true q198
      go_wp2
      repeat (go_quiet (fail); try go_wp2)
      go_ret
      exact ⟨by first | rfl | (simp; done) | (simp [*]; done), by repeat (first | exact zB6.refl _ | apply zB6.step)⟩
    ·rw [if_neg c4] at H
     have c4b0 : decide (x13_1 < (l0.length : Int)) = false := decide_eq_false c4
     clear c4
     obtain rfl := Option.some.inj H
     go_wp2
     repeat (go_quiet (fail); try go_wp2)
     go_ret
     exact ⟨by first | rfl | (simp; done) | (simp [*]; done), by repeat (first | exact zB6.refl _ | apply zB6.step)⟩
 ·rw [if_neg c3] at H
  have c3b0 : ((l0.length : Int) == (l1.length : Int)) = false := beq_eq_false_iff_ne.mpr c3
  have c3b1 : ((l0.length : Int) != (l1.length : Int)) = true := bne_iff_ne.mpr c3
  have c3b2 : (l0.length == l1.length) = false := by first | simpa using c3 | (simp at c3 ⊢; omega)
  obtain rfl := Option.some.inj H
  go_enter Tryz.func69, Tryz.ntmps69
  go_wp2
  repeat (go_quiet (fail); try go_wp2)
  go_ret
  exact ⟨by first | rfl | (simp; done) | (simp [*]; done), by repeat (first | exact zB6.refl _ | apply zB6.step)⟩
end
end Go.Proofs.YtbghfbhlbfcloaaGreatDoor.PL
namespace Go.Proofs
section
set_option linter.unusedVariables false
set_option linter.unusedSimpArgs false
open Go.Shelf
def Tryz.contG_ren : Go.Shelf.Ren := ⟨fun | 8 => 66 | 6 => 101 | n => n, fun | 22 => 61 | 23 => 60 | 25 => 102 | 4 => 4 | 3 => 3 | 0 => 0 | n => n, fun | n => n⟩
theorem Tryz.contG : Go.Proofs.SlLaysH0.n8 Tryz.prog Tryz.contG_ren := {
 mixed := by kernel_rfl
 f6 := ⟨Tryz.f101.name, by decide, Tryz.func101.trans (congrArg some (by kernel_rfl))⟩
 f8 := ⟨Tryz.f66.name, by decide, Tryz.func66.trans (congrArg some (by kernel_rfl))⟩
 t0 := Tryz.underlying0
 a0 := Tryz.isAgg0
 z0 := Tryz.sizeOf0
 v0 := Tryz.zeroValue0
 t3 := Tryz.underlying3
 a3 := Tryz.isAgg3
 z3 := Tryz.sizeOf3
 v3 := Tryz.zeroValue3
 t4 := Tryz.underlying4
 a4 := Tryz.isAgg4
 z4 := Tryz.sizeOf4
 v4 := Tryz.zeroValue4
 t22 := Tryz.underlying61
 a22 := Tryz.isAgg61
 z22 := Tryz.sizeOf61
 v22 := Tryz.zeroValue61
 t25 := Tryz.underlying102
 a25 := Tryz.isAgg102
 z25 := Tryz.sizeOf102
 v25 := Tryz.zeroValue102 }
def Tryz.contS_ren : Go.Shelf.Ren := ⟨fun | 17 => 99 | 15 => 113 | 20 => 117 | n => n, fun | 9 => 9 | 23 => 123 | 4 => 4 | 3 => 3 | 0 => 0 | 21 => 21 | n => n, fun | n => n⟩
theorem Tryz.contS : Go.Proofs.LaysGw.n17 Tryz.prog Tryz.contS_ren := {
 mixed := by kernel_rfl
 f15 := Tryz.func113.trans (congrArg some (by kernel_rfl))
 f17 := Tryz.func99.trans (congrArg some (by kernel_rfl))
 f20 := Tryz.func117.trans (congrArg some (by kernel_rfl))
 t0 := Tryz.underlying0
 a0 := Tryz.isAgg0
 z0 := Tryz.sizeOf0
 v0 := Tryz.zeroValue0
 i0 := by kernel_rfl
 t3 := Tryz.underlying3
 a3 := Tryz.isAgg3
 z3 := Tryz.sizeOf3
 v3 := Tryz.zeroValue3
 i3 := by kernel_rfl
 t4 := Tryz.underlying4
 a4 := Tryz.isAgg4
 z4 := Tryz.sizeOf4
 v4 := Tryz.zeroValue4
 i4 := by kernel_rfl
 t9 := Tryz.underlying9
 a9 := Tryz.isAgg9
 z9 := Tryz.sizeOf9
 v9 := Tryz.zeroValue9
 i9 := by kernel_rfl
 t21 := Tryz.underlying21
 a21 := Tryz.isAgg21
 z21 := Tryz.sizeOf21
 v21 := Tryz.zeroValue21
 i21 := by kernel_rfl
 t23 := Tryz.underlying123
 a23 := Tryz.isAgg123
 z23 := Tryz.sizeOf123
 v23 := Tryz.zeroValue123
 i23 := by kernel_rfl }
end
end Go.Proofs
namespace Go.Proofs.YtbghfbhlbfcloaaGreatDoor.PL
section
open Go.RowKit Go.Proofs.YtbghfbhlbfcloaaGreatDoorW.PrintWords Go.Proofs.YtbghfbhlbfcloaaGreatDoorW.PrintLast Go.Proofs.YtbghfbhlbfcloaaGreatDoorW.PrintMore
set_option linter.unusedVariables false
set_option linter.unusedSimpArgs false
set_option maxHeartbeats 1000000 in
theorem clo57 (B : Nat) (s y0 : ByteArray) (v : Value) (W : World) (hc : W.cell? ⟨B, 0, none⟩ = some (.string s)) (A : Option Addr) (n c : Nat) (hv : v = .slice A n c) :
  Calls Tryz.prog 67 #[.agg #[.string y0, v], .pointer (some ⟨B, 0, none⟩)] W fun e w' => e = .returned (.bool (y0.toList == s.toList)) ∧ Below W.heap.size W w' := by
 subst hv
 have hu57 := Tryz.underlying60
 have hlt := World.block_lt_of_cell? W _ hc
 have hc2 := (zA2 (Below.refl W.heap.size W) (.cells #[.string y0, .slice A n c] 60)).cell (p := ⟨B, 0, none⟩) hlt
 rw [hc] at hc2
 go_enter Tryz.func67, Tryz.ntmps67
 go_wp2
 go_ret
 exact ⟨rfl, zA2 (Below.refl _ _) _⟩
set_option maxHeartbeats 1000000 in
theorem clo59 (k : Nat) (B : Nat) (y0 : ByteArray) (xs ys : List Int) (A A' : Option Addr) (c c' : Nat) (r : Bool) (W : World) (hc : W.cell? ⟨B, 1, none⟩ = some (.slice A xs.length c)) (hx : Kd.C (Kd.int .i64) W A xs.length xs) (hxc : xs.length ≤ c) (hy : Kd.C (Kd.int .i64) W A' ys.length ys) (hyc : ys.length ≤ c')
  (h : zBd.f k xs ys = some r) :
  Calls Tryz.prog 68 #[.agg #[.string y0, .slice A' ys.length c'], .pointer (some ⟨B, 0, none⟩)] W fun e w' => e = .returned (.bool r) ∧ Below W.heap.size W w' := by
 have hu57 := Tryz.underlying60
 have hlt := World.block_lt_of_cell? W _ hc
 have hc2 := (zA2 (Below.refl W.heap.size W) (.cells #[.string y0, .slice A' ys.length c'] 60)).cell (p := ⟨B, 1, none⟩) hlt
 rw [hc] at hc2
 have HE := zA1.mk (zBd.calls k A c xs A' c' ys r (W.alloc (.cells #[.string y0, .slice A' ys.length c'] 60)) (Kd.zAj hx _) hxc (Kd.zAj hy _) hyc h)
 clear hx hy hxc hyc h
 go_enter Tryz.func68, Tryz.ntmps68
 go_wp2_with (go_at_call 69; refine HE.out.mono ?_; rintro e w' ⟨rfl, ⟨nd, rfl⟩⟩)
 go_ret
 exact ⟨rfl, zA0 (zA2 (Below.refl _ _) _) _⟩
end
end Go.Proofs.YtbghfbhlbfcloaaGreatDoor.PL
namespace Go.Proofs.YtbghfbhlbfcloaaGreatDoor.PL
section
open Go.RowKit Go.Proofs Go.Proofs.YtbghfbhlbfcloaaGreatDoorW.PrintWords Go.Proofs.YtbghfbhlbfcloaaGreatDoorW.PrintLast Go.Proofs.YtbghfbhlbfcloaaGreatDoorW.PrintMore
set_option linter.unusedVariables false
set_option linter.unusedSimpArgs false
def badR (r : Nat) : Bool := decide (r < 33) || decide (126 < r)
def nameB (s : ByteArray) : Bool := decide (0 < s.size) && decide (s.size ≤ 40) && !(decide (0 ≤ Lib.idxFunc badR true s))
theorem pred76 (w : World) : PredAt Tryz.prog 100 #[] encR badR w := fun W r _ => by
 unfold FnGives
 by_cases h1 : (r : Int) < 33
 ·have h2 : r < 33 := by omega
  go_enter Tryz.func100, Tryz.ntmps100
  go_wp2
  go_ret
  exact ⟨by simp [badR, h2], 0, rfl⟩
 ·have h2 : ¬ r < 33 := by omega
  by_cases h3 : (126 : Int) < r
  ·have h4 : 126 < r := by omega
   go_enter Tryz.func100, Tryz.ntmps100
   go_wp2
   go_ret
   exact ⟨by simp [badR, h4], 0, rfl⟩
  ·have h4 : ¬ 126 < r := by omega
   go_enter Tryz.func100, Tryz.ntmps100
   go_wp2
   go_ret
   exact ⟨by simp [badR, h2, h4], 0, rfl⟩
theorem contS (s : ByteArray) (w : World) : Calls Tryz.prog 99 #[.string s, .func (.func 100) #[] #[]] w fun e w' => e = .returned (.bool (decide (0 ≤ Lib.idxFunc badR true s))) ∧ Below w.heap.size w w' :=
 Any.strings_ContainsFunc Tryz.contS 100 #[] (enters_of Tryz.func100 (by kernel_rfl) rfl) badR s w (pred76 w)
set_option maxHeartbeats 1000000 in
theorem nameC (s : ByteArray) (w : World) : Calls Tryz.prog 65 #[.string s] w fun e w' => e = .returned (.bool (nameB s)) ∧ Below w.heap.size w w' := by
 have HC := zA1.mk (fun w => contS s w)
 by_cases h1 : (0 : Int) < s.size
 ·by_cases h2 : (s.size : Int) ≤ 40
  ·go_enter Tryz.func65, Tryz.ntmps65
   go_wp2_with (go_at_call 99; refine (HC.out _).mono ?_; rintro e w' ⟨rfl, hb⟩)
   go_ret
   have e : nameB s = !decide (0 ≤ Lib.idxFunc badR true s) := by unfold nameB; rw [decide_eq_true (show 0 < s.size by omega), decide_eq_true (show s.size ≤ 40 by omega)]; rfl
   exact ⟨by rw [e]; rfl, hb⟩
  ·have e : nameB s = false := by unfold nameB; rw [decide_eq_false (show ¬ s.size ≤ 40 by omega), Bool.and_false]; rfl
   go_enter Tryz.func65, Tryz.ntmps65
   go_wp2
   go_ret
   exact ⟨rfl, Below.refl _ _⟩
 ·have e : nameB s = false := by unfold nameB; rw [decide_eq_false (show ¬ 0 < s.size by omega)]; rfl
  go_enter Tryz.func65, Tryz.ntmps65
  go_wp2
  go_ret
  exact ⟨rfl, Below.refl _ _⟩
theorem any_take_succ {l : List S60} {p : S60 → Bool} {x : Nat} (h : x < l.length) : (l.take (x + 1)).any p = ((l.take x).any p || p (zAn l (x : Int))) := by
 rw [List.take_succ_eq_append_getElem h, List.any_append]
 simp only [List.any_cons, List.any_nil, Bool.or_false]
 unfold zAn
 rw [Int.toNat_natCast, List.getD_eq_getElem?_getD, List.getElem?_eq_getElem h]
 rfl
theorem any_take_false {l : List S60} {p : S60 → Bool} {x i : Nat} (hx : x < i) (hi : i ≤ l.length) (h : p (zAn l (x : Int)) = true) : (l.take i).any p = true := by
 rw [List.any_eq_true]
 refine ⟨zAn l (x : Int), ?_, h⟩
 unfold zAn
 rw [Int.toNat_natCast, List.getD_eq_getElem?_getD, List.getElem?_eq_getElem (by omega)]
 rw [List.mem_iff_getElem?]
 exact ⟨x, by rw [List.getElem?_take_of_lt hx, List.getElem?_eq_getElem (by omega)]; rfl⟩
theorem rd_mem57 {l : List S60} {x : Nat} (h : x < l.length) : zAn l (x : Int) ∈ l := by
 unfold zAn
 rw [Int.toNat_natCast, List.getD_eq_getElem?_getD, List.getElem?_eq_getElem h]
 exact List.getElem_mem h
theorem idxG (A : Option Addr) (cc i : Nat) (l : List S60) (g : Nat) (lb : Array Value) (p : S60 → Bool) (w : World) (hr : Kd.C k60 w A l.length l) (hi : i ≤ l.length) (hl : l.length < 1000000) (eg : ∀ args w, (callFunc g args).run Tryz.prog w = .ok (.enter g args) w)
  (hp : ∀ (W : World) (y : S60) (cy : List Value), y ∈ l → Below w.heap.size w W → k60.K W y cy → Calls Tryz.prog g (#[.agg cy.toArray] ++ lb) W fun e w' => e = .returned (.bool (p y)) ∧ Below W.heap.size W w') :
  Calls Tryz.prog 101 #[.slice A i cc, .func (.func g) #[] lb] w fun e w' => ∃ r : Int, e = .returned (.int .i64 r) ∧ decide (0 ≤ r) = (l.take i).any p ∧ Below w.heap.size w w' := by
 have HP := zA1.mk hp
 have HR := zA1.mk hr
 have HL := zA1.mk hl
 clear hp hr hl
 have hu57 := Tryz.underlying60
 go_enter Tryz.func101, Tryz.ntmps101
 go_wp2
 go_loopw [8] (fun v8 wr => ∃ x : Int, v8 = .int .i64 x ∧ 0 ≤ x ∧ x ≤ i ∧ zA1 ((l.take x.toNat).any p = false) ∧ zA1 (Below w.heap.size w wr)) (fun v8 _ => i - (intOf v8).toNat)
 case atStart => exact ⟨0, rfl, by omega, by omega, ⟨rfl⟩, ⟨Below.refl _ _⟩⟩
 case round =>
  obtain ⟨x, rfl, hx0, hxi, HN, HB⟩ := hrel
  have hle : (i : Int) < 1000000 := by have := HL.out; omega
  by_cases hlt : x < i
  ·obtain ⟨y, hy⟩ : ∃ y : Nat, (y : Int) = x := ⟨x.toNat, by omega⟩
   obtain ⟨ad, A1, c1, rfl, ha0, ha1, hc1, hC1⟩ := at_T60 HR.out x (by omega) (by omega)
   have hb0 := (HB.out.cell (World.block_lt_of_cell? w _ ha0)).trans ha0
   have hb1 := (HB.out.cell (World.block_lt_of_cell? w _ ha1)).trans ha1
   have hmem : zAn l x ∈ l := by rw [← hy]; exact rd_mem57 (by omega)
   have HK := zA1.mk (HP.out wr (zAn l x) [.string (zAn l x).f0, .slice A1 (zAn l x).f1.length c1] hmem HB.out (k60_mk wr (zAn l x) hc1 (Kd.zAx hC1 HB.out)))
   clear ha0 ha1 hC1 hc1 hmem
   by_cases hpy : p (zAn l x) = true
   ·have HQ := zA1.mk (any_take_false (x := y) (i := i) (by omega) hi (by rw [hy]; exact hpy))
    rw [hpy] at HK
    clear hpy hy
    generalize (zAn l x).f0 = s0 at hb0 HK
    generalize (zAn l x).f1.length = n1 at hb1 HK
    go_wp2_with (go_at_fn g; refine HK.out.mono ?_; rintro e w2 ⟨rfl, hb2⟩)
    go_ret
    exact ⟨x, rfl, by rw [HQ.out]; exact decide_eq_true hx0, HB.out.trans (hb2.mono HB.out.size)⟩
   ·have HQ := zA1.mk (any_take_succ (x := y) (l := l) (p := p) (by omega))
    rw [hy] at HQ
    have hpf : p (zAn l x) = false := by simpa using hpy
    have e1 : (x + 1).toNat = y + 1 := by omega
    have e0 : x.toNat = y := by omega
    rw [hpf] at HK
    have HN2 : zA1 ((l.take (x + 1).toNat).any p = false) := ⟨by rw [e1, HQ.out, ← e0, HN.out, hpf]; rfl⟩
    clear hpy hy HQ hpf e1 e0
    generalize (zAn l x).f0 = s0 at hb0 HK
    generalize (zAn l x).f1.length = n1 at hb1 HK
    go_wp2_with (go_at_fn g; refine HK.out.mono ?_; rintro e w2 ⟨rfl, hb2⟩)
    go_roundw
    case rel => exact ⟨x + 1, by go_num, by omega, by omega, HN2, ⟨HB.out.trans (hb2.mono HB.out.size)⟩⟩
    case measure => simp [intOf]; omega
  ·go_wp2
   go_ret
   have e : x.toNat = i := by omega
   exact ⟨-1, rfl, by rw [← e, HN.out]; rfl, HB.out⟩
theorem contG (A : Option Addr) (cc i : Nat) (l : List S60) (g : Nat) (lb : Array Value) (p : S60 → Bool) (w : World) (hr : Kd.C k60 w A l.length l) (hi : i ≤ l.length) (hl : l.length < 1000000) (eg : ∀ args w, (callFunc g args).run Tryz.prog w = .ok (.enter g args) w)
  (hp : ∀ (W : World) (y : S60) (cy : List Value), y ∈ l → Below w.heap.size w W → k60.K W y cy → Calls Tryz.prog g (#[.agg cy.toArray] ++ lb) W fun e w' => e = .returned (.bool (p y)) ∧ Below W.heap.size W w') :
  Calls Tryz.prog 66 #[.slice A i cc, .func (.func g) #[] lb] w fun e w' => e = .returned (.bool ((l.take i).any p)) ∧ Below w.heap.size w w' := by
 have HI := zA1.mk (idxG A cc i l g lb p w hr hi hl eg hp)
 clear hp hr
 go_enter Tryz.func66, Tryz.ntmps66
 go_wp2_with (go_at_call 101; refine HI.out.mono ?_; rintro e w2 ⟨r, rfl, hd, hb⟩)
 go_ret
 exact ⟨rfl, hb⟩
end
end Go.Proofs.YtbghfbhlbfcloaaGreatDoor.PL
namespace Go.Proofs.YtbghfbhlbfcloaaGreatDoor.PL
section
open Go.RowKit Go.Proofs Go.Proofs.YtbghfbhlbfcloaaGreatDoorW.PrintWords Go.Proofs.YtbghfbhlbfcloaaGreatDoorW.PrintLast Go.Proofs.YtbghfbhlbfcloaaGreatDoorW.PrintMore
set_option linter.unusedVariables false
set_option linter.unusedSimpArgs false
def CG.k : Nat := 200
theorem equal_l (xs ys : List Int) (hxy : xs.length = ys.length) (hl : xs.length ≤ 150) : ∀ (k i : Nat), i ≤ xs.length → xs.length - i < k → zBd.l0 k xs ys (xs.length : Int) (i : Int) = some (decide (xs.drop i = ys.drop i))
 | 0, i, _, h => absurd h (Nat.not_lt_zero _)
 | k + 1, i, hi, h => by
  unfold zBd.l0
  by_cases hlt : i < xs.length
  ·have ih := equal_l xs ys hxy hl k (i + 1) (by omega) (by omega)
   have h2 : i < ys.length := by omega
   rw [if_pos (by omega), if_pos (by omega), if_pos (by omega), if_pos (by omega)]
   have ex : xs.drop i = (Go.Proofs.YtbghfbhlbfcloaaGreatDoorW.PrintWords.rd xs i) :: xs.drop (i + 1) := by
    rw [List.drop_eq_getElem_cons hlt]
    unfold Go.Proofs.YtbghfbhlbfcloaaGreatDoorW.PrintWords.rd
    rw [Int.toNat_natCast, List.getD_eq_getElem?_getD, List.getElem?_eq_getElem hlt]
    rfl
   have ey : ys.drop i = (Go.Proofs.YtbghfbhlbfcloaaGreatDoorW.PrintWords.rd ys i) :: ys.drop (i + 1) := by
    rw [List.drop_eq_getElem_cons h2]
    unfold Go.Proofs.YtbghfbhlbfcloaaGreatDoorW.PrintWords.rd
    rw [Int.toNat_natCast, List.getD_eq_getElem?_getD, List.getElem?_eq_getElem h2]
    rfl
   rw [ex, ey]
   by_cases he : Go.Proofs.YtbghfbhlbfcloaaGreatDoorW.PrintWords.rd xs (i : Int) = Go.Proofs.YtbghfbhlbfcloaaGreatDoorW.PrintWords.rd ys (i : Int)
   ·rw [if_pos he, he]
    have hw : wrap64 ((i : Int) + 1) = ((i + 1 : Nat) : Int) := by
     unfold wrap64
     omega
    rw [hw, ih]
    congr 1
    simp
   ·rw [if_neg he]
    rw [decide_eq_false (fun e => he (by injection e))]
  ·rw [if_neg (by omega)]
   have h1 : xs.drop i = [] := List.drop_eq_nil_of_le (by omega)
   have h2 : ys.drop i = [] := List.drop_eq_nil_of_le (by omega)
   rw [h1, h2]
   simp
theorem equal_f (xs ys : List Int) (hl : xs.length ≤ 150) : zBd.f CG.k xs ys = some (decide (xs = ys)) := by
 unfold zBd.f
 by_cases h : xs.length = ys.length
 ·rw [if_pos (by omega)]
  have := equal_l xs ys h hl CG.k 0 (Nat.zero_le _) (by unfold CG.k; omega)
  simpa using this
 ·rw [if_neg (by omega), decide_eq_false (fun e => h (by rw [e]))]
def CG.cross (m o : Int) : Bool := decide (Go.bits .and .u64 o m ≠ 0) && decide (Go.bits .and .u64 o m ≠ m) && decide (Go.bits .and .u64 o m ≠ o)
def CG.inn (m : Int) : List S60 → Option Bool
 | [] => some false
 | y :: r => (zAw.f CG.k y.f1).bind fun o => if CG.cross m o = true then some true else CG.inn m r
def CG.one (l : List S60) (n : Int) (i : Nat) (x : S60) : Option Int :=
 if nameB x.f0 = false then some 11 else
 if (l.take i).any (fun y => y.f0.toList == x.f0.toList) = true then some 9 else
 if (x.f1.length : Int) < 2 then some 7 else
 (zB0.f CG.k x.f1 n).bind fun e => if e ≠ 0 then some e else
 if (l.take i).any (fun y => decide (x.f1 = y.f1)) = true then some 9 else
 (zAw.f CG.k x.f1).bind fun m => (CG.inn m (l.take i)).bind fun b => if b = true then some 17 else some 0
def CG.go (l : List S60) (n : Int) : Nat → List S60 → Option Int
 | _, [] => some 0
 | i, x :: r => (CG.one l n i x).bind fun e => if e = 0 then CG.go l n (i + 1) r else some e
def CG.f (l : List S60) (n : Int) : Option Int :=
 if n < 0 ∨ 12 < n then some 2 else if 32 < (l.length : Int) then some 6 else if (l.all fun x => decide (x.f1.length ≤ 150)) = true then CG.go l n 0 l else none
theorem drop57 (l : List S60) (x : Int) (h0 : 0 ≤ x) (h1 : x < l.length) : l.drop x.toNat = zAn l x :: l.drop (x + 1).toNat := by
 rw [show (x + 1).toNat = x.toNat + 1 by omega, List.drop_eq_getElem_cons (show x.toNat < l.length by omega)]
 unfold zAn
 rw [List.getD_eq_getElem?_getD, List.getElem?_eq_getElem (show x.toNat < l.length by omega)]
 rfl
end
end Go.Proofs.YtbghfbhlbfcloaaGreatDoor.PL
namespace Go.Proofs.YtbghfbhlbfcloaaGreatDoor.PL
section
open Go.RowKit Go.Proofs Go.Proofs.YtbghfbhlbfcloaaGreatDoorW.PrintWords Go.Proofs.YtbghfbhlbfcloaaGreatDoorW.PrintLast Go.Proofs.YtbghfbhlbfcloaaGreatDoorW.PrintMore
set_option linter.unusedVariables false
set_option linter.unusedSimpArgs false
theorem e57 : ∀ args w, (callFunc 67 args).run Tryz.prog w = .ok (.enter 67 args) w := enters_of Tryz.func67 (by kernel_rfl) rfl
theorem e59 : ∀ args w, (callFunc 68 args).run Tryz.prog w = .ok (.enter 68 args) w := enters_of Tryz.func68 (by kernel_rfl) rfl
set_option maxRecDepth 100000 in
set_option maxHeartbeats 4000000 in
theorem CG.calls (A0 : Option Addr) (c0 : Nat) (l0 : List S60) (a1 : Int) (r : Int) (w : World) (hr0 : Kd.C k60 w A0 l0.length l0) (hc0 : l0.length ≤ c0) (h : CG.f l0 a1 = some r) :
  Calls Tryz.prog 47 #[.slice A0 l0.length c0, .int .i64 a1] w fun e w' => e = .returned (.int .i64 r) ∧ Below w.heap.size w w' := by
 have hu57 := Tryz.underlying60
 unfold CG.f at h
 by_cases hn : a1 < 0 ∨ 12 < a1
 ·rw [if_pos hn] at h
  injection h with h
  subst h
  by_cases hn0 : a1 < 0
  ·go_enter Tryz.func47, Tryz.ntmps47
   go_wp2
   go_ret
   exact ⟨rfl, Below.refl _ _⟩
  ·have hn1 : 12 < a1 := by omega
   go_enter Tryz.func47, Tryz.ntmps47
   go_wp2
   go_ret
   exact ⟨rfl, Below.refl _ _⟩
 ·rw [if_neg hn] at h
  have hn0 : ¬ a1 < 0 := by omega
  have hn1 : ¬ 12 < a1 := by omega
  by_cases hl : 32 < (l0.length : Int)
  ·rw [if_pos hl] at h
   injection h with h
   subst h
   go_enter Tryz.func47, Tryz.ntmps47
   go_wp2
   go_ret
   exact ⟨rfl, Below.refl _ _⟩
  ·rw [if_neg hl] at h
   split at h
   case isFalse => cases h
   rename_i hall
   have HALL := zA1.mk (List.all_eq_true.1 hall)
   have HR := zA1.mk hr0
   have HC := zA1.mk hc0
   have H' := zA1.mk h
   have HL := zA1.mk hl
   clear hall hr0 hc0 h hn
   go_enter Tryz.func47, Tryz.ntmps47
   go_wp2
   go_loopw [23] (fun v23 wr => ∃ x : Int, v23 = .int .i64 x ∧ 0 ≤ x ∧ x ≤ l0.length ∧ zA1 (CG.go l0 a1 x.toNat (l0.drop x.toNat) = some r) ∧ zA1 (Below w.heap.size w wr)) (fun v23 _ => l0.length - (intOf v23).toNat)
   case atStart => exact ⟨0, rfl, by omega, by omega, ⟨by rw [show (0 : Int).toNat = 0 from rfl, List.drop_zero]; exact H'.out⟩, ⟨Below.refl _ _⟩⟩
   case round =>
    clear H'
    obtain ⟨x, rfl, hx0, hx1, HG, HB⟩ := hrel
    have hle : (l0.length : Int) ≤ 32 := by have := HL.out; omega
    by_cases hlt : x < l0.length
    ·have hg := HG.out
     rw [drop57 l0 x hx0 hlt] at hg
     unfold CG.go at hg
     obtain ⟨e, he, hg⟩ := Option.bind_eq_some_iff.1 hg
     have HE := zA1.mk he
     have HG2 := zA1.mk hg
     clear he hg HG
     obtain ⟨ad, A1, c1, rfl, ha0, ha1, hc1, hC1⟩ := at_T60 HR.out x (by omega) (by omega)
     have hb0 := (HB.out.cell (World.block_lt_of_cell? w _ ha0)).trans ha0
     have hb1 := (HB.out.cell (World.block_lt_of_cell? w _ ha1)).trans ha1
     have HC1 := zA1.mk hC1
     have HCC1 := zA1.mk hc1
     have HXL := zA1.mk (show (zAn l0 x).f1.length ≤ 150 by
      have hm : zAn l0 x ∈ l0 := by
       have := rd_mem57 (l := l0) (x := x.toNat) (by omega)
       rwa [show ((x.toNat : Nat) : Int) = x by omega] at this
      have := HALL.out _ hm
      simpa using this)
     clear ha0 ha1 hC1 hc1
     generalize hX : zAn l0 x = X at hb0 hb1 HE HC1 HCC1 HXL
     have HXX := zA1.mk hX
     clear hX
     obtain ⟨s0, ms⟩ := X
     dsimp only at hb0 hb1 HC1 HCC1 HXL
     have K59 : ∀ (B : Nat) (W : World), W.heap[B]? = some (.cells #[.string s0, .slice A1 ms.length c1] 60 (0, 0)) → Below w.heap.size w W →
       ∀ (W2 : World) (y : S60) (cy : List Value), y ∈ l0 → Below W.heap.size W W2 → k60.K W2 y cy → Calls Tryz.prog 68 (#[.agg cy.toArray] ++ #[.pointer (some ⟨B, 0, none⟩)]) W2 fun e w' => e = .returned (.bool (decide (ms = y.f1))) ∧ Below W2.heap.size W2 w' := by
      intro B W hB hW W2 y cy hy hW2 hk
      obtain ⟨A, c, rfl, h1, h2⟩ := k60_open hk
      have hB2 := zAq hB hW2
      exact clo59 CG.k B y.f0 ms y.f1 A1 A c1 c _ W2 ((zA9 hB2 1).trans rfl) (Kd.zAx (Kd.zAx HC1.out hW) hW2) HCC1.out h2 h1 (equal_f ms y.f1 HXL.out)
     have K57 : ∀ (B : Nat) (W : World), W.heap[B]? = some (.cells #[.string s0, .slice A1 ms.length c1] 60 (0, 0)) →
       ∀ (W2 : World) (y : S60) (cy : List Value), y ∈ l0 → Below W.heap.size W W2 → k60.K W2 y cy → Calls Tryz.prog 67 (#[.agg cy.toArray] ++ #[.pointer (some ⟨B, 0, none⟩)]) W2 fun e w' => e = .returned (.bool (y.f0.toList == s0.toList)) ∧ Below W2.heap.size W2 w' := by
      intro B W hB W2 y cy hy hW2 hk
      obtain ⟨A, c, rfl, h1, h2⟩ := k60_open hk
      have hB2 := zAq hB hW2
      exact clo57 B s0 y.f0 (.slice A y.f1.length c) W2 ((zA9 hB2 0).trans rfl) A y.f1.length c rfl
     have HK57 := zA1.mk K57
     have HK59 := zA1.mk K59
     clear K57 K59
     have hxc : x ≤ (c0 : Int) := by have := HC.out; omega
     have hcz : (c0 = 0) = False := eq_false (by have := HC.out; omega)
     have he := HE.out
     unfold CG.one at he
     dsimp only at he
     cases q1 : nameB s0 with
     | false =>
      rw [q1, if_pos rfl] at he
      injection he with he
      subst he
      have hg := HG2.out
      rw [if_neg (by decide)] at hg
      injection hg with hg
      subst hg
      go_wp2_with (first | (go_at_call 65; refine (nameC s0 _).mono ?_; rintro e w2 ⟨rfl, hb2⟩; have hk2 := zAq (blk_new wr (.cells #[.string s0, .slice A1 ms.length c1] 60)) hb2; have HK2 := zA1.mk hk2; have hz2 : w2.cell? ⟨wr.heap.size, 1, none⟩ = some (.slice A1 ms.length c1) := (zA9 hk2 1).trans rfl; have HB2 := zA1.mk ((zA2 HB.out _).trans (hb2.mono (by have := HB.out.size; simp; omega))); clear hb2 hk2))
      go_ret
      exact ⟨rfl, HB2.out⟩
     | true =>
      rw [q1, if_neg (by decide)] at he
      cases q2 : (l0.take x.toNat).any (fun y => y.f0.toList == s0.toList) with
      | true =>
       rw [q2, if_pos rfl] at he
       injection he with he
       subst he
       have hg := HG2.out
       rw [if_neg (by decide)] at hg
       injection hg with hg
       subst hg
       go_wp2_with (first | (go_at_call 65; refine (nameC s0 _).mono ?_; rintro e w2 ⟨rfl, hb2⟩; have hk2 := zAq (blk_new wr (.cells #[.string s0, .slice A1 ms.length c1] 60)) hb2; have HK2 := zA1.mk hk2; have hz2 : w2.cell? ⟨wr.heap.size, 1, none⟩ = some (.slice A1 ms.length c1) := (zA9 hk2 1).trans rfl; have HB2 := zA1.mk ((zA2 HB.out _).trans (hb2.mono (by have := HB.out.size; simp; omega))); clear hb2 hk2) | (go_at_call 66; with_reducible refine (contG (some ad) c0 x.toNat l0 67 #[.pointer (some ⟨wr.heap.size, 0, none⟩)] (fun y => y.f0.toList == s0.toList) w2 (Kd.zAx HR.out HB2.out) (by omega) (by omega) e57 (HK57.out wr.heap.size w2 HK2.out)).mono ?_; rintro e w3 ⟨rfl, hb3⟩; have hk3 := zAq HK2.out hb3; have HK3 := zA1.mk hk3; have hz3 : w3.cell? ⟨wr.heap.size, 1, none⟩ = some (.slice A1 ms.length c1) := (zA9 hk3 1).trans rfl; have HB3 := zA1.mk (HB2.out.trans (hb3.mono HB2.out.size)); clear hb3 hk3))
       go_ret
       exact ⟨rfl, HB3.out⟩
      | false =>
       rw [q2, if_neg (by decide)] at he
       by_cases q3 : (ms.length : Int) < 2
       ·rw [if_pos q3] at he
        injection he with he
        subst he
        have hg := HG2.out
        rw [if_neg (by decide)] at hg
        injection hg with hg
        subst hg
        go_wp2_with (first | (go_at_call 65; refine (nameC s0 _).mono ?_; rintro e w2 ⟨rfl, hb2⟩; have hk2 := zAq (blk_new wr (.cells #[.string s0, .slice A1 ms.length c1] 60)) hb2; have HK2 := zA1.mk hk2; have hz2 : w2.cell? ⟨wr.heap.size, 1, none⟩ = some (.slice A1 ms.length c1) := (zA9 hk2 1).trans rfl; have HB2 := zA1.mk ((zA2 HB.out _).trans (hb2.mono (by have := HB.out.size; simp; omega))); clear hb2 hk2) | (go_at_call 66; with_reducible refine (contG (some ad) c0 x.toNat l0 67 #[.pointer (some ⟨wr.heap.size, 0, none⟩)] (fun y => y.f0.toList == s0.toList) w2 (Kd.zAx HR.out HB2.out) (by omega) (by omega) e57 (HK57.out wr.heap.size w2 HK2.out)).mono ?_; rintro e w3 ⟨rfl, hb3⟩; have hk3 := zAq HK2.out hb3; have HK3 := zA1.mk hk3; have hz3 : w3.cell? ⟨wr.heap.size, 1, none⟩ = some (.slice A1 ms.length c1) := (zA9 hk3 1).trans rfl; have HB3 := zA1.mk (HB2.out.trans (hb3.mono HB2.out.size)); clear hb3 hk3))
        go_ret
        exact ⟨rfl, HB3.out⟩
       ·rw [if_neg q3] at he
        obtain ⟨e58, he58, he⟩ := Option.bind_eq_some_iff.1 he
        have HE58 := zA1.mk he58
        clear he58
        by_cases h58 : e58 = 0
        case neg =>
         have q58 : (e58 != 0) = true := by simpa using h58
         rw [if_pos h58] at he
         injection he with he
         subst he
         have hg := HG2.out
         rw [if_neg (by exact h58)] at hg
         injection hg with hg
         subst hg
         go_wp2_with (first | (go_at_call 65; refine (nameC s0 _).mono ?_; rintro e w2 ⟨rfl, hb2⟩; have hk2 := zAq (blk_new wr (.cells #[.string s0, .slice A1 ms.length c1] 60)) hb2; have HK2 := zA1.mk hk2; have hz2 : w2.cell? ⟨wr.heap.size, 1, none⟩ = some (.slice A1 ms.length c1) := (zA9 hk2 1).trans rfl; have HB2 := zA1.mk ((zA2 HB.out _).trans (hb2.mono (by have := HB.out.size; simp; omega))); clear hb2 hk2) | (go_at_call 66; with_reducible refine (contG (some ad) c0 x.toNat l0 67 #[.pointer (some ⟨wr.heap.size, 0, none⟩)] (fun y => y.f0.toList == s0.toList) w2 (Kd.zAx HR.out HB2.out) (by omega) (by omega) e57 (HK57.out wr.heap.size w2 HK2.out)).mono ?_; rintro e w3 ⟨rfl, hb3⟩; have hk3 := zAq HK2.out hb3; have HK3 := zA1.mk hk3; have hz3 : w3.cell? ⟨wr.heap.size, 1, none⟩ = some (.slice A1 ms.length c1) := (zA9 hk3 1).trans rfl; have HB3 := zA1.mk (HB2.out.trans (hb3.mono HB2.out.size)); clear hb3 hk3) | (go_at_call 49; refine (zB0.calls CG.k A1 c1 ms a1 e58 w3 (Kd.zAx HC1.out HB3.out) HCC1.out HE58.out).mono ?_; rintro e w4 ⟨rfl, ⟨nd, rfl⟩⟩; have hk4 := zA7 HK3.out nd; have HK4 := zA1.mk hk4; have hz4 : (w3.drewN nd).cell? ⟨wr.heap.size, 1, none⟩ = some (.slice A1 ms.length c1) := (zA9 hk4 1).trans rfl; have HB4 := zA1.mk (zA0 HB3.out nd); clear hk4))
         go_ret
         exact ⟨rfl, HB4.out⟩
        case pos =>
         rw [if_neg (fun h => h h58)] at he
         subst h58
         cases q5 : (l0.take x.toNat).any (fun y => decide (ms = y.f1)) with
         | true =>
          rw [q5, if_pos rfl] at he
          injection he with he
          subst he
          have hg := HG2.out
          rw [if_neg (by decide)] at hg
          injection hg with hg
          subst hg
          go_wp2_with (first | (go_at_call 65; refine (nameC s0 _).mono ?_; rintro e w2 ⟨rfl, hb2⟩; have hk2 := zAq (blk_new wr (.cells #[.string s0, .slice A1 ms.length c1] 60)) hb2; have HK2 := zA1.mk hk2; have hz2 : w2.cell? ⟨wr.heap.size, 1, none⟩ = some (.slice A1 ms.length c1) := (zA9 hk2 1).trans rfl; have HB2 := zA1.mk ((zA2 HB.out _).trans (hb2.mono (by have := HB.out.size; simp; omega))); clear hb2 hk2) | (go_at_call 66; with_reducible refine (contG (some ad) c0 x.toNat l0 67 #[.pointer (some ⟨wr.heap.size, 0, none⟩)] (fun y => y.f0.toList == s0.toList) w2 (Kd.zAx HR.out HB2.out) (by omega) (by omega) e57 (HK57.out wr.heap.size w2 HK2.out)).mono ?_; rintro e w3 ⟨rfl, hb3⟩; have hk3 := zAq HK2.out hb3; have HK3 := zA1.mk hk3; have hz3 : w3.cell? ⟨wr.heap.size, 1, none⟩ = some (.slice A1 ms.length c1) := (zA9 hk3 1).trans rfl; have HB3 := zA1.mk (HB2.out.trans (hb3.mono HB2.out.size)); clear hb3 hk3) | (go_at_call 49; refine (zB0.calls CG.k A1 c1 ms a1 0 w3 (Kd.zAx HC1.out HB3.out) HCC1.out HE58.out).mono ?_; rintro e w4 ⟨rfl, ⟨nd, rfl⟩⟩; have hk4 := zA7 HK3.out nd; have HK4 := zA1.mk hk4; have hz4 : (w3.drewN nd).cell? ⟨wr.heap.size, 1, none⟩ = some (.slice A1 ms.length c1) := (zA9 hk4 1).trans rfl; have HB4 := zA1.mk (zA0 HB3.out nd); clear hk4) | (go_at_call 66; with_reducible refine (contG (some ad) c0 x.toNat l0 68 #[.pointer (some ⟨wr.heap.size, 0, none⟩)] (fun y => decide (ms = y.f1)) _ (Kd.zAx HR.out HB4.out) (by omega) (by omega) e59 (HK59.out wr.heap.size _ HK4.out HB4.out)).mono ?_; rintro e w5 ⟨rfl, hb5⟩; have hk5 := zAq HK4.out hb5; have HK5 := zA1.mk hk5; have hz5 : w5.cell? ⟨wr.heap.size, 1, none⟩ = some (.slice A1 ms.length c1) := (zA9 hk5 1).trans rfl; have HB5 := zA1.mk (HB4.out.trans (hb5.mono HB4.out.size)); clear hb5 hk5))
          go_ret
          exact ⟨rfl, HB5.out⟩
         | false =>
          rw [q5, if_neg (by decide)] at he
          obtain ⟨m, hm, he⟩ := Option.bind_eq_some_iff.1 he
          obtain ⟨b, hb, he⟩ := Option.bind_eq_some_iff.1 he
          have HM := zA1.mk hm
          have HI := zA1.mk hb
          have HEE := zA1.mk he
          clear hm hb he
          go_wp2_with (first | (go_at_call 65; refine (nameC s0 _).mono ?_; rintro e w2 ⟨rfl, hb2⟩; have hk2 := zAq (blk_new wr (.cells #[.string s0, .slice A1 ms.length c1] 60)) hb2; have HK2 := zA1.mk hk2; have hz2 : w2.cell? ⟨wr.heap.size, 1, none⟩ = some (.slice A1 ms.length c1) := (zA9 hk2 1).trans rfl; have HB2 := zA1.mk ((zA2 HB.out _).trans (hb2.mono (by have := HB.out.size; simp; omega))); clear hb2 hk2) | (go_at_call 66; with_reducible refine (contG (some ad) c0 x.toNat l0 67 #[.pointer (some ⟨wr.heap.size, 0, none⟩)] (fun y => y.f0.toList == s0.toList) w2 (Kd.zAx HR.out HB2.out) (by omega) (by omega) e57 (HK57.out wr.heap.size w2 HK2.out)).mono ?_; rintro e w3 ⟨rfl, hb3⟩; have hk3 := zAq HK2.out hb3; have HK3 := zA1.mk hk3; have hz3 : w3.cell? ⟨wr.heap.size, 1, none⟩ = some (.slice A1 ms.length c1) := (zA9 hk3 1).trans rfl; have HB3 := zA1.mk (HB2.out.trans (hb3.mono HB2.out.size)); clear hb3 hk3) | (go_at_call 49; refine (zB0.calls CG.k A1 c1 ms a1 0 w3 (Kd.zAx HC1.out HB3.out) HCC1.out HE58.out).mono ?_; rintro e w4 ⟨rfl, ⟨nd, rfl⟩⟩; have hk4 := zA7 HK3.out nd; have HK4 := zA1.mk hk4; have hz4 : (w3.drewN nd).cell? ⟨wr.heap.size, 1, none⟩ = some (.slice A1 ms.length c1) := (zA9 hk4 1).trans rfl; have HB4 := zA1.mk (zA0 HB3.out nd); clear hk4) | (go_at_call 66; with_reducible refine (contG (some ad) c0 x.toNat l0 68 #[.pointer (some ⟨wr.heap.size, 0, none⟩)] (fun y => decide (ms = y.f1)) _ (Kd.zAx HR.out HB4.out) (by omega) (by omega) e59 (HK59.out wr.heap.size _ HK4.out HB4.out)).mono ?_; rintro e w5 ⟨rfl, hb5⟩; have hk5 := zAq HK4.out hb5; have HK5 := zA1.mk hk5; have hz5 : w5.cell? ⟨wr.heap.size, 1, none⟩ = some (.slice A1 ms.length c1) := (zA9 hk5 1).trans rfl; have HB5 := zA1.mk (HB4.out.trans (hb5.mono HB4.out.size)); clear hb5 hk5) | (go_at_call 51; refine (zAw.calls CG.k A1 c1 ms m w5 (Kd.zAx HC1.out HB5.out) HCC1.out HM.out).mono ?_; rintro e w6 ⟨rfl, ⟨nd6, rfl⟩⟩; have HB6 := zA1.mk (zA0 HB5.out nd6)))
          go_loopw [60] (fun v60 wi => ∃ y : Int, v60 = .int .i64 y ∧ 0 ≤ y ∧ y ≤ x ∧ zA1 (CG.inn m ((l0.take x.toNat).drop y.toNat) = some b) ∧ zA1 (Below w.heap.size w wi)) (fun v60 _ => l0.length - (intOf v60).toNat)
          case atStart => exact ⟨0, rfl, by omega, by omega, ⟨by rw [show (0 : Int).toNat = 0 from rfl, List.drop_zero]; exact HI.out⟩, HB6⟩
          case round =>
           clear HI
           obtain ⟨y, rfl, hy0, hy1, HII, HBI⟩ := hrel
           have hlex : x ≤ 32 := by omega
           by_cases hlty : y < x
           ·have hi := HII.out
            have hd : (l0.take x.toNat).drop y.toNat = zAn l0 y :: (l0.take x.toNat).drop (y + 1).toNat := by
             have h1 := drop57 (l0.take x.toNat) y hy0 (by rw [List.length_take]; omega)
             rw [h1]
             congr 1
             unfold zAn
             rw [List.getD_eq_getElem?_getD, List.getD_eq_getElem?_getD, List.getElem?_take_of_lt (by omega)]
            rw [hd] at hi
            unfold CG.inn at hi
            obtain ⟨o, ho, hi⟩ := Option.bind_eq_some_iff.1 hi
            have HO := zA1.mk ho
            clear ho hd HII
            obtain ⟨ad2, A2, c2, hade, hd0, hd1, hc2, hC2⟩ := at_T60 HR.out y (by omega) (by omega)
            injection hade with hade
            subst hade
            have hb20 := (HBI.out.cell (World.block_lt_of_cell? w _ hd0)).trans hd0
            have hb21 := (HBI.out.cell (World.block_lt_of_cell? w _ hd1)).trans hd1
            have HC2 := zA1.mk hC2
            have HCC2 := zA1.mk hc2
            clear hd0 hd1 hc2 hC2
            generalize (zAn l0 y).f0 = s2 at hb20
            generalize (zAn l0 y).f1 = ms2 at hb21 HO HC2 HCC2
            have hyx : y < (x.toNat : Int) := by omega
            by_cases z1 : Go.bits .and .u64 o m = 0
            ·have zb1 : (Go.bits .and .u64 o m != 0) = false := by rw [z1]; rfl
             rw [if_neg (by unfold CG.cross; rw [decide_eq_false (fun h => h z1)]; simp)] at hi
             clear z1
             have HI2 := zA1.mk hi
             clear hi
             go_wp2_with (go_at_call 51; refine (zAw.calls CG.k A2 c2 ms2 o _ (Kd.zAj (Kd.zAx HC2.out HBI.out) _) HCC2.out HO.out).mono ?_; rintro e wj ⟨rfl, ⟨ndj, rfl⟩⟩)
             go_roundw
             case rel => exact ⟨y + 1, by go_num, by omega, by omega, HI2, ⟨zA0 (zA2 HBI.out _) _⟩⟩
             case measure => simp [intOf]; omega
            ·have zb1 : (Go.bits .and .u64 o m != 0) = true := by simpa using z1
             by_cases z2 : Go.bits .and .u64 o m = m
             ·have zb2 : (Go.bits .and .u64 o m != m) = false := by rw [z2]; simp
              rw [if_neg (by unfold CG.cross; rw [decide_eq_false (p := Go.bits .and .u64 o m ≠ m) (fun h => h z2)]; simp)] at hi
              clear z1 z2
              have HI2 := zA1.mk hi
              clear hi
              go_wp2_with (go_at_call 51; refine (zAw.calls CG.k A2 c2 ms2 o _ (Kd.zAj (Kd.zAx HC2.out HBI.out) _) HCC2.out HO.out).mono ?_; rintro e wj ⟨rfl, ⟨ndj, rfl⟩⟩)
              go_roundw
              case rel => exact ⟨y + 1, by go_num, by omega, by omega, HI2, ⟨zA0 (zA2 HBI.out _) _⟩⟩
              case measure => simp [intOf]; omega
             ·have zb2 : (Go.bits .and .u64 o m != m) = true := by simpa using z2
              by_cases z3 : Go.bits .and .u64 o m = o
              ·have zb3 : (Go.bits .and .u64 o m != o) = false := by rw [z3]; simp
               rw [if_neg (by unfold CG.cross; rw [decide_eq_false (p := Go.bits .and .u64 o m ≠ o) (fun h => h z3)]; simp)] at hi
               clear z1 z2 z3
               have HI2 := zA1.mk hi
               clear hi
               go_wp2_with (go_at_call 51; refine (zAw.calls CG.k A2 c2 ms2 o _ (Kd.zAj (Kd.zAx HC2.out HBI.out) _) HCC2.out HO.out).mono ?_; rintro e wj ⟨rfl, ⟨ndj, rfl⟩⟩)
               go_roundw
               case rel => exact ⟨y + 1, by go_num, by omega, by omega, HI2, ⟨zA0 (zA2 HBI.out _) _⟩⟩
               case measure => simp [intOf]; omega
              ·have zb3 : (Go.bits .and .u64 o m != o) = true := by simpa using z3
               rw [if_pos (by unfold CG.cross; rw [decide_eq_true z1, decide_eq_true z2, decide_eq_true z3]; rfl)] at hi
               injection hi with hi
               have he := HEE.out
               rw [← hi, if_pos rfl] at he
               injection he with he
               have hg := HG2.out
               rw [← he, if_neg (by decide)] at hg
               injection hg with hg
               subst hg
               clear z1 z2 z3 hi he
               go_wp2_with (go_at_call 51; refine (zAw.calls CG.k A2 c2 ms2 o _ (Kd.zAj (Kd.zAx HC2.out HBI.out) _) HCC2.out HO.out).mono ?_; rintro e wj ⟨rfl, ⟨ndj, rfl⟩⟩)
               go_ret
               exact ⟨rfl, zA0 (zA2 HBI.out _) _⟩
           ·have hxy : y = x := by omega
            subst hxy
            have hi := HII.out
            rw [List.drop_eq_nil_of_le (by rw [List.length_take]; omega)] at hi
            unfold CG.inn at hi
            injection hi with hi
            have he := HEE.out
            rw [← hi, if_neg (by decide)] at he
            injection he with he
            have hg := HG2.out
            rw [← he, if_pos rfl] at hg
            have HG3 : zA1 (CG.go l0 a1 (y + 1).toNat (l0.drop (y + 1).toNat) = some r) := ⟨by rw [show (y + 1).toNat = y.toNat + 1 by omega] at hg ⊢; exact hg⟩
            clear hi he hg
            go_wp2
            go_roundw
            case rel => exact ⟨y + 1, by go_num, by omega, by omega, HG3, HBI⟩
            case measure => simp [intOf]; omega
    ·go_wp2
     go_ret
     have hg := HG.out
     have e : x = l0.length := by omega
     rw [e, show ((l0.length : Int)).toNat = l0.length by omega, List.drop_length] at hg
     unfold CG.go at hg
     injection hg with hg
     subst hg
     exact ⟨rfl, HB.out⟩
end
end Go.Proofs.YtbghfbhlbfcloaaGreatDoor.PL
namespace Go.Proofs.YtbghfbhlbfcloaaGreatDoor.PL
section
open Go.RowKit Go.Proofs.YtbghfbhlbfcloaaGreatDoorW.PrintWords Go.Proofs.YtbghfbhlbfcloaaGreatDoorW.PrintLast Go.Proofs.YtbghfbhlbfcloaaGreatDoorW.PrintMore
attribute [local go_sem] zBv zBt zC5 zC4 zBo zBn zBu zBs   -- for this text's walks alone
set_option linter.unusedVariables false
set_option linter.unusedSimpArgs false
def liaison_CheckGroups.f (l0 : List (S60)) (a1 : Int) : Option (Int) := CG.f l0 a1
theorem liaison_CheckGroups.calls (A0 : Option Addr) (c0 : Nat) (l0 : List (S60)) (a1 : Int) (r : Int) (w : World) (hr0 : Kd.C k60 w A0 l0.length l0) (hc0 : l0.length ≤ c0) (h : liaison_CheckGroups.f l0 a1 = some r) :
  Calls Tryz.prog 47 #[.slice A0 l0.length c0, .int .i64 a1] w fun e w' => e = .returned (.int .i64 r) ∧ Below w.heap.size w w' :=
  CG.calls A0 c0 l0 a1 r w hr0 hc0 h
end
end Go.Proofs.YtbghfbhlbfcloaaGreatDoor.PL
namespace Go.Proofs.YtbghfbhlbfcloaaGreatDoor.PL
section
open Go.RowKit Go.Proofs.YtbghfbhlbfcloaaGreatDoorW.PrintWords Go.Proofs.YtbghfbhlbfcloaaGreatDoorW.PrintLast Go.Proofs.YtbghfbhlbfcloaaGreatDoorW.PrintMore
attribute [local go_sem] zBv zBt zC5 zC4 zBo zBn zBu zBs   -- for this text's walks alone
set_option linter.unusedVariables false
set_option linter.unusedSimpArgs false
mutual
def zAm.l0 : Nat → List (S60) → List Int → List (S60) → Int → Int → Option (List Int × Int)
 | 0, _, _, _, _, _ => none
 | k + 1, x0, x7, x19, x20, x21 => if x21 < x20 then (if 0 ≤ x21 then (if x21 < (x19.length : Int) then (zAm.l1 k x0 x7 (-1) x19 x20 x21 x0 (x0.length : Int) 0 ((zAn x19 x21).f0) ((zAn x19 x21).f1)) else (none)) else (none)) else (some (x7, 0))
def zAm.l1 : Nat → List (S60) → List Int → Int → List (S60) → Int → Int → List (S60) → Int → Int → ByteArray → List Int → Option (List Int × Int)
 | 0, _, _, _, _, _, _, _, _, _, _, _ => none
 | k + 1, x0, x7, x10, x19, x20, x21, x25, x26, x27, x206000, x206001 => if x27 < x26 then (if 0 ≤ x27 then (if x27 < (x25.length : Int) then ((zCc.f k x206000 x206001 ((zAn x25 x27).f0) ((zAn x25 x27).f1)).bind fun t208 => (if t208 = true then (if x10 < 0 then (zAm.l1 k x0 x7 x27 x19 x20 x21 x25 x26 (wrap64 (x27 + 1)) x206000 x206001) else (if 0 ≤ x10 then (if x10 < (x0.length : Int) then (if (((zAn x25 x27).f1).length : Int) < (((zAn x0 x10).f1).length : Int) then (zAm.l1 k x0 x7 x27 x19 x20 x21 x25 x26 (wrap64 (x27 + 1)) x206000 x206001) else (zAm.l1 k x0 x7 x10 x19 x20 x21 x25 x26 (wrap64 (x27 + 1)) x206000 x206001)) else (none)) else (none))) else (zAm.l1 k x0 x7 x10 x19 x20 x21 x25 x26 (wrap64 (x27 + 1)) x206000 x206001))) else (none)) else (none)) else (if x7.length < 17592186044416 then (zAm.l0 k x0 (x7 ++ [x10]) x19 x20 (wrap64 (x21 + 1))) else (none))
end
def zAm.f (k : Nat) (l0 : List (S60)) (a1 : Int) : Option (List Int × Int) := (liaison_CheckGroups.f l0 a1).bind fun t203 => (if t203 = 0 then (zAm.l0 k l0 ([] : List Int) l0 (l0.length : Int) 0) else (some (([] : List Int), t203)))
theorem zAm.zBw : ∀ k, (∀ y0 y1 y2 y3 y4, LeO (zAm.l0 k y0 y1 y2 y3 y4) (zAm.l0 (k + 1) y0 y1 y2 y3 y4)) ∧ (∀ y0 y1 y2 y3 y4 y5 y6 y7 y8 y9 y10, LeO (zAm.l1 k y0 y1 y2 y3 y4 y5 y6 y7 y8 y9 y10) (zAm.l1 (k + 1) y0 y1 y2 y3 y4 y5 y6 y7 y8 y9 y10))
 | 0 => ⟨fun _ _ _ _ _ r h => by simp [zAm.l0] at h, fun _ _ _ _ _ _ _ _ _ _ _ r h => by simp [zAm.l1] at h⟩
 | k + 1 => by
  obtain ⟨ih0, ih1⟩ := zAm.zBw k
  refine ⟨?_, ?_⟩
  ·intro y0 y1 y2 y3 y4
   unfold zAm.l0
   repeat' first
   | (with_reducible exact ih0 _ _ _ _ _)
   | (with_reducible exact ih1 _ _ _ _ _ _ _ _ _ _ _)
   | (with_reducible exact zCc.mono _ _ _ _ _)
   | (with_reducible exact LeO.refl _)
   | (with_reducible exact LeO.none _)
   | (with_reducible refine LeO.ite ?_ ?_)
   | (with_reducible refine LeO.bind ?_ (fun _ => ?_))
  ·intro y0 y1 y2 y3 y4 y5 y6 y7 y8 y9 y10
   unfold zAm.l1
   repeat' first
   | (with_reducible exact ih0 _ _ _ _ _)
   | (with_reducible exact ih1 _ _ _ _ _ _ _ _ _ _ _)
   | (with_reducible exact zCc.mono _ _ _ _ _)
   | (with_reducible exact LeO.refl _)
   | (with_reducible exact LeO.none _)
   | (with_reducible refine LeO.ite ?_ ?_)
   | (with_reducible refine LeO.bind ?_ (fun _ => ?_))
theorem zAm.mono : ∀ a0 a1 k, LeO (zAm.f k a0 a1) (zAm.f (k + 1) a0 a1) := by
 intro a0 a1 k
 obtain ⟨ih0, ih1⟩ := zAm.zBw k
 unfold zAm.f
 repeat' first
   | (with_reducible exact ih0 _ _ _ _ _)
   | (with_reducible exact ih1 _ _ _ _ _ _ _ _ _ _ _)
   | (with_reducible exact zCc.mono _ _ _ _ _)
   | (with_reducible exact LeO.refl _)
   | (with_reducible exact LeO.none _)
   | (with_reducible refine LeO.ite ?_ ?_)
   | (with_reducible refine LeO.bind ?_ (fun _ => ?_))
def zAm.T12 : Bool × List (List Nat × List Nat) := (true, [([], []), ([], []), ([0, 1], [0, 1]), ([2, 2], [2]), ([3], [3]), ([4, 3], [3, 4]), ([5, 3, 3], [3, 5]), ([6], [6]), ([7, 6], [6, 7]), ([8, 6], [6, 8]), ([6], [6]), ([6], [6]), ([10, 11, 6], [6, 10, 11]), ([12, 6], [6, 12]), ([13, 6], [6, 13]), ([14, 6], [6, 14]), ([9, 15, 6], [6, 9, 15]), ([6, 16, 3], [3, 6, 16]), ([3, 17], [3, 17])])
def zAm.B12 : List Nat := [0, 0, 3, 7, 15, 31, 63, 127, 255, 511, 127, 127, 3199, 7295, 15487, 31871, 65535, 131071, 262143]
theorem zAm.tab12 : rtab .any (opsOf Tryz.f25 12) = zAm.T12 := by kernel_rfl
theorem zAm.bits12 : waitsOk zAm.T12.2 zAm.B12 = true := by kernel_rfl
set_option maxHeartbeats 8000000 in
set_option maxRecDepth 100000 in
theorem zAm.calls (k : Nat) (A0 : Option Addr) (c0 : Nat) (l0 : List (S60)) (a1 : Int) (r1 : List Int) (r2 : Int) (w : World) (hr0 : Kd.C k60 w A0 l0.length l0) (hc0 : l0.length ≤ c0) (h : zAm.f k l0 a1 = some (r1, r2)) :
  Calls Tryz.prog 25 #[.slice A0 l0.length c0, .int .i64 a1] w fun e w' => ∃ v0_ : Value, e = .returned (.tuple #[v0_, .int .i64 r2]) ∧ Kd.R (Kd.int .i64) 3 w' w.heap.size (fun _ => True) v0_ r1 ∧ Below w.heap.size w w' := by
 have hu60 := Tryz.underlying60
 have HR0 := zA1.mk hr0
 have HC0 := zA1.mk hc0
 clear hr0 hc0
 have HB := zA1.mk (Below.refl w.heap.size w)
 have H : ((liaison_CheckGroups.f l0 a1).bind fun t203 => (if t203 = 0 then (zAm.l0 k l0 ([] : List Int) l0 (l0.length : Int) 0) else (some (([] : List Int), t203)))) = some (r1, r2) := h
 clear h
 replace H := Option.bind_eq_some_iff.mp H
 obtain ⟨t203, A30, H⟩ := H
 replace H : (if t203 = 0 then (zAm.l0 k l0 ([] : List Int) l0 (l0.length : Int) 0) else (some (([] : List Int), t203))) = some (r1, r2) := H
 have A3 := zA1.mk A30
 clear A30
 by_cases c4 : t203 = 0
 ·rw [if_pos c4] at H
  have c4b0 : (t203 == 0) = true := beq_iff_eq.mpr c4
  have c4b1 : (t203 != 0) = false := bne_eq_false_iff_eq.mpr c4
  clear c4
  have H' := zA1.mk H
  clear H
  go_enter Tryz.func25, Tryz.ntmps25
  go_wp2_with (first | ((with_reducible refine zAy (f := 47) rfl ?_); refine zBz (some 15) rfl rfl Tryz.func47 (by kernel_rfl) rfl #[.slice A0 l0.length c0, .int .i64 a1] rfl (by (try simp only [List.map_toArray, List.map_cons, List.map_nil]); first | done | rfl | (simp only [List.length_drop, List.length_take]; rfl)) ?_; (with_reducible refine (liaison_CheckGroups.calls _ _ l0 a1 t203 _ ?side1 ?side2 A3.out).mono ?_); (case side1 => repeat (first | exact HR0.out | (with_reducible refine Kd.zAj ?_ _) | (with_reducible refine Kd.zAr ?_ _) | (with_reducible refine Kd.zB9 ?_))); (case side2 => exact HC0.out); rintro e w5 ⟨rfl, hb⟩; refine ⟨_, rfl, ?_⟩; have n0_ := zA1.mk (zAg (by repeat (first | (with_reducible first | exact HB.out | apply zA2 | apply zA0 | apply zA3) | exact HB.out)) hb); clear HB; have HB := n0_; clear n0_; (try clear hb); (try clear hb2); (try clear hk); (try clear hi)))
  go_loopg [7, 21] k (fun kq v7 v21 w' => ∃ (x7_1 : List Int) (x21_1 : Int), v21 = .int .i64 x21_1 ∧ zA1 (zAm.l0 kq l0 x7_1 l0 (l0.length : Int) x21_1 = some (r1, r2)) ∧ zA1 (kq ≤ k) ∧ zA1 (Kd.R (Kd.int .i64) 3 w' w.heap.size (fun _ => True) v7 x7_1) ∧ zA1 (Below w.heap.size w w'))
  case atStart => exact ⟨(([] : List Int)), (0), (by first | rfl | (simp; done) | (simp [*]; done)), H', ⟨Nat.le_refl _⟩, ⟨by first | exact Kd.R_nil _ _ _ _ _ | exact Kd.N_nil _ _ _ _ _ | exact Kd.V_nil _ _ _ _ _ | exact Kd.Q_nil _ _ _ _ _ | exact Kd.S_nil _ _ _ _ _⟩, ⟨by repeat (first | (with_reducible first | exact HB.out | apply zA2 | apply zA0 | apply zA3) | exact HB.out)⟩⟩
  case round =>
   clear H'
   try clear c2
   try clear p2
   try clear c4
   try clear c4b0
   try clear c4b1
   obtain ⟨x7_1, x21_1, rfl, HA, HK1, HO_7, HB⟩ := hrel
   cases gk with
   | zero => exact absurd HA.out (by simp [zAm.l0])
   | succ k1 =>
    have H := HA.out
    clear HA
    simp only [zAm.l0] at H
    by_cases c6 : x21_1 < (l0.length : Int)
    ·rw [if_pos c6] at H
     have c6b0 : decide (x21_1 < (l0.length : Int)) = true := decide_eq_true c6
     clear c6
     by_cases c7 : 0 ≤ x21_1
     rotate_left
     ·rw [if_neg c7] at H
      exact absurd H (by simp)
     rw [if_pos c7] at H
     have c7b0 : decide (0 ≤ x21_1) = true := decide_eq_true c7
     clear c7
     by_cases c8 : x21_1 < (l0.length : Int)
     rotate_left
     ·rw [if_neg c8] at H
      exact absurd H (by simp)
     rw [if_pos c8] at H
     have c8b0 : decide (x21_1 < (l0.length : Int)) = true := decide_eq_true c8
     clear c8
     have H' := zA1.mk H
     clear H
     have p204 : 0 ≤ (x21_1 : Int) := of_decide_eq_true (by first | (with_reducible assumption) | assumption)
     have q204 : x21_1 < (l0.length : Int) := of_decide_eq_true (by first | (with_reducible assumption) | assumption)
     obtain ⟨ad204, A204_1, c204_1, e204, hx204_0, hx204_1, hl204_1, hi204_1⟩ := at_T60 HR0.out x21_1 p204 q204
     cases e204
     replace hx204_0 := (HB.out.cell (World.block_lt_of_cell? w _ hx204_0)).trans hx204_0
     replace hx204_1 := (HB.out.cell (World.block_lt_of_cell? w _ hx204_1)).trans hx204_1
     have HR204_1 := zA1.mk hi204_1
     have HC204_1 := zA1.mk hl204_1
     clear hi204_1 hl204_1
     replace p204 := eq_true p204
     replace q204 := eq_true q204
     go_wp2_with (first | ((with_reducible refine zBk (N := 9) rfl ?_); (try (refine gate_guard (by rfl) ?_; dsimp only)); refine zBl ?hg (N := 9) ?hd (cs := #[.string (⟨#[]⟩ : ByteArray), .slice none 0 0]) (t := 60) ?hr ?_; (case hd => rfl); (case hg => rfl); (case hr => first | (go_simp; done) | (go_simp; rfl)); intro gb205 hg w9 hbox hb; have n0_ := zA1.mk (Kd.zBg (by (with_reducible repeat (first | apply Kd.zAf | apply Kd.zAe | apply Kd.zAh)); exact HO_7.out) hb); have n1_ := zA1.mk (zAg (by repeat (first | (with_reducible first | exact HB.out | apply zA2 | apply zA0 | apply zA3) | exact HB.out)) hb); have n2_ := zA1.mk (hbox); have n3_ := zA1.mk ((by rw [hg]; exact (zAb (by repeat (first | (with_reducible first | exact HB.out | apply zA2 | apply zA0 | apply zA3) | exact HB.out))) : w.heap.size ≤ gb205)); have n4_ := zA1.mk ((by rw [hg]; exact (zAb (by repeat (first | (with_reducible first | exact HB.out | apply zA2 | apply zA0 | apply zA3) | exact HB.out))) : w.heap.size ≤ gb205)); clear HO_7; clear HB; have HO_7 := n0_; have HB := n1_; have BK205 := n2_; have GW205 := n3_; have GE205 := n4_; clear n0_ n1_ n2_ n3_ n4_; clear hb hbox hg; have hcz10_0 : w9.cell? ⟨gb205, 0, none⟩ = some (.string (⟨#[]⟩ : ByteArray)) := (zA9 BK205.out 0).trans rfl; have hcz10_1 : w9.cell? ⟨gb205, 1, none⟩ = some (.slice none 0 0) := (zA9 BK205.out 1).trans rfl; have hfz10_0 := zAd BK205.out 0; have hfz10_1 := zAd BK205.out 1))
     go_loopg [10, 27] k1 (fun kq v10 v27 w' => ∃ (x10_2 : Int) (x27_2 : Int), v10 = .int .i64 x10_2 ∧ v27 = .int .i64 x27_2 ∧ zA1 (zAm.l1 kq l0 x7_1 x10_2 l0 (l0.length : Int) x21_1 l0 (l0.length : Int) x27_2 ((zAn l0 x21_1).f0) ((zAn l0 x21_1).f1) = some (r1, r2)) ∧ zA1 (kq ≤ k1) ∧ zA1 (Kd.R (Kd.int .i64) 3 w' w.heap.size (fun _ => True) u7 x7_1) ∧ zA1 (w'.heap[gb205]? = some (.cells #[.string ((zAn l0 x21_1).f0), (.slice A204_1 ((zAn l0 x21_1).f1).length c204_1)] 60 (0, 0))) ∧ zA1 (Below w.heap.size w w'))
     case atStart => exact ⟨((-1)), (0), (by first | rfl | (simp; done) | (simp [*]; done)), (by first | rfl | (simp; done) | (simp [*]; done)), H', ⟨Nat.le_refl _⟩, ⟨by (with_reducible repeat (first | apply Kd.zAf | apply Kd.zAe | apply Kd.zAh)); exact Kd.zC0 (Kd.R_far (p := ⟨gb205, 1, none⟩) (Kd.R_far (p := ⟨gb205, 0, none⟩) (Kd.R_types HO_7.out BK205.out (by decide)) (fun _ hk => hk.2) (.string ((zAn l0 x21_1).f0))) (fun _ hk => hk.2) (.slice A204_1 ((zAn l0 x21_1).f1).length c204_1)) (fun _ hk => trivial)⟩, ⟨by (with_reducible repeat (first | refine zA7 ?_ _ | refine zA8 ?_ | refine zA6 ?_ _)); refine blk_put (cs := #[.string ((zAn l0 x21_1).f0), .slice none 0 0]) ?_ 1 _ rfl; (with_reducible repeat (first | refine zA7 ?_ _ | refine zA8 ?_ | refine zA6 ?_ _)); refine blk_put (cs := #[.string (⟨#[]⟩ : ByteArray), .slice none 0 0]) ?_ 0 _ rfl; (with_reducible repeat (first | refine zA7 ?_ _ | refine zA8 ?_ | refine zA6 ?_ _)); exact BK205.out⟩, ⟨by repeat (first | (with_reducible first | exact HB.out | apply zA2 | apply zA0 | apply zA3 | refine zA5 ?_ GE205.out) | exact HB.out)⟩⟩
     case round =>
      clear H'
      try clear c2
      try clear p2
      try clear q2
      try clear hx2
      try clear c4
      try clear c4b0
      try clear c4b1
      try clear c6
      try clear c6b0
      try clear c7
      try clear c7b0
      try clear c8
      try clear c8b0
      try clear hcz10_0
      try clear hcz10_1
      try clear hfz10_0
      try clear hfz10_1
      try clear hx204_0
      try clear hx204_1
      try clear p2
      try clear p204
      try clear q204
      obtain ⟨x10_2, x27_2, rfl, rfl, HA, HK2, HO_7, BK205, HB⟩ := hrel
      cases gk with
      | zero => exact absurd HA.out (by simp [zAm.l1])
      | succ k2 =>
       have H := HA.out
       clear HA
       simp only [zAm.l1] at H
       by_cases c11 : x27_2 < (l0.length : Int)
       ·rw [if_pos c11] at H
        have c11b0 : decide (x27_2 < (l0.length : Int)) = true := decide_eq_true c11
        clear c11
        by_cases c12 : 0 ≤ x27_2
        rotate_left
        ·rw [if_neg c12] at H
         exact absurd H (by simp)
        rw [if_pos c12] at H
        have c12b0 : decide (0 ≤ x27_2) = true := decide_eq_true c12
        clear c12
        by_cases c13 : x27_2 < (l0.length : Int)
        rotate_left
        ·rw [if_neg c13] at H
         exact absurd H (by simp)
        rw [if_pos c13] at H
        have c13b0 : decide (x27_2 < (l0.length : Int)) = true := decide_eq_true c13
        clear c13
        replace H := Option.bind_eq_some_iff.mp H
        obtain ⟨t208, A140, H⟩ := H
        replace H : (if t208 = true then (if x10_2 < 0 then (zAm.l1 k2 l0 x7_1 x27_2 l0 (l0.length : Int) x21_1 l0 (l0.length : Int) (wrap64 (x27_2 + 1)) ((zAn l0 x21_1).f0) ((zAn l0 x21_1).f1)) else (if 0 ≤ x10_2 then (if x10_2 < (l0.length : Int) then (if (((zAn l0 x27_2).f1).length : Int) < (((zAn l0 x10_2).f1).length : Int) then (zAm.l1 k2 l0 x7_1 x27_2 l0 (l0.length : Int) x21_1 l0 (l0.length : Int) (wrap64 (x27_2 + 1)) ((zAn l0 x21_1).f0) ((zAn l0 x21_1).f1)) else (zAm.l1 k2 l0 x7_1 x10_2 l0 (l0.length : Int) x21_1 l0 (l0.length : Int) (wrap64 (x27_2 + 1)) ((zAn l0 x21_1).f0) ((zAn l0 x21_1).f1))) else (none)) else (none))) else (zAm.l1 k2 l0 x7_1 x10_2 l0 (l0.length : Int) x21_1 l0 (l0.length : Int) (wrap64 (x27_2 + 1)) ((zAn l0 x21_1).f0) ((zAn l0 x21_1).f1))) = some (r1, r2) := H
        have A14 := zA1.mk A140
        clear A140
        by_cases c15 : t208 = true
        ·subst c15
         have H1 : (if x10_2 < 0 then (zAm.l1 k2 l0 x7_1 x27_2 l0 (l0.length : Int) x21_1 l0 (l0.length : Int) (wrap64 (x27_2 + 1)) ((zAn l0 x21_1).f0) ((zAn l0 x21_1).f1)) else (if 0 ≤ x10_2 then (if x10_2 < (l0.length : Int) then (if (((zAn l0 x27_2).f1).length : Int) < (((zAn l0 x10_2).f1).length : Int) then (zAm.l1 k2 l0 x7_1 x27_2 l0 (l0.length : Int) x21_1 l0 (l0.length : Int) (wrap64 (x27_2 + 1)) ((zAn l0 x21_1).f0) ((zAn l0 x21_1).f1)) else (zAm.l1 k2 l0 x7_1 x10_2 l0 (l0.length : Int) x21_1 l0 (l0.length : Int) (wrap64 (x27_2 + 1)) ((zAn l0 x21_1).f0) ((zAn l0 x21_1).f1))) else (none)) else (none))) = some (r1, r2) := by rw [if_pos rfl] at H; exact H
         clear H
         have H := H1
         clear H1
         by_cases c16 : x10_2 < 0
         ·rw [if_pos c16] at H
          have c16b0 : decide (x10_2 < 0) = true := decide_eq_true c16
          clear c16
          have H' := zA1.mk H
          clear H
          have p206 : 0 ≤ (x27_2 : Int) := of_decide_eq_true (by first | (with_reducible assumption) | assumption)
          have q206 : x27_2 < (l0.length : Int) := of_decide_eq_true (by first | (with_reducible assumption) | assumption)
          obtain ⟨ad206, A206_1, c206_1, e206, hx206_0, hx206_1, hl206_1, hi206_1⟩ := at_T60 HR0.out x27_2 p206 q206
          obtain rfl : ad204 = ad206 := (by injection e206)
          replace hx206_0 := (HB.out.cell (World.block_lt_of_cell? w _ hx206_0)).trans hx206_0
          replace hx206_1 := (HB.out.cell (World.block_lt_of_cell? w _ hx206_1)).trans hx206_1
          have HR206_1 := zA1.mk hi206_1
          have HC206_1 := zA1.mk hl206_1
          clear hi206_1 hl206_1
          replace p206 := eq_true p206
          replace q206 := eq_true q206
          try go_wp2_with (first | ((with_reducible refine zBk (N := 12) rfl ?_); (try (refine gate_guard (by rfl) ?_; dsimp only)); refine zBl ?hg (N := 12) ?hd (cs := #[.string (⟨#[]⟩ : ByteArray), .slice none 0 0]) (t := 60) ?hr ?_; (case hd => rfl); (case hg => rfl); (case hr => first | (go_simp; done) | (go_simp; rfl)); intro gb207 hg w17 hbox hb; have n0_ := zA1.mk (Kd.zBg (by (with_reducible repeat (first | apply Kd.zAf | apply Kd.zAe | apply Kd.zAh)); exact HO_7.out) hb); have n1_ := zA1.mk (zAq (g := gb205) (o := .cells #[.string ((zAn l0 x21_1).f0), .slice A204_1 ((zAn l0 x21_1).f1).length c204_1] 60 (0, 0)) (by (with_reducible repeat (first | refine zA7 ?_ _ | refine zA8 ?_ | refine zA6 ?_ _)); exact BK205.out) hb); have n2_ := zA1.mk (zAg (by repeat (first | (with_reducible first | exact HB.out | apply zA2 | apply zA0 | apply zA3 | refine zA5 ?_ GE205.out) | exact HB.out)) hb); have n3_ := zA1.mk (hbox); have n4_ := zA1.mk ((by rw [hg]; exact (zAb (by repeat (first | (with_reducible first | exact HB.out | apply zA2 | apply zA0 | apply zA3 | refine zA5 ?_ GE205.out) | exact HB.out))) : w.heap.size ≤ gb207)); have n5_ := zA1.mk ((by rw [hg]; exact (zAb (by repeat (first | (with_reducible first | exact HB.out | apply zA2 | apply zA0 | apply zA3 | refine zA5 ?_ GE205.out) | exact HB.out))) : w.heap.size ≤ gb207)); have n6_ := zA1.mk ((by rw [hg]; exact Nat.ne_of_lt (zC7 (g := gb205) (o := .cells #[.string ((zAn l0 x21_1).f0), .slice A204_1 ((zAn l0 x21_1).f1).length c204_1] 60 (0, 0)) (by (with_reducible repeat (first | refine zA7 ?_ _ | refine zA8 ?_ | refine zA6 ?_ _)); exact BK205.out)) : gb205 ≠ gb207)); have n7_ := zA1.mk ((by rw [hg]; exact Nat.ne_of_gt (zC7 (g := gb205) (o := .cells #[.string ((zAn l0 x21_1).f0), .slice A204_1 ((zAn l0 x21_1).f1).length c204_1] 60 (0, 0)) (by (with_reducible repeat (first | refine zA7 ?_ _ | refine zA8 ?_ | refine zA6 ?_ _)); exact BK205.out)) : gb207 ≠ gb205)); clear HO_7; clear BK205; clear HB; have HO_7 := n0_; have BK205 := n1_; have HB := n2_; have BK207 := n3_; have GW207 := n4_; have GE207 := n5_; have NB205_207 := n6_; have NB207_205 := n7_; clear n0_ n1_ n2_ n3_ n4_ n5_ n6_ n7_; clear hb hbox hg; have hnb18 := NB207_205.out; have hnc18 := NB205_207.out; have hcz19_0 : w17.cell? ⟨gb207, 0, none⟩ = some (.string (⟨#[]⟩ : ByteArray)) := (zA9 BK207.out 0).trans rfl; have hcz19_1 : w17.cell? ⟨gb207, 1, none⟩ = some (.slice none 0 0) := (zA9 BK207.out 1).trans rfl; have hfz19_0 := zAd BK207.out 0; have hfz19_1 := zAd BK207.out 1))
          have n0_ : zA1 (Kd.R (Kd.int .i64) 3 ((w17.setCell ⟨gb207, 0, none⟩ (.string ((zAn l0 x27_2).f0))).setCell ⟨gb207, 1, none⟩ (.slice A206_1 ((zAn l0 x27_2).f1).length c206_1)) w.heap.size (fun _ => True) u7 x7_1) := ⟨by (with_reducible repeat (first | apply Kd.zAf | apply Kd.zAe | apply Kd.zAh)); exact Kd.zC0 (Kd.R_far (p := ⟨gb207, 1, none⟩) (Kd.R_far (p := ⟨gb207, 0, none⟩) (Kd.R_types HO_7.out BK207.out (by decide)) (fun _ hk => hk.2) (.string ((zAn l0 x27_2).f0))) (fun _ hk => hk.2) (.slice A206_1 ((zAn l0 x27_2).f1).length c206_1)) (fun _ hk => trivial)⟩
          have n1_ : zA1 (((w17.setCell ⟨gb207, 0, none⟩ (.string ((zAn l0 x27_2).f0))).setCell ⟨gb207, 1, none⟩ (.slice A206_1 ((zAn l0 x27_2).f1).length c206_1)).heap[gb205]? = some (.cells #[.string ((zAn l0 x21_1).f0), .slice A204_1 ((zAn l0 x21_1).f1).length c204_1] 60 (0, 0))) := ⟨by (with_reducible repeat (first | refine zA7 ?_ _ | refine zA8 ?_ | refine zA6 ?_ _)); refine blk_far ?_ NB205_207.out _; (with_reducible repeat (first | refine zA7 ?_ _ | refine zA8 ?_ | refine zA6 ?_ _)); refine blk_far ?_ NB205_207.out _; (with_reducible repeat (first | refine zA7 ?_ _ | refine zA8 ?_ | refine zA6 ?_ _)); exact BK205.out⟩
          have n2_ : zA1 (((w17.setCell ⟨gb207, 0, none⟩ (.string ((zAn l0 x27_2).f0))).setCell ⟨gb207, 1, none⟩ (.slice A206_1 ((zAn l0 x27_2).f1).length c206_1)).heap[gb207]? = some (.cells #[.string ((zAn l0 x27_2).f0), .slice A206_1 ((zAn l0 x27_2).f1).length c206_1] 60 (0, 0))) := ⟨by (with_reducible repeat (first | refine zA7 ?_ _ | refine zA8 ?_ | refine zA6 ?_ _)); refine blk_put (cs := #[.string ((zAn l0 x27_2).f0), .slice none 0 0]) ?_ 1 _ rfl; (with_reducible repeat (first | refine zA7 ?_ _ | refine zA8 ?_ | refine zA6 ?_ _)); refine blk_put (cs := #[.string (⟨#[]⟩ : ByteArray), .slice none 0 0]) ?_ 0 _ rfl; (with_reducible repeat (first | refine zA7 ?_ _ | refine zA8 ?_ | refine zA6 ?_ _)); exact BK207.out⟩
          have n3_ : zA1 (Below w.heap.size w ((w17.setCell ⟨gb207, 0, none⟩ (.string ((zAn l0 x27_2).f0))).setCell ⟨gb207, 1, none⟩ (.slice A206_1 ((zAn l0 x27_2).f1).length c206_1))) := ⟨by repeat (first | (with_reducible first | exact HB.out | apply zA2 | apply zA0 | apply zA3 | refine zA5 ?_ GE205.out | refine zA5 ?_ GE207.out) | exact HB.out)⟩
          (try clear HO_7)
          (try clear BK205)
          (try clear BK207)
          (try clear HB)
          generalize ((w17.setCell ⟨gb207, 0, none⟩ (.string ((zAn l0 x27_2).f0))).setCell ⟨gb207, 1, none⟩ (.slice A206_1 ((zAn l0 x27_2).f1).length c206_1)) = w20 at n0_ n1_ n2_ n3_ ⊢
          have HO_7 := n0_
          have BK205 := n1_
          have BK207 := n2_
          have HB := n3_
          clear n0_ n1_ n2_ n3_
          have n0_ := zA1.mk (Kd.zAh HO_7.out)
          have n1_ := zA1.mk (zA8 BK205.out)
          have n2_ := zA1.mk (zA8 BK207.out)
          have n3_ := zA1.mk (zA3 HB.out)
          clear HO_7
          clear BK205
          clear BK207
          clear HB
          have HO_7 := n0_
          have BK205 := n1_
          have BK207 := n2_
          have HB := n3_
          clear n0_ n1_ n2_ n3_
          refine start_ (n := 19) (S := fun w' => w'.cell? ⟨gb205, 0, none⟩ = some (.string ((zAn l0 x21_1).f0)) ∧ w'.cell? ⟨gb205, 1, none⟩ = some (.slice A204_1 ((zAn l0 x21_1).f1).length c204_1) ∧ w'.cell? ⟨gb207, 0, none⟩ = some (.string ((zAn l0 x27_2).f0)) ∧ w'.cell? ⟨gb207, 1, none⟩ = some (.slice A206_1 ((zAn l0 x27_2).f1).length c206_1)) (ds := []) #[false, false, false, false, false, false, false, false, false, false, false, false, false, false, false, false, false, false, false] (by kernel_rfl) rfl rfl ⟨(zA9 BK205.out 0).trans rfl, (zA9 BK205.out 1).trans rfl, (zA9 BK207.out 0).trans rfl, (zA9 BK207.out 1).trans rfl⟩ (fun hHeld => ?_); refine with_tabW zAm.tab12 zAm.bits12 (fun HT_ HW_ => ?_)
          generalize w20.drew = w21 at HO_7 BK205 BK207 HB hHeld ⊢
          refine take_ (i := 0) (N := some 32) (v := ?_) (a' := ?_) #[true, false, false, false, false, false, false, false, false, false, false, false, false, false, false, false, false, false, false] rfl rfl (zC1 HT_.out HW_.out (by kernel_rfl)) (fun _ _ _ h => h) (Or.inl ⟨by rfl, ?_⟩) hHeld ?_ ?_
          rotate_left
          ·rintro w' ⟨s0, s1, s2, s3⟩
           go_simp
           with_reducible rfl
          rotate_left
          ·simp only [Act.put, List.setIfInBounds_toArray, List.set_cons_zero, List.set_cons_succ, i64_w, i32_w]
           rfl
          refine take_ (i := 1) (N := some 33) (v := ?_) (a' := ?_) #[true, true, false, false, false, false, false, false, false, false, false, false, false, false, false, false, false, false, false] rfl rfl (zC1 HT_.out HW_.out (by kernel_rfl)) (fun _ _ _ h => h) (Or.inl ⟨by rfl, ?_⟩) hHeld ?_ ?_
          rotate_left
          ·rintro w' ⟨s0, s1, s2, s3⟩
           go_simp
           with_reducible rfl
          rotate_left
          ·simp only [Act.put, List.setIfInBounds_toArray, List.set_cons_zero, List.set_cons_succ, i64_w, i32_w]
           rfl
          refine one_ (i := 2) (N := some 34) #[true, true, true, false, false, false, false, false, false, false, false, false, false, false, false, false, false, false, false] rfl rfl (one_of HT_.out (by kernel_rfl)) (by decide) (fun K hK => ?_)
          refine goes_ Tryz.func48 (by kernel_rfl) rfl #[.agg #[.string ((zAn l0 x21_1).f0), .slice A204_1 ((zAn l0 x21_1).f1).length c204_1], .agg #[.string ((zAn l0 x27_2).f0), .slice A206_1 ((zAn l0 x27_2).f1).length c206_1]] (by rfl) rfl rfl (by (try simp only [List.map_toArray, List.map_cons, List.map_nil]); first | done | rfl | (simp only [List.length_drop, List.length_take]; rfl)) ?_
          with_reducible refine (zCc.calls k2 ((zAn l0 x21_1).f0) _ _ ((zAn l0 x21_1).f1) ((zAn l0 x27_2).f0) _ _ ((zAn l0 x27_2).f1) true _ ?side1 ?side2 ?side3 ?side4 A14.out).mono ?_
          (case side1 => repeat (first | exact (Kd.zAx HR204_1.out HB.out) | (with_reducible refine Kd.zAj ?_ _) | (with_reducible refine Kd.zAr ?_ _) | (with_reducible refine Kd.zB9 ?_)))
          (case side2 => exact HC204_1.out)
          (case side3 => repeat (first | exact (Kd.zAx HR206_1.out HB.out) | (with_reducible refine Kd.zAj ?_ _) | (with_reducible refine Kd.zAr ?_ _) | (with_reducible refine Kd.zB9 ?_)))
          (case side4 => exact HC206_1.out)
          rintro e w22 ⟨rfl, hb⟩
          refine ⟨_, rfl, ?_⟩
          have n0_ := zA1.mk (Kd.zBg (by (with_reducible repeat (first | apply Kd.zAf | apply Kd.zAe | apply Kd.zAh)); exact HO_7.out) hb)
          have n1_ := zA1.mk (zAq (g := gb205) (o := .cells #[.string ((zAn l0 x21_1).f0), .slice A204_1 ((zAn l0 x21_1).f1).length c204_1] 60 (0, 0)) (by (with_reducible repeat (first | refine zA7 ?_ _ | refine zA8 ?_ | refine zA6 ?_ _)); exact BK205.out) hb)
          have n2_ := zA1.mk (zAq (g := gb207) (o := .cells #[.string ((zAn l0 x27_2).f0), .slice A206_1 ((zAn l0 x27_2).f1).length c206_1] 60 (0, 0)) (by (with_reducible repeat (first | refine zA7 ?_ _ | refine zA8 ?_ | refine zA6 ?_ _)); exact BK207.out) hb)
          have n3_ := zA1.mk (zAg (by repeat (first | (with_reducible first | exact HB.out | apply zA2 | apply zA0 | apply zA3 | refine zA5 ?_ GE205.out | refine zA5 ?_ GE207.out) | exact HB.out)) hb)
          clear HO_7
          clear BK205
          clear BK207
          clear HB
          have HO_7 := n0_
          have BK205 := n1_
          have BK207 := n2_
          have HB := n3_
          clear n0_ n1_ n2_ n3_
          (try clear hb)
          (try clear hb2)
          (try clear hk)
          (try clear hi)
          refine hK.out _ _ ⟨(zA9 BK205.out 0).trans rfl, (zA9 BK205.out 1).trans rfl, (zA9 BK207.out 0).trans rfl, (zA9 BK207.out 1).trans rfl⟩ (fun hHeld => ?_)
          clear hK K
          refine norm_ (a' := ?_) ?_ ?_
          rotate_left
          ·show Act.put _ (some 34) _ = _
           simp only [Act.put, List.setIfInBounds_toArray, List.set_cons_zero, List.set_cons_succ, i64_w, i32_w]
           rfl
          refine pure_ (i := 3) (N := some 35) (v := ?_) (a' := ?_) #[true, true, true, true, false, false, false, false, false, false, false, false, false, false, false, false, false, false, false] rfl rfl (zBf HT_.out (by kernel_rfl)) (fun _ _ _ h => h) (Or.inl ⟨by rfl, ?_⟩) ?_ ?_
          rotate_left
          ·intro w'
           go_simp
           with_reducible rfl
          rotate_left
          ·simp only [Act.put, List.setIfInBounds_toArray, List.set_cons_zero, List.set_cons_succ, i64_w, i32_w]
           rfl
          refine pure_ (i := 4) (N := some 36) (v := ?_) (a' := ?_) #[true, true, true, true, true, false, false, false, false, false, false, false, false, false, false, false, false, false, false] rfl rfl (zBf HT_.out (by kernel_rfl)) (fun _ _ _ h => h) (Or.inl ⟨by rfl, ?_⟩) ?_ ?_
          rotate_left
          ·intro w'
           go_simp
           with_reducible rfl
          rotate_left
          ·simp only [Act.put, List.setIfInBounds_toArray, List.set_cons_zero, List.set_cons_succ, i64_w, i32_w]
           rfl
          refine pure_ (i := 5) (N := some 37) (v := ?_) (a' := ?_) #[true, true, true, true, true, true, false, false, false, false, false, false, false, false, false, false, false, false, false] rfl rfl (zBf HT_.out (by kernel_rfl)) (fun _ _ _ h => h) (Or.inl ⟨by rfl, ?_⟩) ?_ ?_
          rotate_left
          ·intro w'
           go_simp
           with_reducible rfl
          rotate_left
          ·simp only [Act.put, List.setIfInBounds_toArray, List.set_cons_zero, List.set_cons_succ, i64_w, i32_w]
           rfl
          refine pure_ (i := 6) (N := some 38) (v := ?_) (a' := ?_) #[true, true, true, true, true, true, true, false, false, false, false, false, false, false, false, false, false, false, false] rfl rfl (zBf HT_.out (by kernel_rfl)) (fun _ _ _ h => h) (Or.inl ⟨by rfl, ?_⟩) ?_ ?_
          rotate_left
          ·intro w'
           go_simp
           with_reducible rfl
          rotate_left
          ·simp only [Act.put, List.setIfInBounds_toArray, List.set_cons_zero, List.set_cons_succ, i64_w, i32_w]
           rfl
          refine pure_ (i := 7) (N := some 39) (v := undef) (a' := ?_) #[true, true, true, true, true, true, true, true, false, false, false, false, false, false, false, false, false, false, false] rfl rfl (zBf HT_.out (by kernel_rfl)) (fun _ _ _ h => h) (Or.inr ⟨by rfl, rfl⟩) ?_ ?_
          rotate_left
          ·simp only [Act.put, List.setIfInBounds_toArray, List.set_cons_zero, List.set_cons_succ, i64_w, i32_w]
           rfl
          refine pure_ (i := 8) (N := some 40) (v := undef) (a' := ?_) #[true, true, true, true, true, true, true, true, true, false, false, false, false, false, false, false, false, false, false] rfl rfl (zBf HT_.out (by kernel_rfl)) (fun _ _ _ h => h) (Or.inr ⟨by rfl, rfl⟩) ?_ ?_
          rotate_left
          ·simp only [Act.put, List.setIfInBounds_toArray, List.set_cons_zero, List.set_cons_succ, i64_w, i32_w]
           rfl
          refine pure_ (i := 9) (N := some 41) (v := undef) (a' := ?_) #[true, true, true, true, true, true, true, true, true, true, false, false, false, false, false, false, false, false, false] rfl rfl (zBf HT_.out (by kernel_rfl)) (fun _ _ _ h => h) (Or.inr ⟨by rfl, rfl⟩) ?_ ?_
          rotate_left
          ·simp only [Act.put, List.setIfInBounds_toArray, List.set_cons_zero, List.set_cons_succ, i64_w, i32_w]
           rfl
          refine pure_ (i := 10) (N := some 42) (v := undef) (a' := ?_) #[true, true, true, true, true, true, true, true, true, true, true, false, false, false, false, false, false, false, false] rfl rfl (zBf HT_.out (by kernel_rfl)) (fun _ _ _ h => h) (Or.inr ⟨by rfl, rfl⟩) ?_ ?_
          rotate_left
          ·simp only [Act.put, List.setIfInBounds_toArray, List.set_cons_zero, List.set_cons_succ, i64_w, i32_w]
           rfl
          refine pure_ (i := 11) (N := some 43) (v := undef) (a' := ?_) #[true, true, true, true, true, true, true, true, true, true, true, true, false, false, false, false, false, false, false] rfl rfl (zBf HT_.out (by kernel_rfl)) (fun _ _ _ h => h) (Or.inr ⟨by rfl, rfl⟩) ?_ ?_
          rotate_left
          ·simp only [Act.put, List.setIfInBounds_toArray, List.set_cons_zero, List.set_cons_succ, i64_w, i32_w]
           rfl
          refine pure_ (i := 12) (N := some 44) (v := undef) (a' := ?_) #[true, true, true, true, true, true, true, true, true, true, true, true, true, false, false, false, false, false, false] rfl rfl (zBf HT_.out (by kernel_rfl)) (fun _ _ _ h => h) (Or.inr ⟨by rfl, rfl⟩) ?_ ?_
          rotate_left
          ·simp only [Act.put, List.setIfInBounds_toArray, List.set_cons_zero, List.set_cons_succ, i64_w, i32_w]
           rfl
          refine pure_ (i := 13) (N := some 45) (v := undef) (a' := ?_) #[true, true, true, true, true, true, true, true, true, true, true, true, true, true, false, false, false, false, false] rfl rfl (zBf HT_.out (by kernel_rfl)) (fun _ _ _ h => h) (Or.inr ⟨by rfl, rfl⟩) ?_ ?_
          rotate_left
          ·simp only [Act.put, List.setIfInBounds_toArray, List.set_cons_zero, List.set_cons_succ, i64_w, i32_w]
           rfl
          refine pure_ (i := 14) (N := some 46) (v := undef) (a' := ?_) #[true, true, true, true, true, true, true, true, true, true, true, true, true, true, true, false, false, false, false] rfl rfl (zBf HT_.out (by kernel_rfl)) (fun _ _ _ h => h) (Or.inr ⟨by rfl, rfl⟩) ?_ ?_
          rotate_left
          ·simp only [Act.put, List.setIfInBounds_toArray, List.set_cons_zero, List.set_cons_succ, i64_w, i32_w]
           rfl
          refine pure_ (i := 15) (N := some 47) (v := undef) (a' := ?_) #[true, true, true, true, true, true, true, true, true, true, true, true, true, true, true, true, false, false, false] rfl rfl (zBf HT_.out (by kernel_rfl)) (fun _ _ _ h => h) (Or.inr ⟨by rfl, rfl⟩) ?_ ?_
          rotate_left
          ·simp only [Act.put, List.setIfInBounds_toArray, List.set_cons_zero, List.set_cons_succ, i64_w, i32_w]
           rfl
          refine pure_ (i := 16) (N := some 48) (v := undef) (a' := ?_) #[true, true, true, true, true, true, true, true, true, true, true, true, true, true, true, true, true, false, false] rfl rfl (zBf HT_.out (by kernel_rfl)) (fun _ _ _ h => h) (Or.inr ⟨by rfl, rfl⟩) ?_ ?_
          rotate_left
          ·simp only [Act.put, List.setIfInBounds_toArray, List.set_cons_zero, List.set_cons_succ, i64_w, i32_w]
           rfl
          refine pure_ (i := 17) (N := some 49) (v := ?_) (a' := ?_) #[true, true, true, true, true, true, true, true, true, true, true, true, true, true, true, true, true, true, false] rfl rfl (zBf HT_.out (by kernel_rfl)) (fun _ _ _ h => h) (Or.inl ⟨by rfl, ?_⟩) ?_ ?_
          rotate_left
          ·intro w'
           go_simp
           with_reducible rfl
          rotate_left
          ·simp only [Act.put, List.setIfInBounds_toArray, List.set_cons_zero, List.set_cons_succ, i64_w, i32_w]
           rfl
          refine pure_ (i := 18) (N := some 50) (v := ?_) (a' := ?_) #[true, true, true, true, true, true, true, true, true, true, true, true, true, true, true, true, true, true, true] rfl rfl (zBf HT_.out (by kernel_rfl)) (fun _ _ _ h => h) (Or.inl ⟨by rfl, ?_⟩) ?_ ?_
          rotate_left
          ·intro w'
           go_simp
           with_reducible rfl
          rotate_left
          ·simp only [Act.put, List.setIfInBounds_toArray, List.set_cons_zero, List.set_cons_succ, i64_w, i32_w]
           rfl
          refine done_ (done_of HT_.out (by kernel_rfl)) ?_
          try go_wp2
          go_roundg k2
          case measure => have := HK1.out; have := HK2.out; omega
          case rel => exact ⟨(x27_2), (wrap64 (x27_2 + 1)), (by first | rfl | (simp; done) | (simp [*]; done)), (by first | rfl | (simp; done) | (simp [*]; done)), H', ⟨by have := HK1.out; have := HK2.out; omega⟩, ⟨by (with_reducible repeat (first | apply Kd.zAf | apply Kd.zAe | apply Kd.zAh)); exact HO_7.out⟩, ⟨by (with_reducible repeat (first | refine zA7 ?_ _ | refine zA8 ?_ | refine zA6 ?_ _)); exact BK205.out⟩, ⟨by repeat (first | (with_reducible first | exact HB.out | apply zA2 | apply zA0 | apply zA3 | refine zA5 ?_ GE205.out | refine zA5 ?_ GE207.out) | exact HB.out)⟩⟩
         ·rw [if_neg c16] at H
          have c16b0 : decide (x10_2 < 0) = false := decide_eq_false c16
          clear c16
          by_cases c23 : 0 ≤ x10_2
          rotate_left
          ·rw [if_neg c23] at H
           exact absurd H (by simp)
          rw [if_pos c23] at H
          have c23b0 : decide (0 ≤ x10_2) = true := decide_eq_true c23
          clear c23
          by_cases c24 : x10_2 < (l0.length : Int)
          rotate_left
          ·rw [if_neg c24] at H
           exact absurd H (by simp)
          rw [if_pos c24] at H
          have c24b0 : decide (x10_2 < (l0.length : Int)) = true := decide_eq_true c24
          clear c24
          by_cases c25 : (((zAn l0 x27_2).f1).length : Int) < (((zAn l0 x10_2).f1).length : Int)
          ·rw [if_pos c25] at H
           have c25b0 : decide ((((zAn l0 x27_2).f1).length : Int) < (((zAn l0 x10_2).f1).length : Int)) = true := decide_eq_true c25
           have c25b1 : decide (((zAn l0 x27_2).f1).length < ((zAn l0 x10_2).f1).length) = true := decide_eq_true (Int.ofNat_lt.mp c25)
           clear c25
           have H' := zA1.mk H
           clear H
           have p206 : 0 ≤ (x27_2 : Int) := of_decide_eq_true (by first | (with_reducible assumption) | assumption)
           have q206 : x27_2 < (l0.length : Int) := of_decide_eq_true (by first | (with_reducible assumption) | assumption)
           obtain ⟨ad206, A206_1, c206_1, e206, hx206_0, hx206_1, hl206_1, hi206_1⟩ := at_T60 HR0.out x27_2 p206 q206
           obtain rfl : ad204 = ad206 := (by injection e206)
           replace hx206_0 := (HB.out.cell (World.block_lt_of_cell? w _ hx206_0)).trans hx206_0
           replace hx206_1 := (HB.out.cell (World.block_lt_of_cell? w _ hx206_1)).trans hx206_1
           have HR206_1 := zA1.mk hi206_1
           have HC206_1 := zA1.mk hl206_1
           clear hi206_1 hl206_1
           replace p206 := eq_true p206
           replace q206 := eq_true q206
           try go_wp2_with (first | ((with_reducible refine zBk (N := 12) rfl ?_); (try (refine gate_guard (by rfl) ?_; dsimp only)); refine zBl ?hg (N := 12) ?hd (cs := #[.string (⟨#[]⟩ : ByteArray), .slice none 0 0]) (t := 60) ?hr ?_; (case hd => rfl); (case hg => rfl); (case hr => first | (go_simp; done) | (go_simp; rfl)); intro gb207 hg w26 hbox hb; have n0_ := zA1.mk (Kd.zBg (by (with_reducible repeat (first | apply Kd.zAf | apply Kd.zAe | apply Kd.zAh)); exact HO_7.out) hb); have n1_ := zA1.mk (zAq (g := gb205) (o := .cells #[.string ((zAn l0 x21_1).f0), .slice A204_1 ((zAn l0 x21_1).f1).length c204_1] 60 (0, 0)) (by (with_reducible repeat (first | refine zA7 ?_ _ | refine zA8 ?_ | refine zA6 ?_ _)); exact BK205.out) hb); have n2_ := zA1.mk (zAg (by repeat (first | (with_reducible first | exact HB.out | apply zA2 | apply zA0 | apply zA3 | refine zA5 ?_ GE205.out) | exact HB.out)) hb); have n3_ := zA1.mk (hbox); have n4_ := zA1.mk ((by rw [hg]; exact (zAb (by repeat (first | (with_reducible first | exact HB.out | apply zA2 | apply zA0 | apply zA3 | refine zA5 ?_ GE205.out) | exact HB.out))) : w.heap.size ≤ gb207)); have n5_ := zA1.mk ((by rw [hg]; exact (zAb (by repeat (first | (with_reducible first | exact HB.out | apply zA2 | apply zA0 | apply zA3 | refine zA5 ?_ GE205.out) | exact HB.out))) : w.heap.size ≤ gb207)); have n6_ := zA1.mk ((by rw [hg]; exact Nat.ne_of_lt (zC7 (g := gb205) (o := .cells #[.string ((zAn l0 x21_1).f0), .slice A204_1 ((zAn l0 x21_1).f1).length c204_1] 60 (0, 0)) (by (with_reducible repeat (first | refine zA7 ?_ _ | refine zA8 ?_ | refine zA6 ?_ _)); exact BK205.out)) : gb205 ≠ gb207)); have n7_ := zA1.mk ((by rw [hg]; exact Nat.ne_of_gt (zC7 (g := gb205) (o := .cells #[.string ((zAn l0 x21_1).f0), .slice A204_1 ((zAn l0 x21_1).f1).length c204_1] 60 (0, 0)) (by (with_reducible repeat (first | refine zA7 ?_ _ | refine zA8 ?_ | refine zA6 ?_ _)); exact BK205.out)) : gb207 ≠ gb205)); clear HO_7; clear BK205; clear HB; have HO_7 := n0_; have BK205 := n1_; have HB := n2_; have BK207 := n3_; have GW207 := n4_; have GE207 := n5_; have NB205_207 := n6_; have NB207_205 := n7_; clear n0_ n1_ n2_ n3_ n4_ n5_ n6_ n7_; clear hb hbox hg; have hnb27 := NB207_205.out; have hnc27 := NB205_207.out; have hcz28_0 : w26.cell? ⟨gb207, 0, none⟩ = some (.string (⟨#[]⟩ : ByteArray)) := (zA9 BK207.out 0).trans rfl; have hcz28_1 : w26.cell? ⟨gb207, 1, none⟩ = some (.slice none 0 0) := (zA9 BK207.out 1).trans rfl; have hfz28_0 := zAd BK207.out 0; have hfz28_1 := zAd BK207.out 1))
           have n0_ : zA1 (Kd.R (Kd.int .i64) 3 ((w26.setCell ⟨gb207, 0, none⟩ (.string ((zAn l0 x27_2).f0))).setCell ⟨gb207, 1, none⟩ (.slice A206_1 ((zAn l0 x27_2).f1).length c206_1)) w.heap.size (fun _ => True) u7 x7_1) := ⟨by (with_reducible repeat (first | apply Kd.zAf | apply Kd.zAe | apply Kd.zAh)); exact Kd.zC0 (Kd.R_far (p := ⟨gb207, 1, none⟩) (Kd.R_far (p := ⟨gb207, 0, none⟩) (Kd.R_types HO_7.out BK207.out (by decide)) (fun _ hk => hk.2) (.string ((zAn l0 x27_2).f0))) (fun _ hk => hk.2) (.slice A206_1 ((zAn l0 x27_2).f1).length c206_1)) (fun _ hk => trivial)⟩
           have n1_ : zA1 (((w26.setCell ⟨gb207, 0, none⟩ (.string ((zAn l0 x27_2).f0))).setCell ⟨gb207, 1, none⟩ (.slice A206_1 ((zAn l0 x27_2).f1).length c206_1)).heap[gb205]? = some (.cells #[.string ((zAn l0 x21_1).f0), .slice A204_1 ((zAn l0 x21_1).f1).length c204_1] 60 (0, 0))) := ⟨by (with_reducible repeat (first | refine zA7 ?_ _ | refine zA8 ?_ | refine zA6 ?_ _)); refine blk_far ?_ NB205_207.out _; (with_reducible repeat (first | refine zA7 ?_ _ | refine zA8 ?_ | refine zA6 ?_ _)); refine blk_far ?_ NB205_207.out _; (with_reducible repeat (first | refine zA7 ?_ _ | refine zA8 ?_ | refine zA6 ?_ _)); exact BK205.out⟩
           have n2_ : zA1 (((w26.setCell ⟨gb207, 0, none⟩ (.string ((zAn l0 x27_2).f0))).setCell ⟨gb207, 1, none⟩ (.slice A206_1 ((zAn l0 x27_2).f1).length c206_1)).heap[gb207]? = some (.cells #[.string ((zAn l0 x27_2).f0), .slice A206_1 ((zAn l0 x27_2).f1).length c206_1] 60 (0, 0))) := ⟨by (with_reducible repeat (first | refine zA7 ?_ _ | refine zA8 ?_ | refine zA6 ?_ _)); refine blk_put (cs := #[.string ((zAn l0 x27_2).f0), .slice none 0 0]) ?_ 1 _ rfl; (with_reducible repeat (first | refine zA7 ?_ _ | refine zA8 ?_ | refine zA6 ?_ _)); refine blk_put (cs := #[.string (⟨#[]⟩ : ByteArray), .slice none 0 0]) ?_ 0 _ rfl; (with_reducible repeat (first | refine zA7 ?_ _ | refine zA8 ?_ | refine zA6 ?_ _)); exact BK207.out⟩
           have n3_ : zA1 (Below w.heap.size w ((w26.setCell ⟨gb207, 0, none⟩ (.string ((zAn l0 x27_2).f0))).setCell ⟨gb207, 1, none⟩ (.slice A206_1 ((zAn l0 x27_2).f1).length c206_1))) := ⟨by repeat (first | (with_reducible first | exact HB.out | apply zA2 | apply zA0 | apply zA3 | refine zA5 ?_ GE205.out | refine zA5 ?_ GE207.out) | exact HB.out)⟩
           (try clear HO_7)
           (try clear BK205)
           (try clear BK207)
           (try clear HB)
           generalize ((w26.setCell ⟨gb207, 0, none⟩ (.string ((zAn l0 x27_2).f0))).setCell ⟨gb207, 1, none⟩ (.slice A206_1 ((zAn l0 x27_2).f1).length c206_1)) = w29 at n0_ n1_ n2_ n3_ ⊢
           have HO_7 := n0_
           have BK205 := n1_
           have BK207 := n2_
           have HB := n3_
           clear n0_ n1_ n2_ n3_
           have n0_ := zA1.mk (Kd.zAh HO_7.out)
           have n1_ := zA1.mk (zA8 BK205.out)
           have n2_ := zA1.mk (zA8 BK207.out)
           have n3_ := zA1.mk (zA3 HB.out)
           clear HO_7
           clear BK205
           clear BK207
           clear HB
           have HO_7 := n0_
           have BK205 := n1_
           have BK207 := n2_
           have HB := n3_
           clear n0_ n1_ n2_ n3_
           have p209 : 0 ≤ (x10_2 : Int) := of_decide_eq_true (by first | (with_reducible assumption) | assumption)
           have q209 : x10_2 < (l0.length : Int) := of_decide_eq_true (by first | (with_reducible assumption) | assumption)
           obtain ⟨ad209, A209_1, c209_1, e209, hx209_0, hx209_1, hl209_1, hi209_1⟩ := at_T60 HR0.out x10_2 p209 q209
           have hw209_1 := hx209_1
           have hw209_0 := hx209_0
           obtain rfl : ad204 = ad209 := (by injection e209)
           replace hx209_0 := (HB.out.cell (World.block_lt_of_cell? w _ hx209_0)).trans hx209_0
           replace hx209_1 := (HB.out.cell (World.block_lt_of_cell? w _ hx209_1)).trans hx209_1
           have HR209_1 := zA1.mk hi209_1
           have HC209_1 := zA1.mk hl209_1
           clear hi209_1 hl209_1
           replace p209 := eq_true p209
           replace q209 := eq_true q209
           refine start_ (n := 19) (S := fun w' => w'.cell? ⟨gb205, 0, none⟩ = some (.string ((zAn l0 x21_1).f0)) ∧ w'.cell? ⟨gb205, 1, none⟩ = some (.slice A204_1 ((zAn l0 x21_1).f1).length c204_1) ∧ w'.cell? ⟨gb207, 0, none⟩ = some (.string ((zAn l0 x27_2).f0)) ∧ w'.cell? ⟨gb207, 1, none⟩ = some (.slice A206_1 ((zAn l0 x27_2).f1).length c206_1) ∧ w'.cell? (ad204.add ((x10_2).toNat * 2)) = some (.string ((zAn l0 x10_2).f0)) ∧ w'.cell? ⟨(ad204.add ((x10_2).toNat * 2)).block, (ad204.add ((x10_2).toNat * 2)).off + 1, none⟩ = some (.slice A209_1 ((zAn l0 x10_2).f1).length c209_1)) (ds := []) #[false, false, false, false, false, false, false, false, false, false, false, false, false, false, false, false, false, false, false] (by kernel_rfl) rfl rfl ⟨(zA9 BK205.out 0).trans rfl, (zA9 BK205.out 1).trans rfl, (zA9 BK207.out 0).trans rfl, (zA9 BK207.out 1).trans rfl, ((HB.out.cell (World.block_lt_of_cell? w _ hw209_0)).trans hw209_0), ((HB.out.cell (World.block_lt_of_cell? w _ hw209_1)).trans hw209_1)⟩ (fun hHeld => ?_); refine with_tabW zAm.tab12 zAm.bits12 (fun HT_ HW_ => ?_)
           generalize w29.drew = w30 at HO_7 BK205 BK207 HB HR209_1 hx209_0 hx209_1 hHeld ⊢
           refine take_ (i := 0) (N := some 32) (v := ?_) (a' := ?_) #[true, false, false, false, false, false, false, false, false, false, false, false, false, false, false, false, false, false, false] rfl rfl (zC1 HT_.out HW_.out (by kernel_rfl)) (fun _ _ _ h => h) (Or.inl ⟨by rfl, ?_⟩) hHeld ?_ ?_
           rotate_left
           ·rintro w' ⟨s0, s1, s2, s3, s4, s5⟩
            go_simp
            with_reducible rfl
           rotate_left
           ·simp only [Act.put, List.setIfInBounds_toArray, List.set_cons_zero, List.set_cons_succ, i64_w, i32_w]
            rfl
           refine take_ (i := 1) (N := some 33) (v := ?_) (a' := ?_) #[true, true, false, false, false, false, false, false, false, false, false, false, false, false, false, false, false, false, false] rfl rfl (zC1 HT_.out HW_.out (by kernel_rfl)) (fun _ _ _ h => h) (Or.inl ⟨by rfl, ?_⟩) hHeld ?_ ?_
           rotate_left
           ·rintro w' ⟨s0, s1, s2, s3, s4, s5⟩
            go_simp
            with_reducible rfl
           rotate_left
           ·simp only [Act.put, List.setIfInBounds_toArray, List.set_cons_zero, List.set_cons_succ, i64_w, i32_w]
            rfl
           refine one_ (i := 2) (N := some 34) #[true, true, true, false, false, false, false, false, false, false, false, false, false, false, false, false, false, false, false] rfl rfl (one_of HT_.out (by kernel_rfl)) (by decide) (fun K hK => ?_)
           refine goes_ Tryz.func48 (by kernel_rfl) rfl #[.agg #[.string ((zAn l0 x21_1).f0), .slice A204_1 ((zAn l0 x21_1).f1).length c204_1], .agg #[.string ((zAn l0 x27_2).f0), .slice A206_1 ((zAn l0 x27_2).f1).length c206_1]] (by rfl) rfl rfl (by (try simp only [List.map_toArray, List.map_cons, List.map_nil]); first | done | rfl | (simp only [List.length_drop, List.length_take]; rfl)) ?_
           with_reducible refine (zCc.calls k2 ((zAn l0 x21_1).f0) _ _ ((zAn l0 x21_1).f1) ((zAn l0 x27_2).f0) _ _ ((zAn l0 x27_2).f1) true _ ?side1 ?side2 ?side3 ?side4 A14.out).mono ?_
           (case side1 => repeat (first | exact (Kd.zAx HR204_1.out HB.out) | (with_reducible refine Kd.zAj ?_ _) | (with_reducible refine Kd.zAr ?_ _) | (with_reducible refine Kd.zB9 ?_)))
           (case side2 => exact HC204_1.out)
           (case side3 => repeat (first | exact (Kd.zAx HR206_1.out HB.out) | (with_reducible refine Kd.zAj ?_ _) | (with_reducible refine Kd.zAr ?_ _) | (with_reducible refine Kd.zB9 ?_)))
           (case side4 => exact HC206_1.out)
           rintro e w31 ⟨rfl, hb⟩
           refine ⟨_, rfl, ?_⟩
           have n0_ := zA1.mk (Kd.zBg (by (with_reducible repeat (first | apply Kd.zAf | apply Kd.zAe | apply Kd.zAh)); exact HO_7.out) hb)
           have n1_ := zA1.mk (zAq (g := gb205) (o := .cells #[.string ((zAn l0 x21_1).f0), .slice A204_1 ((zAn l0 x21_1).f1).length c204_1] 60 (0, 0)) (by (with_reducible repeat (first | refine zA7 ?_ _ | refine zA8 ?_ | refine zA6 ?_ _)); exact BK205.out) hb)
           have n2_ := zA1.mk (zAq (g := gb207) (o := .cells #[.string ((zAn l0 x27_2).f0), .slice A206_1 ((zAn l0 x27_2).f1).length c206_1] 60 (0, 0)) (by (with_reducible repeat (first | refine zA7 ?_ _ | refine zA8 ?_ | refine zA6 ?_ _)); exact BK207.out) hb)
           have n3_ := zA1.mk (zAg (by repeat (first | (with_reducible first | exact HB.out | apply zA2 | apply zA0 | apply zA3 | refine zA5 ?_ GE205.out | refine zA5 ?_ GE207.out) | exact HB.out)) hb)
           clear HO_7
           clear BK205
           clear BK207
           clear HB
           have HO_7 := n0_
           have BK205 := n1_
           have BK207 := n2_
           have HB := n3_
           clear n0_ n1_ n2_ n3_
           (try clear hb)
           (try clear hb2)
           (try clear hk)
           (try clear hi)
           refine hK.out _ _ ⟨(zA9 BK205.out 0).trans rfl, (zA9 BK205.out 1).trans rfl, (zA9 BK207.out 0).trans rfl, (zA9 BK207.out 1).trans rfl, ((HB.out.cell (World.block_lt_of_cell? w _ hw209_0)).trans hw209_0), ((HB.out.cell (World.block_lt_of_cell? w _ hw209_1)).trans hw209_1)⟩ (fun hHeld => ?_)
           clear hK K
           refine norm_ (a' := ?_) ?_ ?_
           rotate_left
           ·show Act.put _ (some 34) _ = _
            simp only [Act.put, List.setIfInBounds_toArray, List.set_cons_zero, List.set_cons_succ, i64_w, i32_w]
            rfl
           refine pure_ (i := 3) (N := some 35) (v := ?_) (a' := ?_) #[true, true, true, true, false, false, false, false, false, false, false, false, false, false, false, false, false, false, false] rfl rfl (zBf HT_.out (by kernel_rfl)) (fun _ _ _ h => h) (Or.inl ⟨by rfl, ?_⟩) ?_ ?_
           rotate_left
           ·intro w'
            go_simp
            with_reducible rfl
           rotate_left
           ·simp only [Act.put, List.setIfInBounds_toArray, List.set_cons_zero, List.set_cons_succ, i64_w, i32_w]
            rfl
           refine pure_ (i := 4) (N := some 36) (v := ?_) (a' := ?_) #[true, true, true, true, true, false, false, false, false, false, false, false, false, false, false, false, false, false, false] rfl rfl (zBf HT_.out (by kernel_rfl)) (fun _ _ _ h => h) (Or.inl ⟨by rfl, ?_⟩) ?_ ?_
           rotate_left
           ·intro w'
            go_simp
            with_reducible rfl
           rotate_left
           ·simp only [Act.put, List.setIfInBounds_toArray, List.set_cons_zero, List.set_cons_succ, i64_w, i32_w]
            rfl
           refine pure_ (i := 5) (N := some 37) (v := ?_) (a' := ?_) #[true, true, true, true, true, true, false, false, false, false, false, false, false, false, false, false, false, false, false] rfl rfl (zBf HT_.out (by kernel_rfl)) (fun _ _ _ h => h) (Or.inl ⟨by rfl, ?_⟩) ?_ ?_
           rotate_left
           ·intro w'
            go_simp
            with_reducible rfl
           rotate_left
           ·simp only [Act.put, List.setIfInBounds_toArray, List.set_cons_zero, List.set_cons_succ, i64_w, i32_w]
            rfl
           refine pure_ (i := 6) (N := some 38) (v := ?_) (a' := ?_) #[true, true, true, true, true, true, true, false, false, false, false, false, false, false, false, false, false, false, false] rfl rfl (zBf HT_.out (by kernel_rfl)) (fun _ _ _ h => h) (Or.inl ⟨by rfl, ?_⟩) ?_ ?_
           rotate_left
           ·intro w'
            go_simp
            with_reducible rfl
           rotate_left
           ·simp only [Act.put, List.setIfInBounds_toArray, List.set_cons_zero, List.set_cons_succ, i64_w, i32_w]
            rfl
           refine pure_ (i := 7) (N := some 39) (v := ?_) (a' := ?_) #[true, true, true, true, true, true, true, true, false, false, false, false, false, false, false, false, false, false, false] rfl rfl (zBf HT_.out (by kernel_rfl)) (fun _ _ _ h => h) (Or.inl ⟨by rfl, ?_⟩) ?_ ?_
           rotate_left
           ·intro w'
            go_simp
            with_reducible rfl
           rotate_left
           ·simp only [Act.put, List.setIfInBounds_toArray, List.set_cons_zero, List.set_cons_succ, i64_w, i32_w]
            rfl
           refine pure_ (i := 10) (N := some 42) (v := ?_) (a' := ?_) #[true, true, true, true, true, true, true, true, false, false, true, false, false, false, false, false, false, false, false] rfl rfl (zBf HT_.out (by kernel_rfl)) (fun _ _ _ h => h) (Or.inl ⟨by rfl, ?_⟩) ?_ ?_
           rotate_left
           ·intro w'
            go_simp
            with_reducible rfl
           rotate_left
           ·simp only [Act.put, List.setIfInBounds_toArray, List.set_cons_zero, List.set_cons_succ, i64_w, i32_w]
            rfl
           refine pure_ (i := 11) (N := some 43) (v := ?_) (a' := ?_) #[true, true, true, true, true, true, true, true, false, false, true, true, false, false, false, false, false, false, false] rfl rfl (zBf HT_.out (by kernel_rfl)) (fun _ _ _ h => h) (Or.inl ⟨by rfl, ?_⟩) ?_ ?_
           rotate_left
           ·intro w'
            go_simp
            with_reducible rfl
           rotate_left
           ·simp only [Act.put, List.setIfInBounds_toArray, List.set_cons_zero, List.set_cons_succ, i64_w, i32_w]
            rfl
           refine pure_ (i := 12) (N := some 44) (v := ?_) (a' := ?_) #[true, true, true, true, true, true, true, true, false, false, true, true, true, false, false, false, false, false, false] rfl rfl (zBf HT_.out (by kernel_rfl)) (fun _ _ _ h => h) (Or.inl ⟨by rfl, ?_⟩) ?_ ?_
           rotate_left
           ·intro w'
            go_simp
            with_reducible rfl
           rotate_left
           ·simp only [Act.put, List.setIfInBounds_toArray, List.set_cons_zero, List.set_cons_succ, i64_w, i32_w]
            rfl
           refine pure_ (i := 13) (N := some 45) (v := ?_) (a' := ?_) #[true, true, true, true, true, true, true, true, false, false, true, true, true, true, false, false, false, false, false] rfl rfl (zBf HT_.out (by kernel_rfl)) (fun _ _ _ h => h) (Or.inl ⟨by rfl, ?_⟩) ?_ ?_
           rotate_left
           ·intro w'
            go_simp
            with_reducible rfl
           rotate_left
           ·simp only [Act.put, List.setIfInBounds_toArray, List.set_cons_zero, List.set_cons_succ, i64_w, i32_w]
            rfl
           refine take_ (i := 8) (N := some 40) (v := ?_) (a' := ?_) #[true, true, true, true, true, true, true, true, true, false, true, true, true, true, false, false, false, false, false] rfl rfl (zC1 HT_.out HW_.out (by kernel_rfl)) (fun _ _ _ h => h) (Or.inl ⟨by rfl, ?_⟩) hHeld ?_ ?_
           rotate_left
           ·rintro w' ⟨s0, s1, s2, s3, s4, s5⟩
            go_simp
            with_reducible rfl
           rotate_left
           ·simp only [Act.put, List.setIfInBounds_toArray, List.set_cons_zero, List.set_cons_succ, i64_w, i32_w]
            rfl
           refine pure_ (i := 9) (N := some 41) (v := ?_) (a' := ?_) #[true, true, true, true, true, true, true, true, true, true, true, true, true, true, false, false, false, false, false] rfl rfl (zBf HT_.out (by kernel_rfl)) (fun _ _ _ h => h) (Or.inl ⟨by rfl, ?_⟩) ?_ ?_
           rotate_left
           ·intro w'
            go_simp
            with_reducible rfl
           rotate_left
           ·simp only [Act.put, List.setIfInBounds_toArray, List.set_cons_zero, List.set_cons_succ, i64_w, i32_w]
            rfl
           refine take_ (i := 14) (N := some 46) (v := ?_) (a' := ?_) #[true, true, true, true, true, true, true, true, true, true, true, true, true, true, true, false, false, false, false] rfl rfl (zC1 HT_.out HW_.out (by kernel_rfl)) (fun _ _ _ h => h) (Or.inl ⟨by rfl, ?_⟩) hHeld ?_ ?_
           rotate_left
           ·rintro w' ⟨s0, s1, s2, s3, s4, s5⟩
            go_simp
            with_reducible rfl
           rotate_left
           ·simp only [Act.put, List.setIfInBounds_toArray, List.set_cons_zero, List.set_cons_succ, i64_w, i32_w]
            rfl
           refine pure_ (i := 15) (N := some 47) (v := ?_) (a' := ?_) #[true, true, true, true, true, true, true, true, true, true, true, true, true, true, true, true, false, false, false] rfl rfl (zBf HT_.out (by kernel_rfl)) (fun _ _ _ h => h) (Or.inl ⟨by rfl, ?_⟩) ?_ ?_
           rotate_left
           ·intro w'
            go_simp
            with_reducible rfl
           rotate_left
           ·simp only [Act.put, List.setIfInBounds_toArray, List.set_cons_zero, List.set_cons_succ, i64_w, i32_w]
            rfl
           refine pure_ (i := 16) (N := some 48) (v := ?_) (a' := ?_) #[true, true, true, true, true, true, true, true, true, true, true, true, true, true, true, true, true, false, false] rfl rfl (zBf HT_.out (by kernel_rfl)) (fun _ _ _ h => h) (Or.inl ⟨by rfl, ?_⟩) ?_ ?_
           rotate_left
           ·intro w'
            go_simp
            with_reducible rfl
           rotate_left
           ·simp only [Act.put, List.setIfInBounds_toArray, List.set_cons_zero, List.set_cons_succ, i64_w, i32_w]
            rfl
           refine pure_ (i := 17) (N := some 49) (v := ?_) (a' := ?_) #[true, true, true, true, true, true, true, true, true, true, true, true, true, true, true, true, true, true, false] rfl rfl (zBf HT_.out (by kernel_rfl)) (fun _ _ _ h => h) (Or.inl ⟨by rfl, ?_⟩) ?_ ?_
           rotate_left
           ·intro w'
            go_simp
            with_reducible rfl
           rotate_left
           ·simp only [Act.put, List.setIfInBounds_toArray, List.set_cons_zero, List.set_cons_succ, i64_w, i32_w]
            rfl
           refine pure_ (i := 18) (N := some 50) (v := ?_) (a' := ?_) #[true, true, true, true, true, true, true, true, true, true, true, true, true, true, true, true, true, true, true] rfl rfl (zBf HT_.out (by kernel_rfl)) (fun _ _ _ h => h) (Or.inl ⟨by rfl, ?_⟩) ?_ ?_
           rotate_left
           ·intro w'
            go_simp
            with_reducible rfl
           rotate_left
           ·simp only [Act.put, List.setIfInBounds_toArray, List.set_cons_zero, List.set_cons_succ, i64_w, i32_w]
            rfl
           refine done_ (done_of HT_.out (by kernel_rfl)) ?_
           try go_wp2
           go_roundg k2
           case measure => have := HK1.out; have := HK2.out; omega
           case rel => exact ⟨(x27_2), (wrap64 (x27_2 + 1)), (by first | rfl | (simp; done) | (simp [*]; done)), (by first | rfl | (simp; done) | (simp [*]; done)), H', ⟨by have := HK1.out; have := HK2.out; omega⟩, ⟨by (with_reducible repeat (first | apply Kd.zAf | apply Kd.zAe | apply Kd.zAh)); exact HO_7.out⟩, ⟨by (with_reducible repeat (first | refine zA7 ?_ _ | refine zA8 ?_ | refine zA6 ?_ _)); exact BK205.out⟩, ⟨by repeat (first | (with_reducible first | exact HB.out | apply zA2 | apply zA0 | apply zA3 | refine zA5 ?_ GE205.out | refine zA5 ?_ GE207.out) | exact HB.out)⟩⟩
          ·rw [if_neg c25] at H
           have c25b0 : decide ((((zAn l0 x27_2).f1).length : Int) < (((zAn l0 x10_2).f1).length : Int)) = false := decide_eq_false c25
           have c25b1 : decide (((zAn l0 x27_2).f1).length < ((zAn l0 x10_2).f1).length) = false := decide_eq_false (fun h => c25 (Int.ofNat_lt.mpr h))
           clear c25
           have H' := zA1.mk H
           clear H
           have p206 : 0 ≤ (x27_2 : Int) := of_decide_eq_true (by first | (with_reducible assumption) | assumption)
           have q206 : x27_2 < (l0.length : Int) := of_decide_eq_true (by first | (with_reducible assumption) | assumption)
           obtain ⟨ad206, A206_1, c206_1, e206, hx206_0, hx206_1, hl206_1, hi206_1⟩ := at_T60 HR0.out x27_2 p206 q206
           obtain rfl : ad204 = ad206 := (by injection e206)
           replace hx206_0 := (HB.out.cell (World.block_lt_of_cell? w _ hx206_0)).trans hx206_0
           replace hx206_1 := (HB.out.cell (World.block_lt_of_cell? w _ hx206_1)).trans hx206_1
           have HR206_1 := zA1.mk hi206_1
           have HC206_1 := zA1.mk hl206_1
           clear hi206_1 hl206_1
           replace p206 := eq_true p206
           replace q206 := eq_true q206
           try go_wp2_with (first | ((with_reducible refine zBk (N := 12) rfl ?_); (try (refine gate_guard (by rfl) ?_; dsimp only)); refine zBl ?hg (N := 12) ?hd (cs := #[.string (⟨#[]⟩ : ByteArray), .slice none 0 0]) (t := 60) ?hr ?_; (case hd => rfl); (case hg => rfl); (case hr => first | (go_simp; done) | (go_simp; rfl)); intro gb207 hg w32 hbox hb; have n0_ := zA1.mk (Kd.zBg (by (with_reducible repeat (first | apply Kd.zAf | apply Kd.zAe | apply Kd.zAh)); exact HO_7.out) hb); have n1_ := zA1.mk (zAq (g := gb205) (o := .cells #[.string ((zAn l0 x21_1).f0), .slice A204_1 ((zAn l0 x21_1).f1).length c204_1] 60 (0, 0)) (by (with_reducible repeat (first | refine zA7 ?_ _ | refine zA8 ?_ | refine zA6 ?_ _)); exact BK205.out) hb); have n2_ := zA1.mk (zAg (by repeat (first | (with_reducible first | exact HB.out | apply zA2 | apply zA0 | apply zA3 | refine zA5 ?_ GE205.out) | exact HB.out)) hb); have n3_ := zA1.mk (hbox); have n4_ := zA1.mk ((by rw [hg]; exact (zAb (by repeat (first | (with_reducible first | exact HB.out | apply zA2 | apply zA0 | apply zA3 | refine zA5 ?_ GE205.out) | exact HB.out))) : w.heap.size ≤ gb207)); have n5_ := zA1.mk ((by rw [hg]; exact (zAb (by repeat (first | (with_reducible first | exact HB.out | apply zA2 | apply zA0 | apply zA3 | refine zA5 ?_ GE205.out) | exact HB.out))) : w.heap.size ≤ gb207)); have n6_ := zA1.mk ((by rw [hg]; exact Nat.ne_of_lt (zC7 (g := gb205) (o := .cells #[.string ((zAn l0 x21_1).f0), .slice A204_1 ((zAn l0 x21_1).f1).length c204_1] 60 (0, 0)) (by (with_reducible repeat (first | refine zA7 ?_ _ | refine zA8 ?_ | refine zA6 ?_ _)); exact BK205.out)) : gb205 ≠ gb207)); have n7_ := zA1.mk ((by rw [hg]; exact Nat.ne_of_gt (zC7 (g := gb205) (o := .cells #[.string ((zAn l0 x21_1).f0), .slice A204_1 ((zAn l0 x21_1).f1).length c204_1] 60 (0, 0)) (by (with_reducible repeat (first | refine zA7 ?_ _ | refine zA8 ?_ | refine zA6 ?_ _)); exact BK205.out)) : gb207 ≠ gb205)); clear HO_7; clear BK205; clear HB; have HO_7 := n0_; have BK205 := n1_; have HB := n2_; have BK207 := n3_; have GW207 := n4_; have GE207 := n5_; have NB205_207 := n6_; have NB207_205 := n7_; clear n0_ n1_ n2_ n3_ n4_ n5_ n6_ n7_; clear hb hbox hg; have hnb33 := NB207_205.out; have hnc33 := NB205_207.out; have hcz34_0 : w32.cell? ⟨gb207, 0, none⟩ = some (.string (⟨#[]⟩ : ByteArray)) := (zA9 BK207.out 0).trans rfl; have hcz34_1 : w32.cell? ⟨gb207, 1, none⟩ = some (.slice none 0 0) := (zA9 BK207.out 1).trans rfl; have hfz34_0 := zAd BK207.out 0; have hfz34_1 := zAd BK207.out 1))
           have n0_ : zA1 (Kd.R (Kd.int .i64) 3 ((w32.setCell ⟨gb207, 0, none⟩ (.string ((zAn l0 x27_2).f0))).setCell ⟨gb207, 1, none⟩ (.slice A206_1 ((zAn l0 x27_2).f1).length c206_1)) w.heap.size (fun _ => True) u7 x7_1) := ⟨by (with_reducible repeat (first | apply Kd.zAf | apply Kd.zAe | apply Kd.zAh)); exact Kd.zC0 (Kd.R_far (p := ⟨gb207, 1, none⟩) (Kd.R_far (p := ⟨gb207, 0, none⟩) (Kd.R_types HO_7.out BK207.out (by decide)) (fun _ hk => hk.2) (.string ((zAn l0 x27_2).f0))) (fun _ hk => hk.2) (.slice A206_1 ((zAn l0 x27_2).f1).length c206_1)) (fun _ hk => trivial)⟩
           have n1_ : zA1 (((w32.setCell ⟨gb207, 0, none⟩ (.string ((zAn l0 x27_2).f0))).setCell ⟨gb207, 1, none⟩ (.slice A206_1 ((zAn l0 x27_2).f1).length c206_1)).heap[gb205]? = some (.cells #[.string ((zAn l0 x21_1).f0), .slice A204_1 ((zAn l0 x21_1).f1).length c204_1] 60 (0, 0))) := ⟨by (with_reducible repeat (first | refine zA7 ?_ _ | refine zA8 ?_ | refine zA6 ?_ _)); refine blk_far ?_ NB205_207.out _; (with_reducible repeat (first | refine zA7 ?_ _ | refine zA8 ?_ | refine zA6 ?_ _)); refine blk_far ?_ NB205_207.out _; (with_reducible repeat (first | refine zA7 ?_ _ | refine zA8 ?_ | refine zA6 ?_ _)); exact BK205.out⟩
           have n2_ : zA1 (((w32.setCell ⟨gb207, 0, none⟩ (.string ((zAn l0 x27_2).f0))).setCell ⟨gb207, 1, none⟩ (.slice A206_1 ((zAn l0 x27_2).f1).length c206_1)).heap[gb207]? = some (.cells #[.string ((zAn l0 x27_2).f0), .slice A206_1 ((zAn l0 x27_2).f1).length c206_1] 60 (0, 0))) := ⟨by (with_reducible repeat (first | refine zA7 ?_ _ | refine zA8 ?_ | refine zA6 ?_ _)); refine blk_put (cs := #[.string ((zAn l0 x27_2).f0), .slice none 0 0]) ?_ 1 _ rfl; (with_reducible repeat (first | refine zA7 ?_ _ | refine zA8 ?_ | refine zA6 ?_ _)); refine blk_put (cs := #[.string (⟨#[]⟩ : ByteArray), .slice none 0 0]) ?_ 0 _ rfl; (with_reducible repeat (first | refine zA7 ?_ _ | refine zA8 ?_ | refine zA6 ?_ _)); exact BK207.out⟩
           have n3_ : zA1 (Below w.heap.size w ((w32.setCell ⟨gb207, 0, none⟩ (.string ((zAn l0 x27_2).f0))).setCell ⟨gb207, 1, none⟩ (.slice A206_1 ((zAn l0 x27_2).f1).length c206_1))) := ⟨by repeat (first | (with_reducible first | exact HB.out | apply zA2 | apply zA0 | apply zA3 | refine zA5 ?_ GE205.out | refine zA5 ?_ GE207.out) | exact HB.out)⟩
           (try clear HO_7)
           (try clear BK205)
           (try clear BK207)
           (try clear HB)
           generalize ((w32.setCell ⟨gb207, 0, none⟩ (.string ((zAn l0 x27_2).f0))).setCell ⟨gb207, 1, none⟩ (.slice A206_1 ((zAn l0 x27_2).f1).length c206_1)) = w35 at n0_ n1_ n2_ n3_ ⊢
           have HO_7 := n0_
           have BK205 := n1_
           have BK207 := n2_
           have HB := n3_
           clear n0_ n1_ n2_ n3_
           have n0_ := zA1.mk (Kd.zAh HO_7.out)
           have n1_ := zA1.mk (zA8 BK205.out)
           have n2_ := zA1.mk (zA8 BK207.out)
           have n3_ := zA1.mk (zA3 HB.out)
           clear HO_7
           clear BK205
           clear BK207
           clear HB
           have HO_7 := n0_
           have BK205 := n1_
           have BK207 := n2_
           have HB := n3_
           clear n0_ n1_ n2_ n3_
           have p209 : 0 ≤ (x10_2 : Int) := of_decide_eq_true (by first | (with_reducible assumption) | assumption)
           have q209 : x10_2 < (l0.length : Int) := of_decide_eq_true (by first | (with_reducible assumption) | assumption)
           obtain ⟨ad209, A209_1, c209_1, e209, hx209_0, hx209_1, hl209_1, hi209_1⟩ := at_T60 HR0.out x10_2 p209 q209
           have hw209_1 := hx209_1
           have hw209_0 := hx209_0
           obtain rfl : ad204 = ad209 := (by injection e209)
           replace hx209_0 := (HB.out.cell (World.block_lt_of_cell? w _ hx209_0)).trans hx209_0
           replace hx209_1 := (HB.out.cell (World.block_lt_of_cell? w _ hx209_1)).trans hx209_1
           have HR209_1 := zA1.mk hi209_1
           have HC209_1 := zA1.mk hl209_1
           clear hi209_1 hl209_1
           replace p209 := eq_true p209
           replace q209 := eq_true q209
           refine start_ (n := 19) (S := fun w' => w'.cell? ⟨gb205, 0, none⟩ = some (.string ((zAn l0 x21_1).f0)) ∧ w'.cell? ⟨gb205, 1, none⟩ = some (.slice A204_1 ((zAn l0 x21_1).f1).length c204_1) ∧ w'.cell? ⟨gb207, 0, none⟩ = some (.string ((zAn l0 x27_2).f0)) ∧ w'.cell? ⟨gb207, 1, none⟩ = some (.slice A206_1 ((zAn l0 x27_2).f1).length c206_1) ∧ w'.cell? (ad204.add ((x10_2).toNat * 2)) = some (.string ((zAn l0 x10_2).f0)) ∧ w'.cell? ⟨(ad204.add ((x10_2).toNat * 2)).block, (ad204.add ((x10_2).toNat * 2)).off + 1, none⟩ = some (.slice A209_1 ((zAn l0 x10_2).f1).length c209_1)) (ds := []) #[false, false, false, false, false, false, false, false, false, false, false, false, false, false, false, false, false, false, false] (by kernel_rfl) rfl rfl ⟨(zA9 BK205.out 0).trans rfl, (zA9 BK205.out 1).trans rfl, (zA9 BK207.out 0).trans rfl, (zA9 BK207.out 1).trans rfl, ((HB.out.cell (World.block_lt_of_cell? w _ hw209_0)).trans hw209_0), ((HB.out.cell (World.block_lt_of_cell? w _ hw209_1)).trans hw209_1)⟩ (fun hHeld => ?_); refine with_tabW zAm.tab12 zAm.bits12 (fun HT_ HW_ => ?_)
           generalize w35.drew = w36 at HO_7 BK205 BK207 HB HR209_1 hx209_0 hx209_1 hHeld ⊢
           refine take_ (i := 0) (N := some 32) (v := ?_) (a' := ?_) #[true, false, false, false, false, false, false, false, false, false, false, false, false, false, false, false, false, false, false] rfl rfl (zC1 HT_.out HW_.out (by kernel_rfl)) (fun _ _ _ h => h) (Or.inl ⟨by rfl, ?_⟩) hHeld ?_ ?_
           rotate_left
           ·rintro w' ⟨s0, s1, s2, s3, s4, s5⟩
            go_simp
            with_reducible rfl
           rotate_left
           ·simp only [Act.put, List.setIfInBounds_toArray, List.set_cons_zero, List.set_cons_succ, i64_w, i32_w]
            rfl
           refine take_ (i := 1) (N := some 33) (v := ?_) (a' := ?_) #[true, true, false, false, false, false, false, false, false, false, false, false, false, false, false, false, false, false, false] rfl rfl (zC1 HT_.out HW_.out (by kernel_rfl)) (fun _ _ _ h => h) (Or.inl ⟨by rfl, ?_⟩) hHeld ?_ ?_
           rotate_left
           ·rintro w' ⟨s0, s1, s2, s3, s4, s5⟩
            go_simp
            with_reducible rfl
           rotate_left
           ·simp only [Act.put, List.setIfInBounds_toArray, List.set_cons_zero, List.set_cons_succ, i64_w, i32_w]
            rfl
           refine one_ (i := 2) (N := some 34) #[true, true, true, false, false, false, false, false, false, false, false, false, false, false, false, false, false, false, false] rfl rfl (one_of HT_.out (by kernel_rfl)) (by decide) (fun K hK => ?_)
           refine goes_ Tryz.func48 (by kernel_rfl) rfl #[.agg #[.string ((zAn l0 x21_1).f0), .slice A204_1 ((zAn l0 x21_1).f1).length c204_1], .agg #[.string ((zAn l0 x27_2).f0), .slice A206_1 ((zAn l0 x27_2).f1).length c206_1]] (by rfl) rfl rfl (by (try simp only [List.map_toArray, List.map_cons, List.map_nil]); first | done | rfl | (simp only [List.length_drop, List.length_take]; rfl)) ?_
           with_reducible refine (zCc.calls k2 ((zAn l0 x21_1).f0) _ _ ((zAn l0 x21_1).f1) ((zAn l0 x27_2).f0) _ _ ((zAn l0 x27_2).f1) true _ ?side1 ?side2 ?side3 ?side4 A14.out).mono ?_
           (case side1 => repeat (first | exact (Kd.zAx HR204_1.out HB.out) | (with_reducible refine Kd.zAj ?_ _) | (with_reducible refine Kd.zAr ?_ _) | (with_reducible refine Kd.zB9 ?_)))
           (case side2 => exact HC204_1.out)
           (case side3 => repeat (first | exact (Kd.zAx HR206_1.out HB.out) | (with_reducible refine Kd.zAj ?_ _) | (with_reducible refine Kd.zAr ?_ _) | (with_reducible refine Kd.zB9 ?_)))
           (case side4 => exact HC206_1.out)
           rintro e w37 ⟨rfl, hb⟩
           refine ⟨_, rfl, ?_⟩
           have n0_ := zA1.mk (Kd.zBg (by (with_reducible repeat (first | apply Kd.zAf | apply Kd.zAe | apply Kd.zAh)); exact HO_7.out) hb)
           have n1_ := zA1.mk (zAq (g := gb205) (o := .cells #[.string ((zAn l0 x21_1).f0), .slice A204_1 ((zAn l0 x21_1).f1).length c204_1] 60 (0, 0)) (by (with_reducible repeat (first | refine zA7 ?_ _ | refine zA8 ?_ | refine zA6 ?_ _)); exact BK205.out) hb)
           have n2_ := zA1.mk (zAq (g := gb207) (o := .cells #[.string ((zAn l0 x27_2).f0), .slice A206_1 ((zAn l0 x27_2).f1).length c206_1] 60 (0, 0)) (by (with_reducible repeat (first | refine zA7 ?_ _ | refine zA8 ?_ | refine zA6 ?_ _)); exact BK207.out) hb)
           have n3_ := zA1.mk (zAg (by repeat (first | (with_reducible first | exact HB.out | apply zA2 | apply zA0 | apply zA3 | refine zA5 ?_ GE205.out | refine zA5 ?_ GE207.out) | exact HB.out)) hb)
           clear HO_7
           clear BK205
           clear BK207
           clear HB
           have HO_7 := n0_
           have BK205 := n1_
           have BK207 := n2_
           have HB := n3_
           clear n0_ n1_ n2_ n3_
           (try clear hb)
           (try clear hb2)
           (try clear hk)
           (try clear hi)
           refine hK.out _ _ ⟨(zA9 BK205.out 0).trans rfl, (zA9 BK205.out 1).trans rfl, (zA9 BK207.out 0).trans rfl, (zA9 BK207.out 1).trans rfl, ((HB.out.cell (World.block_lt_of_cell? w _ hw209_0)).trans hw209_0), ((HB.out.cell (World.block_lt_of_cell? w _ hw209_1)).trans hw209_1)⟩ (fun hHeld => ?_)
           clear hK K
           refine norm_ (a' := ?_) ?_ ?_
           rotate_left
           ·show Act.put _ (some 34) _ = _
            simp only [Act.put, List.setIfInBounds_toArray, List.set_cons_zero, List.set_cons_succ, i64_w, i32_w]
            rfl
           refine pure_ (i := 3) (N := some 35) (v := ?_) (a' := ?_) #[true, true, true, true, false, false, false, false, false, false, false, false, false, false, false, false, false, false, false] rfl rfl (zBf HT_.out (by kernel_rfl)) (fun _ _ _ h => h) (Or.inl ⟨by rfl, ?_⟩) ?_ ?_
           rotate_left
           ·intro w'
            go_simp
            with_reducible rfl
           rotate_left
           ·simp only [Act.put, List.setIfInBounds_toArray, List.set_cons_zero, List.set_cons_succ, i64_w, i32_w]
            rfl
           refine pure_ (i := 4) (N := some 36) (v := ?_) (a' := ?_) #[true, true, true, true, true, false, false, false, false, false, false, false, false, false, false, false, false, false, false] rfl rfl (zBf HT_.out (by kernel_rfl)) (fun _ _ _ h => h) (Or.inl ⟨by rfl, ?_⟩) ?_ ?_
           rotate_left
           ·intro w'
            go_simp
            with_reducible rfl
           rotate_left
           ·simp only [Act.put, List.setIfInBounds_toArray, List.set_cons_zero, List.set_cons_succ, i64_w, i32_w]
            rfl
           refine pure_ (i := 5) (N := some 37) (v := ?_) (a' := ?_) #[true, true, true, true, true, true, false, false, false, false, false, false, false, false, false, false, false, false, false] rfl rfl (zBf HT_.out (by kernel_rfl)) (fun _ _ _ h => h) (Or.inl ⟨by rfl, ?_⟩) ?_ ?_
           rotate_left
           ·intro w'
            go_simp
            with_reducible rfl
           rotate_left
           ·simp only [Act.put, List.setIfInBounds_toArray, List.set_cons_zero, List.set_cons_succ, i64_w, i32_w]
            rfl
           refine pure_ (i := 6) (N := some 38) (v := ?_) (a' := ?_) #[true, true, true, true, true, true, true, false, false, false, false, false, false, false, false, false, false, false, false] rfl rfl (zBf HT_.out (by kernel_rfl)) (fun _ _ _ h => h) (Or.inl ⟨by rfl, ?_⟩) ?_ ?_
           rotate_left
           ·intro w'
            go_simp
            with_reducible rfl
           rotate_left
           ·simp only [Act.put, List.setIfInBounds_toArray, List.set_cons_zero, List.set_cons_succ, i64_w, i32_w]
            rfl
           refine pure_ (i := 7) (N := some 39) (v := ?_) (a' := ?_) #[true, true, true, true, true, true, true, true, false, false, false, false, false, false, false, false, false, false, false] rfl rfl (zBf HT_.out (by kernel_rfl)) (fun _ _ _ h => h) (Or.inl ⟨by rfl, ?_⟩) ?_ ?_
           rotate_left
           ·intro w'
            go_simp
            with_reducible rfl
           rotate_left
           ·simp only [Act.put, List.setIfInBounds_toArray, List.set_cons_zero, List.set_cons_succ, i64_w, i32_w]
            rfl
           refine pure_ (i := 10) (N := some 42) (v := ?_) (a' := ?_) #[true, true, true, true, true, true, true, true, false, false, true, false, false, false, false, false, false, false, false] rfl rfl (zBf HT_.out (by kernel_rfl)) (fun _ _ _ h => h) (Or.inl ⟨by rfl, ?_⟩) ?_ ?_
           rotate_left
           ·intro w'
            go_simp
            with_reducible rfl
           rotate_left
           ·simp only [Act.put, List.setIfInBounds_toArray, List.set_cons_zero, List.set_cons_succ, i64_w, i32_w]
            rfl
           refine pure_ (i := 11) (N := some 43) (v := ?_) (a' := ?_) #[true, true, true, true, true, true, true, true, false, false, true, true, false, false, false, false, false, false, false] rfl rfl (zBf HT_.out (by kernel_rfl)) (fun _ _ _ h => h) (Or.inl ⟨by rfl, ?_⟩) ?_ ?_
           rotate_left
           ·intro w'
            go_simp
            with_reducible rfl
           rotate_left
           ·simp only [Act.put, List.setIfInBounds_toArray, List.set_cons_zero, List.set_cons_succ, i64_w, i32_w]
            rfl
           refine pure_ (i := 12) (N := some 44) (v := ?_) (a' := ?_) #[true, true, true, true, true, true, true, true, false, false, true, true, true, false, false, false, false, false, false] rfl rfl (zBf HT_.out (by kernel_rfl)) (fun _ _ _ h => h) (Or.inl ⟨by rfl, ?_⟩) ?_ ?_
           rotate_left
           ·intro w'
            go_simp
            with_reducible rfl
           rotate_left
           ·simp only [Act.put, List.setIfInBounds_toArray, List.set_cons_zero, List.set_cons_succ, i64_w, i32_w]
            rfl
           refine pure_ (i := 13) (N := some 45) (v := ?_) (a' := ?_) #[true, true, true, true, true, true, true, true, false, false, true, true, true, true, false, false, false, false, false] rfl rfl (zBf HT_.out (by kernel_rfl)) (fun _ _ _ h => h) (Or.inl ⟨by rfl, ?_⟩) ?_ ?_
           rotate_left
           ·intro w'
            go_simp
            with_reducible rfl
           rotate_left
           ·simp only [Act.put, List.setIfInBounds_toArray, List.set_cons_zero, List.set_cons_succ, i64_w, i32_w]
            rfl
           refine take_ (i := 8) (N := some 40) (v := ?_) (a' := ?_) #[true, true, true, true, true, true, true, true, true, false, true, true, true, true, false, false, false, false, false] rfl rfl (zC1 HT_.out HW_.out (by kernel_rfl)) (fun _ _ _ h => h) (Or.inl ⟨by rfl, ?_⟩) hHeld ?_ ?_
           rotate_left
           ·rintro w' ⟨s0, s1, s2, s3, s4, s5⟩
            go_simp
            with_reducible rfl
           rotate_left
           ·simp only [Act.put, List.setIfInBounds_toArray, List.set_cons_zero, List.set_cons_succ, i64_w, i32_w]
            rfl
           refine pure_ (i := 9) (N := some 41) (v := ?_) (a' := ?_) #[true, true, true, true, true, true, true, true, true, true, true, true, true, true, false, false, false, false, false] rfl rfl (zBf HT_.out (by kernel_rfl)) (fun _ _ _ h => h) (Or.inl ⟨by rfl, ?_⟩) ?_ ?_
           rotate_left
           ·intro w'
            go_simp
            with_reducible rfl
           rotate_left
           ·simp only [Act.put, List.setIfInBounds_toArray, List.set_cons_zero, List.set_cons_succ, i64_w, i32_w]
            rfl
           refine take_ (i := 14) (N := some 46) (v := ?_) (a' := ?_) #[true, true, true, true, true, true, true, true, true, true, true, true, true, true, true, false, false, false, false] rfl rfl (zC1 HT_.out HW_.out (by kernel_rfl)) (fun _ _ _ h => h) (Or.inl ⟨by rfl, ?_⟩) hHeld ?_ ?_
           rotate_left
           ·rintro w' ⟨s0, s1, s2, s3, s4, s5⟩
            go_simp
            with_reducible rfl
           rotate_left
           ·simp only [Act.put, List.setIfInBounds_toArray, List.set_cons_zero, List.set_cons_succ, i64_w, i32_w]
            rfl
           refine pure_ (i := 15) (N := some 47) (v := ?_) (a' := ?_) #[true, true, true, true, true, true, true, true, true, true, true, true, true, true, true, true, false, false, false] rfl rfl (zBf HT_.out (by kernel_rfl)) (fun _ _ _ h => h) (Or.inl ⟨by rfl, ?_⟩) ?_ ?_
           rotate_left
           ·intro w'
            go_simp
            with_reducible rfl
           rotate_left
           ·simp only [Act.put, List.setIfInBounds_toArray, List.set_cons_zero, List.set_cons_succ, i64_w, i32_w]
            rfl
           refine pure_ (i := 16) (N := some 48) (v := ?_) (a' := ?_) #[true, true, true, true, true, true, true, true, true, true, true, true, true, true, true, true, true, false, false] rfl rfl (zBf HT_.out (by kernel_rfl)) (fun _ _ _ h => h) (Or.inl ⟨by rfl, ?_⟩) ?_ ?_
           rotate_left
           ·intro w'
            go_simp
            with_reducible rfl
           rotate_left
           ·simp only [Act.put, List.setIfInBounds_toArray, List.set_cons_zero, List.set_cons_succ, i64_w, i32_w]
            rfl
           refine pure_ (i := 17) (N := some 49) (v := ?_) (a' := ?_) #[true, true, true, true, true, true, true, true, true, true, true, true, true, true, true, true, true, true, false] rfl rfl (zBf HT_.out (by kernel_rfl)) (fun _ _ _ h => h) (Or.inl ⟨by rfl, ?_⟩) ?_ ?_
           rotate_left
           ·intro w'
            go_simp
            with_reducible rfl
           rotate_left
           ·simp only [Act.put, List.setIfInBounds_toArray, List.set_cons_zero, List.set_cons_succ, i64_w, i32_w]
            rfl
           refine pure_ (i := 18) (N := some 50) (v := ?_) (a' := ?_) #[true, true, true, true, true, true, true, true, true, true, true, true, true, true, true, true, true, true, true] rfl rfl (zBf HT_.out (by kernel_rfl)) (fun _ _ _ h => h) (Or.inl ⟨by rfl, ?_⟩) ?_ ?_
           rotate_left
           ·intro w'
            go_simp
            with_reducible rfl
           rotate_left
           ·simp only [Act.put, List.setIfInBounds_toArray, List.set_cons_zero, List.set_cons_succ, i64_w, i32_w]
            rfl
           refine done_ (done_of HT_.out (by kernel_rfl)) ?_
           try go_wp2
           go_roundg k2
           case measure => have := HK1.out; have := HK2.out; omega
           case rel => exact ⟨(x10_2), (wrap64 (x27_2 + 1)), (by first | rfl | (simp; done) | (simp [*]; done)), (by first | rfl | (simp; done) | (simp [*]; done)), H', ⟨by have := HK1.out; have := HK2.out; omega⟩, ⟨by (with_reducible repeat (first | apply Kd.zAf | apply Kd.zAe | apply Kd.zAh)); exact HO_7.out⟩, ⟨by (with_reducible repeat (first | refine zA7 ?_ _ | refine zA8 ?_ | refine zA6 ?_ _)); exact BK205.out⟩, ⟨by repeat (first | (with_reducible first | exact HB.out | apply zA2 | apply zA0 | apply zA3 | refine zA5 ?_ GE205.out | refine zA5 ?_ GE207.out) | exact HB.out)⟩⟩
        ·replace c15 := Bool.eq_false_iff.mpr c15
         subst c15
         have H1 : (zAm.l1 k2 l0 x7_1 x10_2 l0 (l0.length : Int) x21_1 l0 (l0.length : Int) (wrap64 (x27_2 + 1)) ((zAn l0 x21_1).f0) ((zAn l0 x21_1).f1)) = some (r1, r2) := by rw [if_neg (show ¬ (false = true) by decide)] at H; exact H
         clear H
         have H := H1
         clear H1
         have H' := zA1.mk H
         clear H
         have p206 : 0 ≤ (x27_2 : Int) := of_decide_eq_true (by first | (with_reducible assumption) | assumption)
         have q206 : x27_2 < (l0.length : Int) := of_decide_eq_true (by first | (with_reducible assumption) | assumption)
         obtain ⟨ad206, A206_1, c206_1, e206, hx206_0, hx206_1, hl206_1, hi206_1⟩ := at_T60 HR0.out x27_2 p206 q206
         obtain rfl : ad204 = ad206 := (by injection e206)
         replace hx206_0 := (HB.out.cell (World.block_lt_of_cell? w _ hx206_0)).trans hx206_0
         replace hx206_1 := (HB.out.cell (World.block_lt_of_cell? w _ hx206_1)).trans hx206_1
         have HR206_1 := zA1.mk hi206_1
         have HC206_1 := zA1.mk hl206_1
         clear hi206_1 hl206_1
         replace p206 := eq_true p206
         replace q206 := eq_true q206
         try go_wp2_with (first | ((with_reducible refine zBk (N := 12) rfl ?_); (try (refine gate_guard (by rfl) ?_; dsimp only)); refine zBl ?hg (N := 12) ?hd (cs := #[.string (⟨#[]⟩ : ByteArray), .slice none 0 0]) (t := 60) ?hr ?_; (case hd => rfl); (case hg => rfl); (case hr => first | (go_simp; done) | (go_simp; rfl)); intro gb207 hg w38 hbox hb; have n0_ := zA1.mk (Kd.zBg (by (with_reducible repeat (first | apply Kd.zAf | apply Kd.zAe | apply Kd.zAh)); exact HO_7.out) hb); have n1_ := zA1.mk (zAq (g := gb205) (o := .cells #[.string ((zAn l0 x21_1).f0), .slice A204_1 ((zAn l0 x21_1).f1).length c204_1] 60 (0, 0)) (by (with_reducible repeat (first | refine zA7 ?_ _ | refine zA8 ?_ | refine zA6 ?_ _)); exact BK205.out) hb); have n2_ := zA1.mk (zAg (by repeat (first | (with_reducible first | exact HB.out | apply zA2 | apply zA0 | apply zA3 | refine zA5 ?_ GE205.out) | exact HB.out)) hb); have n3_ := zA1.mk (hbox); have n4_ := zA1.mk ((by rw [hg]; exact (zAb (by repeat (first | (with_reducible first | exact HB.out | apply zA2 | apply zA0 | apply zA3 | refine zA5 ?_ GE205.out) | exact HB.out))) : w.heap.size ≤ gb207)); have n5_ := zA1.mk ((by rw [hg]; exact (zAb (by repeat (first | (with_reducible first | exact HB.out | apply zA2 | apply zA0 | apply zA3 | refine zA5 ?_ GE205.out) | exact HB.out))) : w.heap.size ≤ gb207)); have n6_ := zA1.mk ((by rw [hg]; exact Nat.ne_of_lt (zC7 (g := gb205) (o := .cells #[.string ((zAn l0 x21_1).f0), .slice A204_1 ((zAn l0 x21_1).f1).length c204_1] 60 (0, 0)) (by (with_reducible repeat (first | refine zA7 ?_ _ | refine zA8 ?_ | refine zA6 ?_ _)); exact BK205.out)) : gb205 ≠ gb207)); have n7_ := zA1.mk ((by rw [hg]; exact Nat.ne_of_gt (zC7 (g := gb205) (o := .cells #[.string ((zAn l0 x21_1).f0), .slice A204_1 ((zAn l0 x21_1).f1).length c204_1] 60 (0, 0)) (by (with_reducible repeat (first | refine zA7 ?_ _ | refine zA8 ?_ | refine zA6 ?_ _)); exact BK205.out)) : gb207 ≠ gb205)); clear HO_7; clear BK205; clear HB; have HO_7 := n0_; have BK205 := n1_; have HB := n2_; have BK207 := n3_; have GW207 := n4_; have GE207 := n5_; have NB205_207 := n6_; have NB207_205 := n7_; clear n0_ n1_ n2_ n3_ n4_ n5_ n6_ n7_; clear hb hbox hg; have hnb39 := NB207_205.out; have hnc39 := NB205_207.out; have hcz40_0 : w38.cell? ⟨gb207, 0, none⟩ = some (.string (⟨#[]⟩ : ByteArray)) := (zA9 BK207.out 0).trans rfl; have hcz40_1 : w38.cell? ⟨gb207, 1, none⟩ = some (.slice none 0 0) := (zA9 BK207.out 1).trans rfl; have hfz40_0 := zAd BK207.out 0; have hfz40_1 := zAd BK207.out 1))
         have n0_ : zA1 (Kd.R (Kd.int .i64) 3 ((w38.setCell ⟨gb207, 0, none⟩ (.string ((zAn l0 x27_2).f0))).setCell ⟨gb207, 1, none⟩ (.slice A206_1 ((zAn l0 x27_2).f1).length c206_1)) w.heap.size (fun _ => True) u7 x7_1) := ⟨by (with_reducible repeat (first | apply Kd.zAf | apply Kd.zAe | apply Kd.zAh)); exact Kd.zC0 (Kd.R_far (p := ⟨gb207, 1, none⟩) (Kd.R_far (p := ⟨gb207, 0, none⟩) (Kd.R_types HO_7.out BK207.out (by decide)) (fun _ hk => hk.2) (.string ((zAn l0 x27_2).f0))) (fun _ hk => hk.2) (.slice A206_1 ((zAn l0 x27_2).f1).length c206_1)) (fun _ hk => trivial)⟩
         have n1_ : zA1 (((w38.setCell ⟨gb207, 0, none⟩ (.string ((zAn l0 x27_2).f0))).setCell ⟨gb207, 1, none⟩ (.slice A206_1 ((zAn l0 x27_2).f1).length c206_1)).heap[gb205]? = some (.cells #[.string ((zAn l0 x21_1).f0), .slice A204_1 ((zAn l0 x21_1).f1).length c204_1] 60 (0, 0))) := ⟨by (with_reducible repeat (first | refine zA7 ?_ _ | refine zA8 ?_ | refine zA6 ?_ _)); refine blk_far ?_ NB205_207.out _; (with_reducible repeat (first | refine zA7 ?_ _ | refine zA8 ?_ | refine zA6 ?_ _)); refine blk_far ?_ NB205_207.out _; (with_reducible repeat (first | refine zA7 ?_ _ | refine zA8 ?_ | refine zA6 ?_ _)); exact BK205.out⟩
         have n2_ : zA1 (((w38.setCell ⟨gb207, 0, none⟩ (.string ((zAn l0 x27_2).f0))).setCell ⟨gb207, 1, none⟩ (.slice A206_1 ((zAn l0 x27_2).f1).length c206_1)).heap[gb207]? = some (.cells #[.string ((zAn l0 x27_2).f0), .slice A206_1 ((zAn l0 x27_2).f1).length c206_1] 60 (0, 0))) := ⟨by (with_reducible repeat (first | refine zA7 ?_ _ | refine zA8 ?_ | refine zA6 ?_ _)); refine blk_put (cs := #[.string ((zAn l0 x27_2).f0), .slice none 0 0]) ?_ 1 _ rfl; (with_reducible repeat (first | refine zA7 ?_ _ | refine zA8 ?_ | refine zA6 ?_ _)); refine blk_put (cs := #[.string (⟨#[]⟩ : ByteArray), .slice none 0 0]) ?_ 0 _ rfl; (with_reducible repeat (first | refine zA7 ?_ _ | refine zA8 ?_ | refine zA6 ?_ _)); exact BK207.out⟩
         have n3_ : zA1 (Below w.heap.size w ((w38.setCell ⟨gb207, 0, none⟩ (.string ((zAn l0 x27_2).f0))).setCell ⟨gb207, 1, none⟩ (.slice A206_1 ((zAn l0 x27_2).f1).length c206_1))) := ⟨by repeat (first | (with_reducible first | exact HB.out | apply zA2 | apply zA0 | apply zA3 | refine zA5 ?_ GE205.out | refine zA5 ?_ GE207.out) | exact HB.out)⟩
         (try clear HO_7)
         (try clear BK205)
         (try clear BK207)
         (try clear HB)
         generalize ((w38.setCell ⟨gb207, 0, none⟩ (.string ((zAn l0 x27_2).f0))).setCell ⟨gb207, 1, none⟩ (.slice A206_1 ((zAn l0 x27_2).f1).length c206_1)) = w41 at n0_ n1_ n2_ n3_ ⊢
         have HO_7 := n0_
         have BK205 := n1_
         have BK207 := n2_
         have HB := n3_
         clear n0_ n1_ n2_ n3_
         have n0_ := zA1.mk (Kd.zAh HO_7.out)
         have n1_ := zA1.mk (zA8 BK205.out)
         have n2_ := zA1.mk (zA8 BK207.out)
         have n3_ := zA1.mk (zA3 HB.out)
         clear HO_7
         clear BK205
         clear BK207
         clear HB
         have HO_7 := n0_
         have BK205 := n1_
         have BK207 := n2_
         have HB := n3_
         clear n0_ n1_ n2_ n3_
         refine start_ (n := 19) (S := fun w' => w'.cell? ⟨gb205, 0, none⟩ = some (.string ((zAn l0 x21_1).f0)) ∧ w'.cell? ⟨gb205, 1, none⟩ = some (.slice A204_1 ((zAn l0 x21_1).f1).length c204_1) ∧ w'.cell? ⟨gb207, 0, none⟩ = some (.string ((zAn l0 x27_2).f0)) ∧ w'.cell? ⟨gb207, 1, none⟩ = some (.slice A206_1 ((zAn l0 x27_2).f1).length c206_1)) (ds := []) #[false, false, false, false, false, false, false, false, false, false, false, false, false, false, false, false, false, false, false] (by kernel_rfl) rfl rfl ⟨(zA9 BK205.out 0).trans rfl, (zA9 BK205.out 1).trans rfl, (zA9 BK207.out 0).trans rfl, (zA9 BK207.out 1).trans rfl⟩ (fun hHeld => ?_); refine with_tabW zAm.tab12 zAm.bits12 (fun HT_ HW_ => ?_)
         generalize w41.drew = w42 at HO_7 BK205 BK207 HB hHeld ⊢
         refine take_ (i := 0) (N := some 32) (v := ?_) (a' := ?_) #[true, false, false, false, false, false, false, false, false, false, false, false, false, false, false, false, false, false, false] rfl rfl (zC1 HT_.out HW_.out (by kernel_rfl)) (fun _ _ _ h => h) (Or.inl ⟨by rfl, ?_⟩) hHeld ?_ ?_
         rotate_left
         ·rintro w' ⟨s0, s1, s2, s3⟩
          go_simp
          with_reducible rfl
         rotate_left
         ·simp only [Act.put, List.setIfInBounds_toArray, List.set_cons_zero, List.set_cons_succ, i64_w, i32_w]
          rfl
         refine take_ (i := 1) (N := some 33) (v := ?_) (a' := ?_) #[true, true, false, false, false, false, false, false, false, false, false, false, false, false, false, false, false, false, false] rfl rfl (zC1 HT_.out HW_.out (by kernel_rfl)) (fun _ _ _ h => h) (Or.inl ⟨by rfl, ?_⟩) hHeld ?_ ?_
         rotate_left
         ·rintro w' ⟨s0, s1, s2, s3⟩
          go_simp
          with_reducible rfl
         rotate_left
         ·simp only [Act.put, List.setIfInBounds_toArray, List.set_cons_zero, List.set_cons_succ, i64_w, i32_w]
          rfl
         refine one_ (i := 2) (N := some 34) #[true, true, true, false, false, false, false, false, false, false, false, false, false, false, false, false, false, false, false] rfl rfl (one_of HT_.out (by kernel_rfl)) (by decide) (fun K hK => ?_)
         refine goes_ Tryz.func48 (by kernel_rfl) rfl #[.agg #[.string ((zAn l0 x21_1).f0), .slice A204_1 ((zAn l0 x21_1).f1).length c204_1], .agg #[.string ((zAn l0 x27_2).f0), .slice A206_1 ((zAn l0 x27_2).f1).length c206_1]] (by rfl) rfl rfl (by (try simp only [List.map_toArray, List.map_cons, List.map_nil]); first | done | rfl | (simp only [List.length_drop, List.length_take]; rfl)) ?_
         with_reducible refine (zCc.calls k2 ((zAn l0 x21_1).f0) _ _ ((zAn l0 x21_1).f1) ((zAn l0 x27_2).f0) _ _ ((zAn l0 x27_2).f1) false _ ?side1 ?side2 ?side3 ?side4 A14.out).mono ?_
         (case side1 => repeat (first | exact (Kd.zAx HR204_1.out HB.out) | (with_reducible refine Kd.zAj ?_ _) | (with_reducible refine Kd.zAr ?_ _) | (with_reducible refine Kd.zB9 ?_)))
         (case side2 => exact HC204_1.out)
         (case side3 => repeat (first | exact (Kd.zAx HR206_1.out HB.out) | (with_reducible refine Kd.zAj ?_ _) | (with_reducible refine Kd.zAr ?_ _) | (with_reducible refine Kd.zB9 ?_)))
         (case side4 => exact HC206_1.out)
         rintro e w43 ⟨rfl, hb⟩
         refine ⟨_, rfl, ?_⟩
         have n0_ := zA1.mk (Kd.zBg (by (with_reducible repeat (first | apply Kd.zAf | apply Kd.zAe | apply Kd.zAh)); exact HO_7.out) hb)
         have n1_ := zA1.mk (zAq (g := gb205) (o := .cells #[.string ((zAn l0 x21_1).f0), .slice A204_1 ((zAn l0 x21_1).f1).length c204_1] 60 (0, 0)) (by (with_reducible repeat (first | refine zA7 ?_ _ | refine zA8 ?_ | refine zA6 ?_ _)); exact BK205.out) hb)
         have n2_ := zA1.mk (zAq (g := gb207) (o := .cells #[.string ((zAn l0 x27_2).f0), .slice A206_1 ((zAn l0 x27_2).f1).length c206_1] 60 (0, 0)) (by (with_reducible repeat (first | refine zA7 ?_ _ | refine zA8 ?_ | refine zA6 ?_ _)); exact BK207.out) hb)
         have n3_ := zA1.mk (zAg (by repeat (first | (with_reducible first | exact HB.out | apply zA2 | apply zA0 | apply zA3 | refine zA5 ?_ GE205.out | refine zA5 ?_ GE207.out) | exact HB.out)) hb)
         clear HO_7
         clear BK205
         clear BK207
         clear HB
         have HO_7 := n0_
         have BK205 := n1_
         have BK207 := n2_
         have HB := n3_
         clear n0_ n1_ n2_ n3_
         (try clear hb)
         (try clear hb2)
         (try clear hk)
         (try clear hi)
         refine hK.out _ _ ⟨(zA9 BK205.out 0).trans rfl, (zA9 BK205.out 1).trans rfl, (zA9 BK207.out 0).trans rfl, (zA9 BK207.out 1).trans rfl⟩ (fun hHeld => ?_)
         clear hK K
         refine norm_ (a' := ?_) ?_ ?_
         rotate_left
         ·show Act.put _ (some 34) _ = _
          simp only [Act.put, List.setIfInBounds_toArray, List.set_cons_zero, List.set_cons_succ, i64_w, i32_w]
          rfl
         refine pure_ (i := 3) (N := some 35) (v := ?_) (a' := ?_) #[true, true, true, true, false, false, false, false, false, false, false, false, false, false, false, false, false, false, false] rfl rfl (zBf HT_.out (by kernel_rfl)) (fun _ _ _ h => h) (Or.inl ⟨by rfl, ?_⟩) ?_ ?_
         rotate_left
         ·intro w'
          go_simp
          with_reducible rfl
         rotate_left
         ·simp only [Act.put, List.setIfInBounds_toArray, List.set_cons_zero, List.set_cons_succ, i64_w, i32_w]
          rfl
         refine pure_ (i := 4) (N := some 36) (v := undef) (a' := ?_) #[true, true, true, true, true, false, false, false, false, false, false, false, false, false, false, false, false, false, false] rfl rfl (zBf HT_.out (by kernel_rfl)) (fun _ _ _ h => h) (Or.inr ⟨by rfl, rfl⟩) ?_ ?_
         rotate_left
         ·simp only [Act.put, List.setIfInBounds_toArray, List.set_cons_zero, List.set_cons_succ, i64_w, i32_w]
          rfl
         refine pure_ (i := 5) (N := some 37) (v := undef) (a' := ?_) #[true, true, true, true, true, true, false, false, false, false, false, false, false, false, false, false, false, false, false] rfl rfl (zBf HT_.out (by kernel_rfl)) (fun _ _ _ h => h) (Or.inr ⟨by rfl, rfl⟩) ?_ ?_
         rotate_left
         ·simp only [Act.put, List.setIfInBounds_toArray, List.set_cons_zero, List.set_cons_succ, i64_w, i32_w]
          rfl
         refine pure_ (i := 6) (N := some 38) (v := undef) (a' := ?_) #[true, true, true, true, true, true, true, false, false, false, false, false, false, false, false, false, false, false, false] rfl rfl (zBf HT_.out (by kernel_rfl)) (fun _ _ _ h => h) (Or.inr ⟨by rfl, rfl⟩) ?_ ?_
         rotate_left
         ·simp only [Act.put, List.setIfInBounds_toArray, List.set_cons_zero, List.set_cons_succ, i64_w, i32_w]
          rfl
         refine pure_ (i := 7) (N := some 39) (v := undef) (a' := ?_) #[true, true, true, true, true, true, true, true, false, false, false, false, false, false, false, false, false, false, false] rfl rfl (zBf HT_.out (by kernel_rfl)) (fun _ _ _ h => h) (Or.inr ⟨by rfl, rfl⟩) ?_ ?_
         rotate_left
         ·simp only [Act.put, List.setIfInBounds_toArray, List.set_cons_zero, List.set_cons_succ, i64_w, i32_w]
          rfl
         refine pure_ (i := 8) (N := some 40) (v := undef) (a' := ?_) #[true, true, true, true, true, true, true, true, true, false, false, false, false, false, false, false, false, false, false] rfl rfl (zBf HT_.out (by kernel_rfl)) (fun _ _ _ h => h) (Or.inr ⟨by rfl, rfl⟩) ?_ ?_
         rotate_left
         ·simp only [Act.put, List.setIfInBounds_toArray, List.set_cons_zero, List.set_cons_succ, i64_w, i32_w]
          rfl
         refine pure_ (i := 9) (N := some 41) (v := undef) (a' := ?_) #[true, true, true, true, true, true, true, true, true, true, false, false, false, false, false, false, false, false, false] rfl rfl (zBf HT_.out (by kernel_rfl)) (fun _ _ _ h => h) (Or.inr ⟨by rfl, rfl⟩) ?_ ?_
         rotate_left
         ·simp only [Act.put, List.setIfInBounds_toArray, List.set_cons_zero, List.set_cons_succ, i64_w, i32_w]
          rfl
         refine pure_ (i := 10) (N := some 42) (v := undef) (a' := ?_) #[true, true, true, true, true, true, true, true, true, true, true, false, false, false, false, false, false, false, false] rfl rfl (zBf HT_.out (by kernel_rfl)) (fun _ _ _ h => h) (Or.inr ⟨by rfl, rfl⟩) ?_ ?_
         rotate_left
         ·simp only [Act.put, List.setIfInBounds_toArray, List.set_cons_zero, List.set_cons_succ, i64_w, i32_w]
          rfl
         refine pure_ (i := 11) (N := some 43) (v := undef) (a' := ?_) #[true, true, true, true, true, true, true, true, true, true, true, true, false, false, false, false, false, false, false] rfl rfl (zBf HT_.out (by kernel_rfl)) (fun _ _ _ h => h) (Or.inr ⟨by rfl, rfl⟩) ?_ ?_
         rotate_left
         ·simp only [Act.put, List.setIfInBounds_toArray, List.set_cons_zero, List.set_cons_succ, i64_w, i32_w]
          rfl
         refine pure_ (i := 12) (N := some 44) (v := undef) (a' := ?_) #[true, true, true, true, true, true, true, true, true, true, true, true, true, false, false, false, false, false, false] rfl rfl (zBf HT_.out (by kernel_rfl)) (fun _ _ _ h => h) (Or.inr ⟨by rfl, rfl⟩) ?_ ?_
         rotate_left
         ·simp only [Act.put, List.setIfInBounds_toArray, List.set_cons_zero, List.set_cons_succ, i64_w, i32_w]
          rfl
         refine pure_ (i := 13) (N := some 45) (v := undef) (a' := ?_) #[true, true, true, true, true, true, true, true, true, true, true, true, true, true, false, false, false, false, false] rfl rfl (zBf HT_.out (by kernel_rfl)) (fun _ _ _ h => h) (Or.inr ⟨by rfl, rfl⟩) ?_ ?_
         rotate_left
         ·simp only [Act.put, List.setIfInBounds_toArray, List.set_cons_zero, List.set_cons_succ, i64_w, i32_w]
          rfl
         refine pure_ (i := 14) (N := some 46) (v := undef) (a' := ?_) #[true, true, true, true, true, true, true, true, true, true, true, true, true, true, true, false, false, false, false] rfl rfl (zBf HT_.out (by kernel_rfl)) (fun _ _ _ h => h) (Or.inr ⟨by rfl, rfl⟩) ?_ ?_
         rotate_left
         ·simp only [Act.put, List.setIfInBounds_toArray, List.set_cons_zero, List.set_cons_succ, i64_w, i32_w]
          rfl
         refine pure_ (i := 15) (N := some 47) (v := undef) (a' := ?_) #[true, true, true, true, true, true, true, true, true, true, true, true, true, true, true, true, false, false, false] rfl rfl (zBf HT_.out (by kernel_rfl)) (fun _ _ _ h => h) (Or.inr ⟨by rfl, rfl⟩) ?_ ?_
         rotate_left
         ·simp only [Act.put, List.setIfInBounds_toArray, List.set_cons_zero, List.set_cons_succ, i64_w, i32_w]
          rfl
         refine pure_ (i := 16) (N := some 48) (v := undef) (a' := ?_) #[true, true, true, true, true, true, true, true, true, true, true, true, true, true, true, true, true, false, false] rfl rfl (zBf HT_.out (by kernel_rfl)) (fun _ _ _ h => h) (Or.inr ⟨by rfl, rfl⟩) ?_ ?_
         rotate_left
         ·simp only [Act.put, List.setIfInBounds_toArray, List.set_cons_zero, List.set_cons_succ, i64_w, i32_w]
          rfl
         refine pure_ (i := 17) (N := some 49) (v := undef) (a' := ?_) #[true, true, true, true, true, true, true, true, true, true, true, true, true, true, true, true, true, true, false] rfl rfl (zBf HT_.out (by kernel_rfl)) (fun _ _ _ h => h) (Or.inr ⟨by rfl, rfl⟩) ?_ ?_
         rotate_left
         ·simp only [Act.put, List.setIfInBounds_toArray, List.set_cons_zero, List.set_cons_succ, i64_w, i32_w]
          rfl
         refine pure_ (i := 18) (N := some 50) (v := ?_) (a' := ?_) #[true, true, true, true, true, true, true, true, true, true, true, true, true, true, true, true, true, true, true] rfl rfl (zBf HT_.out (by kernel_rfl)) (fun _ _ _ h => h) (Or.inl ⟨by rfl, ?_⟩) ?_ ?_
         rotate_left
         ·intro w'
          go_simp
          with_reducible rfl
         rotate_left
         ·simp only [Act.put, List.setIfInBounds_toArray, List.set_cons_zero, List.set_cons_succ, i64_w, i32_w]
          rfl
         refine done_ (done_of HT_.out (by kernel_rfl)) ?_
         try go_wp2
         go_roundg k2
         case measure => have := HK1.out; have := HK2.out; omega
         case rel => exact ⟨(x10_2), (wrap64 (x27_2 + 1)), (by first | rfl | (simp; done) | (simp [*]; done)), (by first | rfl | (simp; done) | (simp [*]; done)), H', ⟨by have := HK1.out; have := HK2.out; omega⟩, ⟨by (with_reducible repeat (first | apply Kd.zAf | apply Kd.zAe | apply Kd.zAh)); exact HO_7.out⟩, ⟨by (with_reducible repeat (first | refine zA7 ?_ _ | refine zA8 ?_ | refine zA6 ?_ _)); exact BK205.out⟩, ⟨by repeat (first | (with_reducible first | exact HB.out | apply zA2 | apply zA0 | apply zA3 | refine zA5 ?_ GE205.out | refine zA5 ?_ GE207.out) | exact HB.out)⟩⟩
       ·rw [if_neg c11] at H
        have c11b0 : decide (x27_2 < (l0.length : Int)) = false := decide_eq_false c11
        clear c11
        by_cases c44 : x7_1.length < 17592186044416
        rotate_left
        ·rw [if_neg c44] at H
         exact absurd H (by simp)
        rw [if_pos c44] at H
        have LMc44 := zA1.mk c44
        clear c44
        obtain ⟨y210, hy210⟩ : ∃ y_ : List Int, y_ = (x7_1 ++ [x10_2]) := ⟨_, rfl⟩
        replace H : (zAm.l0 k2 l0 y210 l0 (l0.length : Int) (wrap64 (x21_1 + 1))) = some (r1, r2) := by first | (rw [hy210]; with_reducible exact H) | (have H2_ := (Option.bind_some _ _).symm.trans H; rw [hy210]; with_reducible exact H2_) | (have H2_ := (Option.bind_some _ _).symm.trans H; with_reducible exact H2_) | with_reducible exact H | (rw [hy210]; exact H) | exact H
        have Ny210 := zA1.mk hy210
        clear hy210
        have H' := zA1.mk H
        clear H
        go_wp2_with (first | ((with_reducible refine zCf (b := .append) (xs := #[.tmp 53, .tmp 55]) rfl ?_); (try (refine gate_guard (by rfl) ?_; dsimp only)); at_builtin; refine Kd.R_append (Kd.int .i64) (w0 := w) w.heap.size rfl (.tmp 53) (.tmp 55) 23 3 (.int .i64 0) 8 rfl Tryz.underlying23 info3 rfl (by decide) (by omega) u7 x7_1 x10_2 [.int .i64 x10_2] (fun _ => True) (fun _ => False) rfl rfl ?aP (fun _ hk => hk.elim) ?aF ?aO ?aB ?aS ?aL ?_; (case aP => exact rfl); (case aB => exact (by repeat (first | (with_reducible first | exact HB.out | apply zA2 | apply zA0 | apply zA3 | refine zA5 ?_ GE205.out) | exact HB.out))); (case aF => exact (fun _ _ => trivial)); (case aO => exact (by (with_reducible repeat (first | apply Kd.zAf | apply Kd.zAe | apply Kd.zAh)); exact HO_7.out)); (case aS => exact (zAb (by repeat (first | (with_reducible first | exact HB.out | apply zA2 | apply zA0 | apply zA3 | refine zA5 ?_ GE205.out) | exact HB.out)))); (case aL => have := LMc44.out; omega); intro v211 w45 ho hb hg hat; rw [← Ny210.out] at ho; have n0_ := zA1.mk (blk_grown (g := gb205) (o := .cells #[.string ((zAn l0 x21_1).f0), .slice A204_1 ((zAn l0 x21_1).f1).length c204_1] 60 (0, 0)) (by (with_reducible repeat (first | refine zA7 ?_ _ | refine zA8 ?_ | refine zA6 ?_ _)); exact BK205.out) hg (Kd.R_ne HO_7.out BK205.out (by decide))); have n1_ := zA1.mk (hb); have n2_ := zA1.mk (ho); clear BK205; clear HB; clear HO_7; have BK205 := n0_; have HB := n1_; have HO212 := n2_; clear n0_ n1_ n2_; clear ho hb hg hat))
        go_roundg k2
        case measure => have := HK1.out; have := HK2.out; omega
        case rel => exact ⟨(y210), (wrap64 (x21_1 + 1)), (by first | rfl | (simp; done) | (simp [*]; done)), H', ⟨by have := HK1.out; have := HK2.out; omega⟩, ⟨by (with_reducible repeat (first | apply Kd.zAf | apply Kd.zAe | apply Kd.zAh)); exact HO212.out⟩, ⟨by repeat (first | (with_reducible first | exact HB.out | apply zA2 | apply zA0 | apply zA3 | refine zA5 ?_ GE205.out) | exact HB.out)⟩⟩
    ·rw [if_neg c6] at H
     have c6b0 : decide (x21_1 < (l0.length : Int)) = false := decide_eq_false c6
     clear c6
     simp only [Option.some.injEq, Prod.mk.injEq] at H
     obtain ⟨rfl, rfl⟩ := H
     go_wp2
     go_ret2
     exact ⟨_, by first | rfl | (simp [zAp, zAo] <;> rfl) | (simp [*, zAp, zAo] <;> rfl), by (with_reducible repeat (first | apply Kd.zAf | apply Kd.zAe | apply Kd.zAh)); exact HO_7.out, by repeat (first | (with_reducible first | exact HB.out | apply zA2 | apply zA0 | apply zA3) | exact HB.out)⟩
 ·rw [if_neg c4] at H
  have c4b0 : (t203 == 0) = false := beq_eq_false_iff_ne.mpr c4
  have c4b1 : (t203 != 0) = true := bne_iff_ne.mpr c4
  simp only [Option.some.injEq, Prod.mk.injEq] at H
  obtain ⟨rfl, rfl⟩ := H
  go_enter Tryz.func25, Tryz.ntmps25
  go_wp2_with (first | ((with_reducible refine zAy (f := 47) rfl ?_); refine zBz (some 15) rfl rfl Tryz.func47 (by kernel_rfl) rfl #[.slice A0 l0.length c0, .int .i64 a1] rfl (by (try simp only [List.map_toArray, List.map_cons, List.map_nil]); first | done | rfl | (simp only [List.length_drop, List.length_take]; rfl)) ?_; (with_reducible refine (liaison_CheckGroups.calls _ _ l0 a1 t203 _ ?side1 ?side2 A3.out).mono ?_); (case side1 => repeat (first | exact HR0.out | (with_reducible refine Kd.zAj ?_ _) | (with_reducible refine Kd.zAr ?_ _) | (with_reducible refine Kd.zB9 ?_))); (case side2 => exact HC0.out); rintro e w46 ⟨rfl, hb⟩; refine ⟨_, rfl, ?_⟩; have n0_ := zA1.mk (zAg (by repeat (first | (with_reducible first | exact HB.out | apply zA2 | apply zA0 | apply zA3) | exact HB.out)) hb); clear HB; have HB := n0_; clear n0_; (try clear hb); (try clear hb2); (try clear hk); (try clear hi)))
  go_ret2
  exact ⟨_, by first | rfl | (simp [zAp, zAo] <;> rfl) | (simp [*, zAp, zAo] <;> rfl), by first | exact Kd.R_nil _ _ _ _ _ | exact Kd.N_nil _ _ _ _ _ | exact Kd.V_nil _ _ _ _ _ | exact Kd.Q_nil _ _ _ _ _ | exact Kd.S_nil _ _ _ _ _, by repeat (first | (with_reducible first | exact HB.out | apply zA2 | apply zA0 | apply zA3) | exact HB.out)⟩
end
end Go.Proofs.YtbghfbhlbfcloaaGreatDoor.PL
