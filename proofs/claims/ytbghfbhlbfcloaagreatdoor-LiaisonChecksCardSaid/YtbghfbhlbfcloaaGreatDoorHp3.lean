/- Put together by this session's program pack.py. -/
import Derived.Below
import Derived.Deep.Draws
import Derived.Deep.AppendLies
import Derived.Maps.AppendAt
import Derived.OwnWalk
import Derived.Laws.BytesArg
import Derived.Laws.MakeOwn
import Derived.Laws.OwnMore
import Derived.Deep.OwnRows
import Derived.Tactics
import Derived.Lib.ConvBytes
import Derived.Laws.Slices
import Derived.WalkKit
import Derived.KernelRfl
import Derived.RowKit3
import Derived.Deep.LoopGhost
import Derived.Deep.QuietTactic
import Derived.BigQuiet
import Derived.WideLaws
import Derived.Deep.DeepCutAuto
import Derived.Deep.CutBlock
import Derived.Deep.RegionHeld3
import Derived.Laws.Rows
import Derived.Lib.AppendStr
import Derived.ArgAppend
import Derived.Laws.IdiomCopy
import Derived.OrdersHeld
import Derived.Laws.BitsLemmas
import Derived.RowKit
import Derived.Sort.Grow
import Derived.Shelf.SlSortCmp.InsertionK
import Derived.Shelf.SlGeneric
import Derived.Shelf.SlSortCmp.NoneTotal
import Derived.Ground.SlsfProg
import Derived.WalkSpells
import Derived.RangeFuncNested
import Derived.RangeFuncBound
import Derived.RangeFuncCalls
import Derived.RangeFuncLeaves
import Derived.Shelf.Abstract
import Derived.Shelf.RegionOpen
import Derived.OwnWalkIn
import Derived.TacticsInMore
import Derived.LoopNIn
import Derived.LoopIn
import Derived.OrdersIn
import Derived.RangeFuncKeeps
import Derived.RangeFuncWrites
import Derived.Shelf.SlicesQ.IndexFunc
import Derived.Shelf.GgClosure.StringsIndexFuncTop
import Derived.Ground.SlgfProg
import Derived.Ground.GgwProg
import Derived.Test.YtbghfbhlbfcloaaGreatDoorHw0
import Derived.Test.YtbghfbhlbfcloaaGreatDoorHp0
import Derived.Test.YtbghfbhlbfcloaaGreatDoorHp1
import Derived.Test.YtbghfbhlbfcloaaGreatDoorHp2
namespace Go.Proofs.YtbghfbhlbfcloaaGreatDoor.PL
section
open Go.RowKit Go.Proofs.YtbghfbhlbfcloaaGreatDoorW.PrintWords Go.Proofs.YtbghfbhlbfcloaaGreatDoorW.PrintLast Go.Proofs.YtbghfbhlbfcloaaGreatDoorW.PrintMore
attribute [local go_sem] zBu zBs zC3 zC2 zBn zBm zBt zBr   -- for this text's walks alone
set_option linter.unusedVariables false
set_option linter.unusedSimpArgs false
def zBb.l0 : Nat → List Int → Int → List (List Int) → Option ((List (List Int)) × Int)
 | 0, _, _, _ => none
 | k + 1, x6, x7, x9 => if x7 = 0 then (some (x9, 0)) else ((zAf.f k x6 x7).bind fun t170 => ((zAz.f k t170).bind fun t171 => (if x9.length < 5864062014805 then (zBb.l0 k x6 (Go.bits .andNot .u64 x7 t170) (x9 ++ [t171])) else (none))))
def zBb.f (k : Nat) (a0_0 : Int) (l0_1 : List (S58)) (l1 : List Int) : Option ((List (List Int)) × Int) := (zB3.f k a0_0 l0_1 l1).bind fun bt165 => (if bt165.2.2 = 0 then (zBb.l0 k bt165.1 bt165.2.1 ([] : List (List Int))) else (some (([] : List (List Int)), bt165.2.2)))
theorem zBb.zBv : ∀ k, (∀ y0 y1 y2, LeO (zBb.l0 k y0 y1 y2) (zBb.l0 (k + 1) y0 y1 y2))
 | 0 => fun _ _ _ r h => by simp [zBb.l0] at h
 | k + 1 => by
  have ih0 := zBb.zBv k
  ·intro y0 y1 y2
   unfold zBb.l0
   repeat' first
   | (with_reducible exact ih0 _ _ _)
   | (with_reducible exact zAf.mono _ _ _)
   | (with_reducible exact zAz.mono _ _)
   | (with_reducible exact zB3.mono _ _ _ _)
   | (with_reducible exact LeO.refl _)
   | (with_reducible exact LeO.none _)
   | (with_reducible refine LeO.ite ?_ ?_)
   | (with_reducible refine LeO.bind ?_ (fun _ => ?_))
theorem zBb.mono : ∀ a0 a1 a2 k, LeO (zBb.f k a0 a1 a2) (zBb.f (k + 1) a0 a1 a2) := by
 intro a0 a1 a2 k
 have ih0 := zBb.zBv k
 unfold zBb.f
 repeat' first
   | (with_reducible exact ih0 _ _ _)
   | (with_reducible exact zAf.mono _ _ _)
   | (with_reducible exact zAz.mono _ _)
   | (with_reducible exact zB3.mono _ _ _ _)
   | (with_reducible exact LeO.refl _)
   | (with_reducible exact LeO.none _)
   | (with_reducible refine LeO.ite ?_ ?_)
   | (with_reducible refine LeO.bind ?_ (fun _ => ?_))
set_option maxHeartbeats 8000000 in
set_option maxRecDepth 100000 in
theorem zBb.calls (k : Nat) (a0_0 : Int) (A0_1 : Option Addr) (c0_1 : Nat) (l0_1 : List (S58)) (A1 : Option Addr) (c1 : Nat) (l1 : List Int) (r1 : List (List Int)) (r2 : Int) (w : World) (hr0_1 : Kd.C k58 w A0_1 l0_1.length l0_1) (hc0_1 : l0_1.length ≤ c0_1) (hr1 : Kd.C (Kd.int .i64) w A1 l1.length l1) (hc1 : l1.length ≤ c1) (hG : Kd.C (Kd.int .u8) w (some tabA) tabL.length tabL) (h : zBb.f k a0_0 l0_1 l1 = some (r1, r2)) :
  Calls Tryz.prog 13 #[.agg #[.int .i64 a0_0, .slice A0_1 l0_1.length c0_1], .slice A1 l1.length c1] w fun e w' => ∃ v0_ : Value, e = .returned (.tuple #[v0_, .int .i64 r2]) ∧ Kd.S (Kd.slice 3 (Kd.int .i64)) 23 w' w.heap.size (fun _ => True) v0_ r1 ∧ Below w.heap.size w w' := by
 have hu28 := Tryz.underlying28
 have HR0_1 := zA2.mk hr0_1
 have HC0_1 := zA2.mk hc0_1
 clear hr0_1 hc0_1
 have HR1 := zA2.mk hr1
 have HC1 := zA2.mk hc1
 clear hr1 hc1
 have HB := zA2.mk (Below.refl w.heap.size w)
 have HG := zA2.mk hG
 clear hG
 have H : ((zB3.f k a0_0 l0_1 l1).bind fun bt165 => (if bt165.2.2 = 0 then (zBb.l0 k bt165.1 bt165.2.1 ([] : List (List Int))) else (some (([] : List (List Int)), bt165.2.2)))) = some (r1, r2) := h
 clear h
 replace H := Option.bind_eq_some_iff.mp H
 obtain ⟨⟨t165, t168, t169⟩, A30, H⟩ := H
 replace H : (if t169 = 0 then (zBb.l0 k t165 t168 ([] : List (List Int))) else (some (([] : List (List Int)), t169))) = some (r1, r2) := H
 have A3 := zA2.mk A30
 clear A30
 by_cases c4 : t169 = 0
 ·rw [if_pos c4] at H
  have c4b0 : (t169 == 0) = true := beq_iff_eq.mpr c4
  have c4b1 : (t169 != 0) = false := bne_eq_false_iff_eq.mpr c4
  clear c4
  have H' := zA2.mk H
  clear H
  go_enter Tryz.func13, Tryz.ntmps13
  go_wp2_with (first | ((with_reducible refine zBl (N := 2) rfl ?_); refine zBj ?hg (N := 2) ?hd (cs := #[.int .i64 a0_0, .slice A0_1 l0_1.length c0_1]) (t := 28) ?hr ?_; (case hd => rfl); (case hg => rfl); (case hr => first | (go_simp; done) | (go_simp; rfl)); intro gb164 hg w5 hbox hb; have n0_ := zA2.mk (zAe (by repeat (first | (with_reducible first | exact HB.out | apply zA1 | apply zA0 | apply zA3) | exact HB.out)) hb); have n1_ := zA2.mk (hbox); have n2_ := zA2.mk ((by rw [hg]; exact (zAb (by repeat (first | (with_reducible first | exact HB.out | apply zA1 | apply zA0 | apply zA3) | exact HB.out))) : w.heap.size ≤ gb164)); have n3_ := zA2.mk ((by rw [hg]; exact (zAb (by repeat (first | (with_reducible first | exact HB.out | apply zA1 | apply zA0 | apply zA3) | exact HB.out))) : w.heap.size ≤ gb164)); clear HB; have HB := n0_; have BK164 := n1_; have GW164 := n2_; have GE164 := n3_; clear n0_ n1_ n2_ n3_; clear hb hbox hg; have hcz6_0 : w5.cell? ⟨gb164, 0, none⟩ = some (.int .i64 a0_0) := (zA7 BK164.out 0).trans rfl; have hcz6_1 : w5.cell? ⟨gb164, 1, none⟩ = some (.slice A0_1 l0_1.length c0_1) := (zA7 BK164.out 1).trans rfl; have hfz6_0 := zA9 BK164.out 0; have hfz6_1 := zA9 BK164.out 1) | ((with_reducible refine zAp (f := 27) rfl ?_); refine zBq (some 14) rfl rfl Tryz.func27 (by kernel_rfl) rfl #[.agg #[.int .i64 a0_0, .slice A0_1 l0_1.length c0_1], .slice A1 l1.length c1] rfl (by (try simp only [List.map_toArray, List.map_cons, List.map_nil]); first | done | rfl | (simp only [List.length_drop, List.length_take]; rfl)) ?_; (with_reducible refine (zB3.calls k a0_0 _ _ l0_1 _ _ l1 t165 t168 t169 _ ?side1 ?side2 ?side3 ?side4 A3.out).mono ?_); (case side1 => repeat (first | exact (Kd.zAk HR0_1.out HB.out) | (with_reducible refine Kd.zAj ?_ _) | (with_reducible refine Kd.zAs ?_ _) | (with_reducible refine Kd.zB2 ?_))); (case side2 => exact HC0_1.out); (case side3 => repeat (first | exact (Kd.zAk HR1.out HB.out) | (with_reducible refine Kd.zAj ?_ _) | (with_reducible refine Kd.zAs ?_ _) | (with_reducible refine Kd.zB2 ?_))); (case side4 => exact HC1.out); rintro e w7 ⟨v166, rfl, ho0, hb⟩; refine ⟨_, rfl, ?_⟩; have n0_ := zA2.mk (Kd.R_lower ho0 (zAb (by repeat (first | (with_reducible first | exact HB.out | apply zA1 | apply zA0 | apply zA3 | refine zA4 ?_ GE164.out) | exact HB.out)))); have n1_ := zA2.mk (zAl (g := gb164) (o := .cells #[.int .i64 a0_0, .slice A0_1 l0_1.length c0_1] 28 (0, 0)) (by (with_reducible repeat (first | refine zA6 ?_ _ | refine zA8 ?_ | refine zA5 ?_ _)); exact BK164.out) hb); have n2_ := zA2.mk (zAe (by repeat (first | (with_reducible first | exact HB.out | apply zA1 | apply zA0 | apply zA3 | refine zA4 ?_ GE164.out) | exact HB.out)) hb); clear BK164; clear HB; have HO167 := n0_; have BK164 := n1_; have HB := n2_; clear n0_ n1_ n2_; (try clear hb); (try clear hb2); (try clear hk); (try clear hi); (try clear ho0)))
  go_loopg [7, 9] k (fun kq v7 v9 w' => ∃ (x7_1 : Int) (x9_1 : List (List Int)), v7 = .int .u64 x7_1 ∧ zA2 (zBb.l0 kq t165 x7_1 x9_1 = some (r1, r2)) ∧ zA2 (kq ≤ k) ∧ zA2 (Kd.R (Kd.int .u64) 65 w' w.heap.size (fun _ => True) v166 t165) ∧ zA2 (Kd.S (Kd.slice 3 (Kd.int .i64)) 23 w' w.heap.size (fun _ => True) v9 x9_1) ∧ zA2 (w'.heap[gb164]? = some (.cells #[.int .i64 a0_0, (.slice A0_1 l0_1.length c0_1)] 28 (0, 0))) ∧ zA2 (Below w.heap.size w w'))
  case atStart => exact ⟨(t168), (([] : List (List Int))), (by first | rfl | (simp; done) | (simp [*]; done)), H', ⟨Nat.le_refl _⟩, ⟨by (with_reducible repeat (first | apply Kd.zB6 | apply Kd.zB5 | apply Kd.zBf)); exact HO167.out⟩, ⟨by first | exact Kd.S_nil _ _ _ _ _ | exact Kd.N_nil _ _ _ _ _ | exact Kd.V_nil _ _ _ _ _ | exact Kd.Q_nil _ _ _ _ _ | exact Kd.R_nil _ _ _ _ _⟩, ⟨by (with_reducible repeat (first | refine zA6 ?_ _ | refine zA8 ?_ | refine zA5 ?_ _)); exact BK164.out⟩, ⟨by repeat (first | (with_reducible first | exact HB.out | apply zA1 | apply zA0 | apply zA3 | refine zA4 ?_ GE164.out) | exact HB.out)⟩⟩
  case round =>
   clear H'
   try clear c1
   try clear c2
   try clear p2
   try clear c4
   try clear c4b0
   try clear c4b1
   try clear hcz6_0
   try clear hcz6_1
   try clear hfz6_0
   try clear hfz6_1
   obtain ⟨x7_1, x9_1, rfl, HA, HK1, HO_6, HO_9, BK164, HB⟩ := hrel
   cases gk with
   | zero => exact absurd HA.out (by simp [zBb.l0])
   | succ k1 =>
    have H := HA.out
    clear HA
    simp only [zBb.l0] at H
    by_cases c8 : x7_1 = 0
    ·rw [if_pos c8] at H
     have c8b0 : (x7_1 == 0) = true := beq_iff_eq.mpr c8
     have c8b1 : (x7_1 != 0) = false := bne_eq_false_iff_eq.mpr c8
     clear c8
     simp only [Option.some.injEq, Prod.mk.injEq] at H
     obtain ⟨rfl, rfl⟩ := H
     go_wp2
     go_ret2
     exact ⟨_, by first | rfl | (simp [zAr, zAq] <;> rfl) | (simp [*, zAr, zAq] <;> rfl), by (with_reducible repeat (first | apply Kd.S_alloc | apply Kd.S_drewN | apply Kd.S_drew)); exact HO_9.out, by repeat (first | (with_reducible first | exact HB.out | apply zA1 | apply zA0 | apply zA3 | refine zA4 ?_ GE164.out) | exact HB.out)⟩
    ·rw [if_neg c8] at H
     have c8b0 : (x7_1 == 0) = false := beq_eq_false_iff_ne.mpr c8
     have c8b1 : (x7_1 != 0) = true := bne_iff_ne.mpr c8
     replace H := Option.bind_eq_some_iff.mp H
     obtain ⟨t170, A90, H⟩ := H
     replace H : ((zAz.f k1 t170).bind fun t171 => (if x9_1.length < 5864062014805 then (zBb.l0 k1 t165 (Go.bits .andNot .u64 x7_1 t170) (x9_1 ++ [t171])) else (none))) = some (r1, r2) := H
     have A9 := zA2.mk A90
     clear A90
     replace H := Option.bind_eq_some_iff.mp H
     obtain ⟨t171, A100, H⟩ := H
     replace H : (if x9_1.length < 5864062014805 then (zBb.l0 k1 t165 (Go.bits .andNot .u64 x7_1 t170) (x9_1 ++ [t171])) else (none)) = some (r1, r2) := H
     have A10 := zA2.mk A100
     clear A100
     by_cases c11 : x9_1.length < 5864062014805
     rotate_left
     ·rw [if_neg c11] at H
      exact absurd H (by simp)
     rw [if_pos c11] at H
     have LMc11 := zA2.mk c11
     clear c11
     obtain ⟨y174, hy174⟩ : ∃ y_ : List (List Int), y_ = (x9_1 ++ [t171]) := ⟨_, rfl⟩
     replace H : (zBb.l0 k1 t165 (Go.bits .andNot .u64 x7_1 t170) y174) = some (r1, r2) := by first | (rw [hy174]; with_reducible exact H) | (have H2_ := (Option.bind_some _ _).symm.trans H; rw [hy174]; with_reducible exact H2_) | (have H2_ := (Option.bind_some _ _).symm.trans H; with_reducible exact H2_) | with_reducible exact H | (rw [hy174]; exact H) | exact H
     have Ny174 := zA2.mk hy174
     clear hy174
     have H' := zA2.mk H
     clear H
     obtain ⟨Ao12, co12, eo12⟩ := Kd.zCa HO_6.out
     subst eo12
     go_wp2_with (first | ((with_reducible refine zAp (f := 36) rfl ?_); refine zBq (some 25) rfl rfl Tryz.func36 (by kernel_rfl) rfl #[.slice Ao12 t165.length co12, .int .u64 x7_1] rfl (by (try simp only [List.map_toArray, List.map_cons, List.map_nil]); first | done | rfl | (simp only [List.length_drop, List.length_take]; rfl)) ?_; (with_reducible refine (zAf.calls k1 _ _ t165 x7_1 t170 _ ?side1 ?side2 ?side3 A9.out).mono ?_); (case side1 => repeat (first | exact (Kd.zBp HO_6.out).2.2 | (with_reducible refine Kd.zAj ?_ _) | (with_reducible refine Kd.zAs ?_ _) | (with_reducible refine Kd.zB2 ?_))); (case side2 => exact (Kd.zBp HO_6.out).2.1); (case side3 => repeat (first | exact (Kd.zAk HG.out HB.out) | (with_reducible refine Kd.zAj ?_ _) | (with_reducible refine Kd.zAs ?_ _) | (with_reducible refine Kd.zB2 ?_))); rintro e w13 ⟨rfl, hb⟩; refine ⟨_, rfl, ?_⟩; have n0_ := zA2.mk (Kd.R_below (by (with_reducible repeat (first | apply Kd.zB6 | apply Kd.zB5 | apply Kd.zBf)); exact HO_6.out) hb); have n1_ := zA2.mk (Kd.S_below (by (with_reducible repeat (first | apply Kd.S_alloc | apply Kd.S_drewN | apply Kd.S_drew)); exact HO_9.out) hb); have n2_ := zA2.mk (zAl (g := gb164) (o := .cells #[.int .i64 a0_0, .slice A0_1 l0_1.length c0_1] 28 (0, 0)) (by (with_reducible repeat (first | refine zA6 ?_ _ | refine zA8 ?_ | refine zA5 ?_ _)); exact BK164.out) hb); have n3_ := zA2.mk (zAe (by repeat (first | (with_reducible first | exact HB.out | apply zA1 | apply zA0 | apply zA3 | refine zA4 ?_ GE164.out) | exact HB.out)) hb); clear HO_6; clear HO_9; clear BK164; clear HB; have HO_6 := n0_; have HO_9 := n1_; have BK164 := n2_; have HB := n3_; clear n0_ n1_ n2_ n3_; (try clear hb); (try clear hb2); (try clear hk); (try clear hi)) | ((with_reducible refine zAp (f := 30) rfl ?_); refine zBq (some 28) rfl rfl Tryz.func30 (by kernel_rfl) rfl #[.int .u64 t170] rfl (by (try simp only [List.map_toArray, List.map_cons, List.map_nil]); first | done | rfl | (simp only [List.length_drop, List.length_take]; rfl)) ?_; (with_reducible refine (zAz.calls k1 t170 t171 _ ?side1 A10.out).mono ?_); (case side1 => repeat (first | exact (Kd.zAk HG.out HB.out) | (with_reducible refine Kd.zAj ?_ _) | (with_reducible refine Kd.zAs ?_ _) | (with_reducible refine Kd.zB2 ?_))); rintro e w14 ⟨v172, rfl, ho0, hb⟩; refine ⟨_, rfl, ?_⟩; have n0_ := zA2.mk (Kd.R_below (by (with_reducible repeat (first | apply Kd.zB6 | apply Kd.zB5 | apply Kd.zBf)); exact HO_6.out) hb); have n1_ := zA2.mk (Kd.S_elder' (by (with_reducible repeat (first | apply Kd.S_alloc | apply Kd.S_drewN | apply Kd.S_drew)); exact HO_9.out) (Kd.R_base ho0) hb); have n2_ := zA2.mk (Kd.R_lower ho0 (zAb (by repeat (first | (with_reducible first | exact HB.out | apply zA1 | apply zA0 | apply zA3 | refine zA4 ?_ GE164.out) | exact HB.out)))); have n3_ := zA2.mk (zAl (g := gb164) (o := .cells #[.int .i64 a0_0, .slice A0_1 l0_1.length c0_1] 28 (0, 0)) (by (with_reducible repeat (first | refine zA6 ?_ _ | refine zA8 ?_ | refine zA5 ?_ _)); exact BK164.out) hb); have n4_ := zA2.mk (zAe (by repeat (first | (with_reducible first | exact HB.out | apply zA1 | apply zA0 | apply zA3 | refine zA4 ?_ GE164.out) | exact HB.out)) hb); clear HO_6; clear HO_9; clear BK164; clear HB; have HO_6 := n0_; have HO_9 := n1_; have HO173 := n2_; have BK164 := n3_; have HB := n4_; clear n0_ n1_ n2_ n3_ n4_; (try clear hb); (try clear hb2); (try clear hk); (try clear hi); (try clear ho0); obtain ⟨Ao16, co16, eo16⟩ := Kd.zCa HO173.out; subst eo16) | ((with_reducible refine zCe (b := .append) (xs := #[.tmp 26, .tmp 29]) rfl ?_); at_builtin; refine Kd.S_append (Kd.slice 3 (Kd.int .i64)) (w0 := w) w.heap.size rfl (.tmp 26) (.tmp 29) 30 23 (.slice none 0 0) 24 rfl Tryz.underlying30 info23 rfl (by decide) (by omega) u9 x9_1 t171 [.slice Ao16 t171.length co16] (fun _ => True) (fun k_ => some k_ = (.slice Ao16 t171.length co16 : Value).ownBlock) rfl rfl ?aP (fun k_ hk_ => ((Kd.R_mono (ok' := fun k_ => ((fun _ => True)) k_ ∧ some k_ ≠ (u9 : Value).ownBlock) (Kd.R_apart' (HO173.out) (Kd.S_typed HO_9.out) (by decide)) (fun k_ hk => ⟨trivial, hk.2⟩))).1 k_ hk_.symm) ?aF ?aO ?aB ?aS ?aL ?_; (case aP => exact Kd.M_row (Kd.R_mono (Kd.R_tight rfl (Kd.R_mono (ok' := fun k_ => ((fun _ => True)) k_ ∧ some k_ ≠ (u9 : Value).ownBlock) (Kd.R_apart' (HO173.out) (Kd.S_typed HO_9.out) (by decide)) (fun k_ hk => ⟨trivial, hk.2⟩))) (fun _ h_ => h_))); (case aB => exact (by repeat (first | (with_reducible first | exact HB.out | apply zA1 | apply zA0 | apply zA3 | refine zA4 ?_ GE164.out) | exact HB.out))); (case aF => exact (fun _ _ => trivial)); (case aO => exact (by (with_reducible repeat (first | apply Kd.S_alloc | apply Kd.S_drewN | apply Kd.S_drew)); exact Kd.S_mono HO_9.out (fun k_ hk => ⟨trivial, fun e_ => hk.2 e_⟩))); (case aS => exact (zAb (by repeat (first | (with_reducible first | exact HB.out | apply zA1 | apply zA0 | apply zA3 | refine zA4 ?_ GE164.out) | exact HB.out)))); (case aL => have := LMc11.out; omega); intro v175 w15 ho hb hg hat; rw [← Ny174.out] at ho; have n0_ := zA2.mk (Kd.R_over' (by (with_reducible repeat (first | apply Kd.zB6 | apply Kd.zB5 | apply Kd.zBf)); exact HO_6.out) (Kd.S_typed (by (with_reducible repeat (first | apply Kd.S_alloc | apply Kd.S_drewN | apply Kd.S_drew)); exact HO_9.out)) (by decide) hg); have n1_ := zA2.mk (blk_grown (g := gb164) (o := .cells #[.int .i64 a0_0, .slice A0_1 l0_1.length c0_1] 28 (0, 0)) (by (with_reducible repeat (first | refine zA6 ?_ _ | refine zA8 ?_ | refine zA5 ?_ _)); exact BK164.out) hg (Kd.S_ne HO_9.out BK164.out (by decide))); have n2_ := zA2.mk (hb); have n3_ := zA2.mk (ho); clear HO_6; clear BK164; clear HB; clear HO_9; clear HO173; have HO_6 := n0_; have BK164 := n1_; have HB := n2_; have HO176 := n3_; clear n0_ n1_ n2_ n3_; clear ho hb hg hat))
     go_roundg k1
     case measure => have := HK1.out; omega
     case rel => exact ⟨(Go.bits .andNot .u64 x7_1 t170), (y174), (by first | rfl | (simp; done) | (simp [*]; done)), H', ⟨by have := HK1.out; omega⟩, ⟨by (with_reducible repeat (first | apply Kd.zB6 | apply Kd.zB5 | apply Kd.zBf)); exact HO_6.out⟩, ⟨by (with_reducible repeat (first | apply Kd.S_alloc | apply Kd.S_drewN | apply Kd.S_drew)); exact HO176.out⟩, ⟨by (with_reducible repeat (first | refine zA6 ?_ _ | refine zA8 ?_ | refine zA5 ?_ _)); exact BK164.out⟩, ⟨by repeat (first | (with_reducible first | exact HB.out | apply zA1 | apply zA0 | apply zA3 | refine zA4 ?_ GE164.out) | exact HB.out)⟩⟩
 ·rw [if_neg c4] at H
  have c4b0 : (t169 == 0) = false := beq_eq_false_iff_ne.mpr c4
  have c4b1 : (t169 != 0) = true := bne_iff_ne.mpr c4
  simp only [Option.some.injEq, Prod.mk.injEq] at H
  obtain ⟨rfl, rfl⟩ := H
  go_enter Tryz.func13, Tryz.ntmps13
  go_wp2_with (first | ((with_reducible refine zBl (N := 2) rfl ?_); refine zBj ?hg (N := 2) ?hd (cs := #[.int .i64 a0_0, .slice A0_1 l0_1.length c0_1]) (t := 28) ?hr ?_; (case hd => rfl); (case hg => rfl); (case hr => first | (go_simp; done) | (go_simp; rfl)); intro gb164 hg w17 hbox hb; have n0_ := zA2.mk (zAe (by repeat (first | (with_reducible first | exact HB.out | apply zA1 | apply zA0 | apply zA3) | exact HB.out)) hb); have n1_ := zA2.mk (hbox); have n2_ := zA2.mk ((by rw [hg]; exact (zAb (by repeat (first | (with_reducible first | exact HB.out | apply zA1 | apply zA0 | apply zA3) | exact HB.out))) : w.heap.size ≤ gb164)); have n3_ := zA2.mk ((by rw [hg]; exact (zAb (by repeat (first | (with_reducible first | exact HB.out | apply zA1 | apply zA0 | apply zA3) | exact HB.out))) : w.heap.size ≤ gb164)); clear HB; have HB := n0_; have BK164 := n1_; have GW164 := n2_; have GE164 := n3_; clear n0_ n1_ n2_ n3_; clear hb hbox hg; have hcz18_0 : w17.cell? ⟨gb164, 0, none⟩ = some (.int .i64 a0_0) := (zA7 BK164.out 0).trans rfl; have hcz18_1 : w17.cell? ⟨gb164, 1, none⟩ = some (.slice A0_1 l0_1.length c0_1) := (zA7 BK164.out 1).trans rfl; have hfz18_0 := zA9 BK164.out 0; have hfz18_1 := zA9 BK164.out 1) | ((with_reducible refine zAp (f := 27) rfl ?_); refine zBq (some 14) rfl rfl Tryz.func27 (by kernel_rfl) rfl #[.agg #[.int .i64 a0_0, .slice A0_1 l0_1.length c0_1], .slice A1 l1.length c1] rfl (by (try simp only [List.map_toArray, List.map_cons, List.map_nil]); first | done | rfl | (simp only [List.length_drop, List.length_take]; rfl)) ?_; (with_reducible refine (zB3.calls k a0_0 _ _ l0_1 _ _ l1 t165 t168 t169 _ ?side1 ?side2 ?side3 ?side4 A3.out).mono ?_); (case side1 => repeat (first | exact (Kd.zAk HR0_1.out HB.out) | (with_reducible refine Kd.zAj ?_ _) | (with_reducible refine Kd.zAs ?_ _) | (with_reducible refine Kd.zB2 ?_))); (case side2 => exact HC0_1.out); (case side3 => repeat (first | exact (Kd.zAk HR1.out HB.out) | (with_reducible refine Kd.zAj ?_ _) | (with_reducible refine Kd.zAs ?_ _) | (with_reducible refine Kd.zB2 ?_))); (case side4 => exact HC1.out); rintro e w19 ⟨v166, rfl, ho0, hb⟩; refine ⟨_, rfl, ?_⟩; have n0_ := zA2.mk (Kd.R_lower ho0 (zAb (by repeat (first | (with_reducible first | exact HB.out | apply zA1 | apply zA0 | apply zA3 | refine zA4 ?_ GE164.out) | exact HB.out)))); have n1_ := zA2.mk (zAl (g := gb164) (o := .cells #[.int .i64 a0_0, .slice A0_1 l0_1.length c0_1] 28 (0, 0)) (by (with_reducible repeat (first | refine zA6 ?_ _ | refine zA8 ?_ | refine zA5 ?_ _)); exact BK164.out) hb); have n2_ := zA2.mk (zAe (by repeat (first | (with_reducible first | exact HB.out | apply zA1 | apply zA0 | apply zA3 | refine zA4 ?_ GE164.out) | exact HB.out)) hb); clear BK164; clear HB; have HO167 := n0_; have BK164 := n1_; have HB := n2_; clear n0_ n1_ n2_; (try clear hb); (try clear hb2); (try clear hk); (try clear hi); (try clear ho0)))
  go_ret2
  exact ⟨_, by first | rfl | (simp [zAr, zAq] <;> rfl) | (simp [*, zAr, zAq] <;> rfl), by first | exact Kd.S_nil _ _ _ _ _ | exact Kd.N_nil _ _ _ _ _ | exact Kd.V_nil _ _ _ _ _ | exact Kd.Q_nil _ _ _ _ _ | exact Kd.R_nil _ _ _ _ _, by repeat (first | (with_reducible first | exact HB.out | apply zA1 | apply zA0 | apply zA3 | refine zA4 ?_ GE164.out) | exact HB.out)⟩
end
end Go.Proofs.YtbghfbhlbfcloaaGreatDoor.PL
namespace Go.Proofs.YtbghfbhlbfcloaaGreatDoor.PL
section
open Go.RowKit Go.Proofs.YtbghfbhlbfcloaaGreatDoorW.PrintWords Go.Proofs.YtbghfbhlbfcloaaGreatDoorW.PrintLast Go.Proofs.YtbghfbhlbfcloaaGreatDoorW.PrintMore
attribute [local go_sem] zBu zBs zC3 zC2 zBn zBm zBt zBr   -- for this text's walks alone
set_option linter.unusedVariables false
set_option linter.unusedSimpArgs false
def zAx.l0 : Nat → List Int → Int → Int → List Int → Int → Int → Option (List Int × Int)
 | 0, _, _, _, _, _, _ => none
 | k + 1, x6, x7, x9, x22, x23, x24 => if x24 < x23 then (if 0 ≤ x24 then (if x24 < (x22.length : Int) then (if 0 ≤ (rd x22 x24) then (if (rd x22 x24) < (x6.length : Int) then (zAx.l0 k x6 x7 (Go.bits .or .u64 x9 (rd x6 (rd x22 x24))) x22 x23 (wrap64 (x24 + 1))) else (none)) else (none)) else (none)) else (none)) else ((zAz.f k (Go.bits .andNot .u64 x9 x7)).bind fun t407 => (some (t407, 0)))
def zAx.f (k : Nat) (a0_0 : Int) (l0_1 : List (S58)) (l1 : List Int) : Option (List Int × Int) := (zB3.f k a0_0 l0_1 l1).bind fun bt400 => (if bt400.2.2 = 0 then (zAx.l0 k bt400.1 bt400.2.1 0 l1 (l1.length : Int) 0) else (some (([] : List Int), bt400.2.2)))
theorem zAx.zBv : ∀ k, (∀ y0 y1 y2 y3 y4 y5, LeO (zAx.l0 k y0 y1 y2 y3 y4 y5) (zAx.l0 (k + 1) y0 y1 y2 y3 y4 y5))
 | 0 => fun _ _ _ _ _ _ r h => by simp [zAx.l0] at h
 | k + 1 => by
  have ih0 := zAx.zBv k
  ·intro y0 y1 y2 y3 y4 y5
   unfold zAx.l0
   repeat' first
   | (with_reducible exact ih0 _ _ _ _ _ _)
   | (with_reducible exact zAz.mono _ _)
   | (with_reducible exact zB3.mono _ _ _ _)
   | (with_reducible exact LeO.refl _)
   | (with_reducible exact LeO.none _)
   | (with_reducible refine LeO.ite ?_ ?_)
   | (with_reducible refine LeO.bind ?_ (fun _ => ?_))
theorem zAx.mono : ∀ a0 a1 a2 k, LeO (zAx.f k a0 a1 a2) (zAx.f (k + 1) a0 a1 a2) := by
 intro a0 a1 a2 k
 have ih0 := zAx.zBv k
 unfold zAx.f
 repeat' first
   | (with_reducible exact ih0 _ _ _ _ _ _)
   | (with_reducible exact zAz.mono _ _)
   | (with_reducible exact zB3.mono _ _ _ _)
   | (with_reducible exact LeO.refl _)
   | (with_reducible exact LeO.none _)
   | (with_reducible refine LeO.ite ?_ ?_)
   | (with_reducible refine LeO.bind ?_ (fun _ => ?_))
set_option maxHeartbeats 8000000 in
set_option maxRecDepth 100000 in
theorem zAx.calls (k : Nat) (a0_0 : Int) (A0_1 : Option Addr) (c0_1 : Nat) (l0_1 : List (S58)) (A1 : Option Addr) (c1 : Nat) (l1 : List Int) (r1 : List Int) (r2 : Int) (w : World) (hr0_1 : Kd.C k58 w A0_1 l0_1.length l0_1) (hc0_1 : l0_1.length ≤ c0_1) (hr1 : Kd.C (Kd.int .i64) w A1 l1.length l1) (hc1 : l1.length ≤ c1) (hG : Kd.C (Kd.int .u8) w (some tabA) tabL.length tabL) (h : zAx.f k a0_0 l0_1 l1 = some (r1, r2)) :
  Calls Tryz.prog 23 #[.agg #[.int .i64 a0_0, .slice A0_1 l0_1.length c0_1], .slice A1 l1.length c1] w fun e w' => ∃ v0_ : Value, e = .returned (.tuple #[v0_, .int .i64 r2]) ∧ Kd.R (Kd.int .i64) 3 w' w.heap.size (fun _ => True) v0_ r1 ∧ Below w.heap.size w w' := by
 have hu28 := Tryz.underlying28
 have HR0_1 := zA2.mk hr0_1
 have HC0_1 := zA2.mk hc0_1
 clear hr0_1 hc0_1
 have HR1 := zA2.mk hr1
 have HC1 := zA2.mk hc1
 clear hr1 hc1
 have HB := zA2.mk (Below.refl w.heap.size w)
 have HG := zA2.mk hG
 clear hG
 have H : ((zB3.f k a0_0 l0_1 l1).bind fun bt400 => (if bt400.2.2 = 0 then (zAx.l0 k bt400.1 bt400.2.1 0 l1 (l1.length : Int) 0) else (some (([] : List Int), bt400.2.2)))) = some (r1, r2) := h
 clear h
 replace H := Option.bind_eq_some_iff.mp H
 obtain ⟨⟨t400, t403, t404⟩, A30, H⟩ := H
 replace H : (if t404 = 0 then (zAx.l0 k t400 t403 0 l1 (l1.length : Int) 0) else (some (([] : List Int), t404))) = some (r1, r2) := H
 have A3 := zA2.mk A30
 clear A30
 by_cases c4 : t404 = 0
 ·rw [if_pos c4] at H
  have c4b0 : (t404 == 0) = true := beq_iff_eq.mpr c4
  have c4b1 : (t404 != 0) = false := bne_eq_false_iff_eq.mpr c4
  clear c4
  have H' := zA2.mk H
  clear H
  go_enter Tryz.func23, Tryz.ntmps23
  go_wp2_with (first | ((with_reducible refine zBl (N := 2) rfl ?_); refine zBj ?hg (N := 2) ?hd (cs := #[.int .i64 a0_0, .slice A0_1 l0_1.length c0_1]) (t := 28) ?hr ?_; (case hd => rfl); (case hg => rfl); (case hr => first | (go_simp; done) | (go_simp; rfl)); intro gb399 hg w5 hbox hb; have n0_ := zA2.mk (zAe (by repeat (first | (with_reducible first | exact HB.out | apply zA1 | apply zA0 | apply zA3) | exact HB.out)) hb); have n1_ := zA2.mk (hbox); have n2_ := zA2.mk ((by rw [hg]; exact (zAb (by repeat (first | (with_reducible first | exact HB.out | apply zA1 | apply zA0 | apply zA3) | exact HB.out))) : w.heap.size ≤ gb399)); have n3_ := zA2.mk ((by rw [hg]; exact (zAb (by repeat (first | (with_reducible first | exact HB.out | apply zA1 | apply zA0 | apply zA3) | exact HB.out))) : w.heap.size ≤ gb399)); clear HB; have HB := n0_; have BK399 := n1_; have GW399 := n2_; have GE399 := n3_; clear n0_ n1_ n2_ n3_; clear hb hbox hg; have hcz6_0 : w5.cell? ⟨gb399, 0, none⟩ = some (.int .i64 a0_0) := (zA7 BK399.out 0).trans rfl; have hcz6_1 : w5.cell? ⟨gb399, 1, none⟩ = some (.slice A0_1 l0_1.length c0_1) := (zA7 BK399.out 1).trans rfl; have hfz6_0 := zA9 BK399.out 0; have hfz6_1 := zA9 BK399.out 1) | ((with_reducible refine zAp (f := 27) rfl ?_); refine zBq (some 15) rfl rfl Tryz.func27 (by kernel_rfl) rfl #[.agg #[.int .i64 a0_0, .slice A0_1 l0_1.length c0_1], .slice A1 l1.length c1] rfl (by (try simp only [List.map_toArray, List.map_cons, List.map_nil]); first | done | rfl | (simp only [List.length_drop, List.length_take]; rfl)) ?_; (with_reducible refine (zB3.calls k a0_0 _ _ l0_1 _ _ l1 t400 t403 t404 _ ?side1 ?side2 ?side3 ?side4 A3.out).mono ?_); (case side1 => repeat (first | exact (Kd.zAk HR0_1.out HB.out) | (with_reducible refine Kd.zAj ?_ _) | (with_reducible refine Kd.zAs ?_ _) | (with_reducible refine Kd.zB2 ?_))); (case side2 => exact HC0_1.out); (case side3 => repeat (first | exact (Kd.zAk HR1.out HB.out) | (with_reducible refine Kd.zAj ?_ _) | (with_reducible refine Kd.zAs ?_ _) | (with_reducible refine Kd.zB2 ?_))); (case side4 => exact HC1.out); rintro e w7 ⟨v401, rfl, ho0, hb⟩; refine ⟨_, rfl, ?_⟩; have n0_ := zA2.mk (Kd.R_lower ho0 (zAb (by repeat (first | (with_reducible first | exact HB.out | apply zA1 | apply zA0 | apply zA3 | refine zA4 ?_ GE399.out) | exact HB.out)))); have n1_ := zA2.mk (zAl (g := gb399) (o := .cells #[.int .i64 a0_0, .slice A0_1 l0_1.length c0_1] 28 (0, 0)) (by (with_reducible repeat (first | refine zA6 ?_ _ | refine zA8 ?_ | refine zA5 ?_ _)); exact BK399.out) hb); have n2_ := zA2.mk (zAe (by repeat (first | (with_reducible first | exact HB.out | apply zA1 | apply zA0 | apply zA3 | refine zA4 ?_ GE399.out) | exact HB.out)) hb); clear BK399; clear HB; have HO402 := n0_; have BK399 := n1_; have HB := n2_; clear n0_ n1_ n2_; (try clear hb); (try clear hb2); (try clear hk); (try clear hi); (try clear ho0)))
  go_loopg [9, 24] k (fun kq v9 v24 w' => ∃ (x9_1 : Int) (x24_1 : Int), v9 = .int .u64 x9_1 ∧ v24 = .int .i64 x24_1 ∧ zA2 (zAx.l0 kq t400 t403 x9_1 l1 (l1.length : Int) x24_1 = some (r1, r2)) ∧ zA2 (kq ≤ k) ∧ zA2 (Kd.R (Kd.int .u64) 65 w' w.heap.size (fun _ => True) v401 t400) ∧ zA2 (w'.heap[gb399]? = some (.cells #[.int .i64 a0_0, (.slice A0_1 l0_1.length c0_1)] 28 (0, 0))) ∧ zA2 (Below w.heap.size w w'))
  case atStart => exact ⟨(0), (0), (by first | rfl | (simp; done) | (simp [*]; done)), (by first | rfl | (simp; done) | (simp [*]; done)), H', ⟨Nat.le_refl _⟩, ⟨by (with_reducible repeat (first | apply Kd.zB6 | apply Kd.zB5 | apply Kd.zBf)); exact HO402.out⟩, ⟨by (with_reducible repeat (first | refine zA6 ?_ _ | refine zA8 ?_ | refine zA5 ?_ _)); exact BK399.out⟩, ⟨by repeat (first | (with_reducible first | exact HB.out | apply zA1 | apply zA0 | apply zA3 | refine zA4 ?_ GE399.out) | exact HB.out)⟩⟩
  case round =>
   clear H'
   try clear c1
   try clear c2
   try clear p2
   try clear c4
   try clear c4b0
   try clear c4b1
   try clear hcz6_0
   try clear hcz6_1
   try clear hfz6_0
   try clear hfz6_1
   obtain ⟨x9_1, x24_1, rfl, rfl, HA, HK1, HO_6, BK399, HB⟩ := hrel
   cases gk with
   | zero => exact absurd HA.out (by simp [zAx.l0])
   | succ k1 =>
    have H := HA.out
    clear HA
    simp only [zAx.l0] at H
    by_cases c8 : x24_1 < (l1.length : Int)
    ·rw [if_pos c8] at H
     have c8b0 : decide (x24_1 < (l1.length : Int)) = true := decide_eq_true c8
     clear c8
     by_cases c9 : 0 ≤ x24_1
     rotate_left
     ·rw [if_neg c9] at H
      exact absurd H (by simp)
     rw [if_pos c9] at H
     have c9b0 : decide (0 ≤ x24_1) = true := decide_eq_true c9
     clear c9
     by_cases c10 : x24_1 < (l1.length : Int)
     rotate_left
     ·rw [if_neg c10] at H
      exact absurd H (by simp)
     rw [if_pos c10] at H
     have c10b0 : decide (x24_1 < (l1.length : Int)) = true := decide_eq_true c10
     clear c10
     by_cases c11 : 0 ≤ (rd l1 x24_1)
     rotate_left
     ·rw [if_neg c11] at H
      exact absurd H (by simp)
     rw [if_pos c11] at H
     have c11b0 : decide (0 ≤ (rd l1 x24_1)) = true := decide_eq_true c11
     clear c11
     by_cases c12 : (rd l1 x24_1) < (t400.length : Int)
     rotate_left
     ·rw [if_neg c12] at H
      exact absurd H (by simp)
     rw [if_pos c12] at H
     have c12b0 : decide ((rd l1 x24_1) < (t400.length : Int)) = true := decide_eq_true c12
     clear c12
     have H' := zA2.mk H
     clear H
     have p405 : 0 ≤ (x24_1 : Int) := of_decide_eq_true (by first | (with_reducible assumption) | assumption)
     have q405 : x24_1 < (l1.length : Int) := of_decide_eq_true (by first | (with_reducible assumption) | assumption)
     obtain ⟨ad405, e405, hx405_0⟩ := Kd.zC6 HR1.out x24_1 p405 q405
     cases e405
     replace hx405_0 := (HB.out.cell (World.block_lt_of_cell? w _ hx405_0)).trans hx405_0
     replace p405 := eq_true p405
     replace q405 := eq_true q405
     obtain ⟨Ao13, co13, eo13⟩ := Kd.zCa HO_6.out
     subst eo13
     have p406 : 0 ≤ ((rd l1 x24_1) : Int) := of_decide_eq_true (by first | (with_reducible assumption) | assumption)
     have q406 : (rd l1 x24_1) < (t400.length : Int) := of_decide_eq_true (by first | (with_reducible assumption) | assumption)
     obtain ⟨ad406, e406, hx406_0⟩ := Kd.zC6 (Kd.zBp HO_6.out).2.2 (rd l1 x24_1) p406 q406
     cases e406
     replace p406 := eq_true p406
     replace q406 := eq_true q406
     go_wp2
     go_roundg k1
     case measure => have := HK1.out; omega
     case rel => exact ⟨(Go.bits .or .u64 x9_1 (rd t400 (rd l1 x24_1))), (wrap64 (x24_1 + 1)), (by first | rfl | (simp; done) | (simp [*]; done)), (by first | rfl | (simp; done) | (simp [*]; done)), H', ⟨by have := HK1.out; omega⟩, ⟨by (with_reducible repeat (first | apply Kd.zB6 | apply Kd.zB5 | apply Kd.zBf)); exact HO_6.out⟩, ⟨by (with_reducible repeat (first | refine zA6 ?_ _ | refine zA8 ?_ | refine zA5 ?_ _)); exact BK399.out⟩, ⟨by repeat (first | (with_reducible first | exact HB.out | apply zA1 | apply zA0 | apply zA3 | refine zA4 ?_ GE399.out) | exact HB.out)⟩⟩
    ·rw [if_neg c8] at H
     have c8b0 : decide (x24_1 < (l1.length : Int)) = false := decide_eq_false c8
     clear c8
     replace H := Option.bind_eq_some_iff.mp H
     obtain ⟨t407, A140, H⟩ := H
     replace H : (some (t407, 0)) = some (r1, r2) := H
     have A14 := zA2.mk A140
     clear A140
     simp only [Option.some.injEq, Prod.mk.injEq] at H
     obtain ⟨rfl, rfl⟩ := H
     go_wp2_with (first | ((with_reducible refine zAp (f := 30) rfl ?_); refine zBq (some 38) rfl rfl Tryz.func30 (by kernel_rfl) rfl #[.int .u64 (Go.bits .andNot .u64 x9_1 t403)] rfl (by (try simp only [List.map_toArray, List.map_cons, List.map_nil]); first | done | rfl | (simp only [List.length_drop, List.length_take]; rfl)) ?_; (with_reducible refine (zAz.calls k1 (Go.bits .andNot .u64 x9_1 t403) t407 _ ?side1 A14.out).mono ?_); (case side1 => repeat (first | exact (Kd.zAk HG.out HB.out) | (with_reducible refine Kd.zAj ?_ _) | (with_reducible refine Kd.zAs ?_ _) | (with_reducible refine Kd.zB2 ?_))); rintro e w15 ⟨v408, rfl, ho0, hb⟩; refine ⟨_, rfl, ?_⟩; have n0_ := zA2.mk (Kd.R_below (by (with_reducible repeat (first | apply Kd.zB6 | apply Kd.zB5 | apply Kd.zBf)); exact HO_6.out) hb); have n1_ := zA2.mk (Kd.R_lower ho0 (zAb (by repeat (first | (with_reducible first | exact HB.out | apply zA1 | apply zA0 | apply zA3 | refine zA4 ?_ GE399.out) | exact HB.out)))); have n2_ := zA2.mk (zAl (g := gb399) (o := .cells #[.int .i64 a0_0, .slice A0_1 l0_1.length c0_1] 28 (0, 0)) (by (with_reducible repeat (first | refine zA6 ?_ _ | refine zA8 ?_ | refine zA5 ?_ _)); exact BK399.out) hb); have n3_ := zA2.mk (zAe (by repeat (first | (with_reducible first | exact HB.out | apply zA1 | apply zA0 | apply zA3 | refine zA4 ?_ GE399.out) | exact HB.out)) hb); clear HO_6; clear BK399; clear HB; have HO_6 := n0_; have HO409 := n1_; have BK399 := n2_; have HB := n3_; clear n0_ n1_ n2_ n3_; (try clear hb); (try clear hb2); (try clear hk); (try clear hi); (try clear ho0)))
     go_ret2
     exact ⟨_, by first | rfl | (simp [zAr, zAq] <;> rfl) | (simp [*, zAr, zAq] <;> rfl), by (with_reducible repeat (first | apply Kd.zB6 | apply Kd.zB5 | apply Kd.zBf)); exact HO409.out, by repeat (first | (with_reducible first | exact HB.out | apply zA1 | apply zA0 | apply zA3 | refine zA4 ?_ GE399.out) | exact HB.out)⟩
 ·rw [if_neg c4] at H
  have c4b0 : (t404 == 0) = false := beq_eq_false_iff_ne.mpr c4
  have c4b1 : (t404 != 0) = true := bne_iff_ne.mpr c4
  simp only [Option.some.injEq, Prod.mk.injEq] at H
  obtain ⟨rfl, rfl⟩ := H
  go_enter Tryz.func23, Tryz.ntmps23
  go_wp2_with (first | ((with_reducible refine zBl (N := 2) rfl ?_); refine zBj ?hg (N := 2) ?hd (cs := #[.int .i64 a0_0, .slice A0_1 l0_1.length c0_1]) (t := 28) ?hr ?_; (case hd => rfl); (case hg => rfl); (case hr => first | (go_simp; done) | (go_simp; rfl)); intro gb399 hg w16 hbox hb; have n0_ := zA2.mk (zAe (by repeat (first | (with_reducible first | exact HB.out | apply zA1 | apply zA0 | apply zA3) | exact HB.out)) hb); have n1_ := zA2.mk (hbox); have n2_ := zA2.mk ((by rw [hg]; exact (zAb (by repeat (first | (with_reducible first | exact HB.out | apply zA1 | apply zA0 | apply zA3) | exact HB.out))) : w.heap.size ≤ gb399)); have n3_ := zA2.mk ((by rw [hg]; exact (zAb (by repeat (first | (with_reducible first | exact HB.out | apply zA1 | apply zA0 | apply zA3) | exact HB.out))) : w.heap.size ≤ gb399)); clear HB; have HB := n0_; have BK399 := n1_; have GW399 := n2_; have GE399 := n3_; clear n0_ n1_ n2_ n3_; clear hb hbox hg; have hcz17_0 : w16.cell? ⟨gb399, 0, none⟩ = some (.int .i64 a0_0) := (zA7 BK399.out 0).trans rfl; have hcz17_1 : w16.cell? ⟨gb399, 1, none⟩ = some (.slice A0_1 l0_1.length c0_1) := (zA7 BK399.out 1).trans rfl; have hfz17_0 := zA9 BK399.out 0; have hfz17_1 := zA9 BK399.out 1) | ((with_reducible refine zAp (f := 27) rfl ?_); refine zBq (some 15) rfl rfl Tryz.func27 (by kernel_rfl) rfl #[.agg #[.int .i64 a0_0, .slice A0_1 l0_1.length c0_1], .slice A1 l1.length c1] rfl (by (try simp only [List.map_toArray, List.map_cons, List.map_nil]); first | done | rfl | (simp only [List.length_drop, List.length_take]; rfl)) ?_; (with_reducible refine (zB3.calls k a0_0 _ _ l0_1 _ _ l1 t400 t403 t404 _ ?side1 ?side2 ?side3 ?side4 A3.out).mono ?_); (case side1 => repeat (first | exact (Kd.zAk HR0_1.out HB.out) | (with_reducible refine Kd.zAj ?_ _) | (with_reducible refine Kd.zAs ?_ _) | (with_reducible refine Kd.zB2 ?_))); (case side2 => exact HC0_1.out); (case side3 => repeat (first | exact (Kd.zAk HR1.out HB.out) | (with_reducible refine Kd.zAj ?_ _) | (with_reducible refine Kd.zAs ?_ _) | (with_reducible refine Kd.zB2 ?_))); (case side4 => exact HC1.out); rintro e w18 ⟨v401, rfl, ho0, hb⟩; refine ⟨_, rfl, ?_⟩; have n0_ := zA2.mk (Kd.R_lower ho0 (zAb (by repeat (first | (with_reducible first | exact HB.out | apply zA1 | apply zA0 | apply zA3 | refine zA4 ?_ GE399.out) | exact HB.out)))); have n1_ := zA2.mk (zAl (g := gb399) (o := .cells #[.int .i64 a0_0, .slice A0_1 l0_1.length c0_1] 28 (0, 0)) (by (with_reducible repeat (first | refine zA6 ?_ _ | refine zA8 ?_ | refine zA5 ?_ _)); exact BK399.out) hb); have n2_ := zA2.mk (zAe (by repeat (first | (with_reducible first | exact HB.out | apply zA1 | apply zA0 | apply zA3 | refine zA4 ?_ GE399.out) | exact HB.out)) hb); clear BK399; clear HB; have HO402 := n0_; have BK399 := n1_; have HB := n2_; clear n0_ n1_ n2_; (try clear hb); (try clear hb2); (try clear hk); (try clear hi); (try clear ho0)))
  go_ret2
  exact ⟨_, by first | rfl | (simp [zAr, zAq] <;> rfl) | (simp [*, zAr, zAq] <;> rfl), by first | exact Kd.R_nil _ _ _ _ _ | exact Kd.N_nil _ _ _ _ _ | exact Kd.V_nil _ _ _ _ _ | exact Kd.Q_nil _ _ _ _ _ | exact Kd.S_nil _ _ _ _ _, by repeat (first | (with_reducible first | exact HB.out | apply zA1 | apply zA0 | apply zA3 | refine zA4 ?_ GE399.out) | exact HB.out)⟩
end
end Go.Proofs.YtbghfbhlbfcloaaGreatDoor.PL
namespace Go.Proofs.YtbghfbhlbfcloaaGreatDoor.PL
section
set_option linter.unusedVariables false
set_option linter.unusedSimpArgs false
open Go.RowKit Go.Proofs.YtbghfbhlbfcloaaGreatDoorW.PrintWords Go.Proofs.YtbghfbhlbfcloaaGreatDoorW.PrintLast Go.Proofs.YtbghfbhlbfcloaaGreatDoorW.PrintMore
theorem wraps_12 (n : Int) (h₀ : 0 ≤ n) (h₁ : n < 2 ^ 12) : IntKind.u64.wrap n = n := by
 simp [IntKind.wrap, IntKind.bits, IntKind.signed]; omega
theorem andJ (a b : Nat) (ha : a < 4096) (hb : b < 4096) : Go.bits .and .u64 (a : Int) (b : Int) = ((a &&& b : Nat) : Int) := (bits_nat .u64 12 (by decide) wraps_12 a b ha hb).1
theorem orJ (a b : Nat) (ha : a < 4096) (hb : b < 4096) : Go.bits .or .u64 (a : Int) (b : Int) = ((a ||| b : Nat) : Int) := (bits_nat .u64 12 (by decide) wraps_12 a b ha hb).2
def wo12 (a b : Nat) : Nat := a &&& (4095 ^^^ b)
theorem bit12 (i : Nat) : (4095 : Nat).testBit i = decide (i < 12) := by
 rw [show (4095 : Nat) = 2 ^ 12 - 1 from rfl, Nat.testBit_two_pow_sub_one]
theorem ltn {m i n : Nat} (hm : m < 2 ^ n) (h : m.testBit i = true) : i < n := by
 rcases Nat.lt_or_ge i n with h1 | h1
 ·exact h1
 ·have h2 : m < 2 ^ i := Nat.lt_of_lt_of_le hm (Nat.pow_le_pow_right (n := 2) (by decide) h1)
  rw [Nat.testBit_lt_two_pow h2] at h
  cases h
theorem wo12_bit {a b i : Nat} (ha : a < 4096) : (wo12 a b).testBit i = (a.testBit i && !b.testBit i) := by
 unfold wo12
 rw [Nat.testBit_and, Nat.testBit_xor, bit12]
 cases e : a.testBit i with
 | false => rfl
 | true =>
  rw [decide_eq_true (ltn (n := 12) ha e)]
  simp
theorem andNotJ (a b : Nat) (ha : a < 4096) (hb : b < 4096) : Go.bits .andNot .u64 (a : Int) (b : Int) = ((wo12 a b : Nat) : Int) := by
 have ha' : a % 2 ^ IntKind.u64.bits = a := Nat.mod_eq_of_lt (by show a < 2 ^ 64; omega)
 have hb' : b % 2 ^ IntKind.u64.bits = b := Nat.mod_eq_of_lt (by show b < 2 ^ 64; omega)
 have key : a &&& (2 ^ IntKind.u64.bits - 1 - b) = wo12 a b := by
  show a &&& (2 ^ 64 - 1 - b) = wo12 a b
  refine Nat.eq_of_testBit_eq fun i => ?_
  rw [wo12_bit ha, Nat.testBit_and]
  cases e : a.testBit i with
  | false => rfl
  | true =>
   have hi := ltn (n := 12) ha e
   rw [show 2 ^ 64 - 1 - b = 2 ^ 64 - (b + 1) by omega, Nat.testBit_two_pow_sub_succ (by omega), decide_eq_true (by omega)]
   rfl
 have hlt : wo12 a b < 4096 := Nat.lt_of_le_of_lt Nat.and_le_left ha
 have hw := wraps_12 ((wo12 a b : Nat) : Int) (by omega) (by omega)
 simp only [Go.bits, BitVec.ofInt_natCast, BitVec.toNat_and, BitVec.toNat_not, BitVec.toNat_ofNat, ha', hb', key]
 exact hw
theorem p12 {n : Nat} (hn : n ≤ 12) : 2 ^ n ≤ 4096 := Nat.pow_le_pow_right (n := 2) (by decide) hn
def E12 (m : Nat) : List Int := ((List.range 12).filter fun i => m.testBit i).map fun i : Nat => (i : Int)
theorem low12_tab : ((List.range 4096).all fun m => Go.bits .and .u64 (m : Int) (IntKind.u64.wrap (-(m : Int))) == ((if m = 0 then 0 else 2 ^ (((List.range 12).find? fun i => m.testBit i).getD 0) : Nat) : Int)) = true := by kernel_rfl
end
end Go.Proofs.YtbghfbhlbfcloaaGreatDoor.PL
namespace Go.Proofs.YtbghfbhlbfcloaaGreatDoor.PL
section
set_option linter.unusedVariables false
set_option linter.unusedSimpArgs false
open Go.RowKit Go.Proofs.YtbghfbhlbfcloaaGreatDoorW.PrintWords Go.Proofs.YtbghfbhlbfcloaaGreatDoorW.PrintLast Go.Proofs.YtbghfbhlbfcloaaGreatDoorW.PrintMore
theorem listed12_tab : ((List.range 4096).all fun m => zAz.f 20 (m : Int) == some (E12 m)) = true := by kernel_rfl
theorem listed12_f (k : Nat) (hk : 20 ≤ k) (m : Nat) (hm : m < 4096) : zAz.f k (m : Int) = some (E12 m) := by
 have h := List.all_eq_true.1 listed12_tab m (List.mem_range.2 hm)
 exact up (fun k => zAz.mono (m : Int) k) (by simpa using h) k hk
theorem oc12_tab : ((List.range 4096).all fun x => bits_OnesCount.f (x : Int) == some ((E12 x).length : Int)) = true := by kernel_rfl
theorem oc12_f (x : Nat) (hx : x < 4096) : bits_OnesCount.f (x : Int) = some ((E12 x).length : Int) := by
 have h := List.all_eq_true.1 oc12_tab x (List.mem_range.2 hx)
 exact eq_of_beq h
end
end Go.Proofs.YtbghfbhlbfcloaaGreatDoor.PL
namespace Go.Proofs.YtbghfbhlbfcloaaGreatDoor.PL
section
set_option linter.unusedVariables false
set_option linter.unusedSimpArgs false
open Go.RowKit Go.Proofs.YtbghfbhlbfcloaaGreatDoorW.PrintWords Go.Proofs.YtbghfbhlbfcloaaGreatDoorW.PrintLast Go.Proofs.YtbghfbhlbfcloaaGreatDoorW.PrintMore
def Gn (n : Nat) (A : List Nat) : Prop := A.length = n ∧ n ≤ 12 ∧ ∀ a ∈ A, a < 4096
theorem Gn.lt {n : Nat} {A : List Nat} (h : Gn n A) (i : Nat) : A.getD i 0 < 4096 := by
 rw [List.getD_eq_getElem?_getD]
 cases e : A[i]? with
 | none => decide
 | some a => exact h.2.2 a (List.mem_of_getElem? e)
theorem LIn_len {n : Nat} {A : List Nat} (h : Gn n A) : (LI A).length = n := by unfold LI; rw [List.length_map]; exact h.1
theorem rdN {n : Nat} {A : List Nat} (h : Gn n A) (i : Nat) (hi : i < n) : rd (LI A) (i : Int) = ((A.getD i 0 : Nat) : Int) := by
 have hl : i < A.length := by rw [h.1]; exact hi
 rw [rdI _ i (by unfold LI; rw [List.length_map]; exact hl)]
 unfold LI
 rw [List.getElem_map, List.getD_eq_getElem?_getD, List.getElem?_eq_getElem hl]; rfl
theorem fo12_lt {n : Nat} {A : List Nat} (hA : Gn n A) {m : Nat} (hm : m < 2 ^ n) : ∀ (t : List Nat) (x : Nat), x < 2 ^ n → fo A m t x < 2 ^ n
 | [], _, h => h
 | i :: t, x, h => fo12_lt hA hm t _ (Nat.or_lt_two_pow h (Nat.lt_of_le_of_lt Nat.and_le_right hm))
theorem fo12_sub {A : List Nat} {m : Nat} : ∀ (t : List Nat) (x i : Nat), x.testBit i = true → (fo A m t x).testBit i = true
 | [], _, _, h => h
 | _ :: t, x, i, h => fo12_sub t _ i (by rw [Nat.testBit_or, h]; rfl)
theorem piece12_l1 {n : Nat} {A : List Nat} (hA : Gn n A) (m out : Nat) (hm : m < 2 ^ n) (t : List Nat) (ht : ∀ i ∈ t, i < n) (htl : t.length ≤ 12) : ∀ (k idx x : Nat), x < 2 ^ n → idx ≤ t.length → t.length - idx < k →
  zAf.l1 k (LI A) (m : Int) (out : Int) (x : Int) (t.map fun i : Nat => (i : Int)) ((t.map fun i : Nat => (i : Int)).length : Int) (idx : Int) = if fo A m (t.drop idx) x = out then some (out : Int) else zAf.l0 (k - (t.length - idx) - 1) (LI A) (m : Int) ((fo A m (t.drop idx) x : Nat) : Int)
 | 0, idx, x, _, _, h => absurd h (Nat.not_lt_zero _)
 | k + 1, idx, x, hx, hi, h => by
  have hp := p12 hA.2.1
  unfold zAf.l1
  have hlen : (t.map fun i : Nat => (i : Int)).length = t.length := List.length_map _
  rw [hlen]
  by_cases hlt : idx < t.length
  ·have e : rd (t.map fun i : Nat => (i : Int)) (idx : Int) = ((t[idx] : Nat) : Int) := by rw [rdI _ idx (by rw [hlen]; exact hlt), List.getElem_map]
   have htn := ht t[idx] (List.getElem_mem hlt)
   have hLl := LIn_len hA
   have hAi := hA.lt t[idx]
   have hand : A.getD t[idx] 0 &&& m < 2 ^ n := Nat.lt_of_le_of_lt Nat.and_le_right hm
   rw [if_pos (by omega), if_pos (by omega), if_pos (by omega), e, if_pos (by omega), if_pos (by rw [hLl]; omega), rdN hA _ htn, andJ _ _ hAi (by omega), orJ _ _ (by omega) (by omega), wr1 idx (by omega)]
   have ih := piece12_l1 hA m out hm t ht htl k (idx + 1) (x ||| (A.getD t[idx] 0 &&& m)) (Nat.or_lt_two_pow hx hand) (by omega) (by omega)
   rw [hlen] at ih
   rw [ih, List.drop_eq_getElem_cons hlt, show k + 1 - (t.length - idx) - 1 = k - (t.length - (idx + 1)) - 1 by omega]
   rfl
  ·rw [if_neg (by omega), List.drop_eq_nil_of_le (by omega)]
   show (if (x : Int) = (out : Int) then _ else _) = if x = out then _ else _
   by_cases he : x = out
   ·rw [if_pos (by rw [he]), if_pos he]
   ·rw [if_neg (by omega), if_neg he, show k + 1 - (t.length - idx) - 1 = k by omega]
    rfl
def mis (n x : Nat) : List Nat := (List.range n).filter fun i => !x.testBit i
def El12 (m : Nat) : List Nat := (List.range 12).filter fun i => m.testBit i
theorem El12_len (m : Nat) : (El12 m).length ≤ 12 := by have := List.length_filter_le (fun i => m.testBit i) (List.range 12); simpa [El12] using this
theorem El12_mem {n m : Nat} (hm : m < 2 ^ n) : ∀ i ∈ El12 m, i < n := fun i hi => ltn hm (List.mem_filter.1 hi).2
theorem bits_eq {a b : Nat} (h : ∀ i, a.testBit i = b.testBit i) : a = b := Nat.eq_of_testBit_eq h
theorem mis_less {n x y : Nat} (hy : y < 2 ^ n) (h : ∀ i, x.testBit i = true → y.testBit i = true) (hne : y ≠ x) : (mis n y).length < (mis n x).length := by
 have he : mis n y = (mis n x).filter fun i => !y.testBit i := by
  unfold mis
  rw [List.filter_filter]
  refine List.filter_congr fun i _ => ?_
  cases e : y.testBit i with
  | true => simp
  | false =>
   cases e2 : x.testBit i with
   | true => rw [h i e2] at e; cases e
   | false => rfl
 rw [he]
 have hex : ∃ i, y.testBit i = true ∧ x.testBit i = false := by
  refine Classical.byContradiction fun hc => hne (bits_eq fun i => ?_)
  cases e : y.testBit i with
  | true =>
   cases e2 : x.testBit i with
   | true => rfl
   | false => exact absurd ⟨i, e, e2⟩ hc
  | false =>
   cases e2 : x.testBit i with
   | true => rw [h i e2] at e; cases e
   | false => rfl
 obtain ⟨i, h1, h2⟩ := hex
 refine List.length_filter_lt_length_iff_exists.2 ⟨i, List.mem_filter.2 ⟨List.mem_range.2 (ltn hy h1), by rw [h2]; rfl⟩, by rw [h1]; decide⟩
theorem piece12_l0 {n : Nat} {A : List Nat} (hA : Gn n A) (m : Nat) (hm : m < 2 ^ n) : ∀ (d out : Nat), out < 2 ^ n → (mis n out).length ≤ d → ∀ k, 60 + 30 * d ≤ k →
  ∃ p : Nat, zAf.l0 k (LI A) (m : Int) (out : Int) = some (p : Int) ∧ p < 2 ^ n ∧ ∀ i, out.testBit i = true → p.testBit i = true
 | d, out, ho, hd, k, hk => by
  obtain ⟨k, rfl⟩ : ∃ q, k = q + 1 := ⟨k - 1, by omega⟩
  have hp := p12 hA.2.1
  have hlen := El12_len out
  have h1 := piece12_l1 hA m out hm (El12 out) (El12_mem ho) hlen k 0 out ho (Nat.zero_le _) (by omega)
  have e0 : zAf.l0 (k + 1) (LI A) (m : Int) (out : Int) = zAf.l1 k (LI A) (m : Int) (out : Int) (out : Int) (E12 out) ((E12 out).length : Int) 0 := by
   rw [zAf.l0, listed12_f k (by omega) out (by omega), Option.bind_some]
  rw [e0]
  have h2 : zAf.l1 k (LI A) (m : Int) (out : Int) (out : Int) (E12 out) ((E12 out).length : Int) 0 = if fo A m (El12 out) out = out then some (out : Int) else zAf.l0 (k - (El12 out).length - 1) (LI A) (m : Int) ((fo A m (El12 out) out : Nat) : Int) := h1
  rw [h2]
  have hnl := fo12_lt hA hm (El12 out) out ho
  have hsub := fun i => fo12_sub (A := A) (m := m) (El12 out) out i
  by_cases he : fo A m (El12 out) out = out
  ·rw [if_pos he]
   exact ⟨out, rfl, ho, fun _ h => h⟩
  ·rw [if_neg he]
   generalize fo A m (El12 out) out = nx at *
   have hless := mis_less hnl hsub he
   cases d with
   | zero => omega
   | succ d =>
    obtain ⟨p, h3, h4, h5⟩ := piece12_l0 hA m hm d nx hnl (by omega) (k - (El12 out).length - 1) (by omega)
    exact ⟨p, h3, h4, fun i h => h5 i (hsub i h)⟩
theorem mis_len (n x : Nat) : (mis n x).length ≤ n := by have := List.length_filter_le (fun i => !x.testBit i) (List.range n); simpa [mis] using this
def low12 (m : Nat) : Nat := if m = 0 then 0 else 2 ^ (((List.range 12).find? fun i => m.testBit i).getD 0)
theorem low12_f (m : Nat) (hm : m < 4096) : Go.bits .and .u64 (m : Int) (IntKind.u64.wrap (-(m : Int))) = ((low12 m : Nat) : Int) := by
 have h := List.all_eq_true.1 low12_tab m (List.mem_range.2 hm)
 exact eq_of_beq h
theorem low12_bit {m : Nat} (hm : m < 4096) (h0 : m ≠ 0) : ∃ i, m.testBit i = true ∧ low12 m = 2 ^ i := by
 unfold low12
 rw [if_neg h0]
 cases e : (List.range 12).find? fun i => m.testBit i with
 | some i =>
  have := List.find?_some e
  exact ⟨i, this, rfl⟩
 | none =>
  exfalso
  obtain ⟨i, hi⟩ := Nat.exists_testBit_of_ne_zero h0
  exact List.find?_eq_none.1 e i (List.mem_range.2 (ltn (n := 12) hm hi)) hi
theorem low12_lt {n m : Nat} (hn : n ≤ 12) (hm : m < 2 ^ n) : low12 m < 2 ^ n := by
 have hp := p12 hn
 by_cases h0 : m = 0
 ·unfold low12
  rw [if_pos h0]
  exact Nat.pow_pos (by decide)
 ·obtain ⟨i, hi, he⟩ := low12_bit (by omega) h0
  rw [he]
  exact Nat.pow_lt_pow_right (by decide) (ltn hm hi)
theorem piece12_f {n : Nat} {A : List Nat} (hA : Gn n A) (m : Nat) (hm : m < 2 ^ n) (k : Nat) (hk : 500 ≤ k) : ∃ p : Nat, zAf.f k (LI A) (m : Int) = some (p : Int) ∧ p < 2 ^ n ∧ (m ≠ 0 → ∃ i, m.testBit i = true ∧ p.testBit i = true) := by
 have hp := p12 hA.2.1
 have hn := hA.2.1
 have hl := mis_len n (low12 m)
 obtain ⟨p, h1, h2, h3⟩ := piece12_l0 hA m hm n (low12 m) (low12_lt hn hm) (by omega) k (by omega)
 refine ⟨p, ?_, h2, fun h0 => ?_⟩
 ·unfold zAf.f
  rw [low12_f m (by omega)]
  exact h1
 ·obtain ⟨i, hi, he⟩ := low12_bit (by omega) h0
  exact ⟨i, hi, h3 i (by rw [he, Nat.testBit_two_pow_self])⟩
theorem connected12_f {n : Nat} {A : List Nat} (hA : Gn n A) (m : Nat) (hm : m < 2 ^ n) (k : Nat) (hk : 500 ≤ k) : ∃ b, zAg.f k (LI A) (m : Int) = some b := by
 obtain ⟨p, h1, _⟩ := piece12_f hA m hm k hk
 unfold zAg.f
 rw [h1, Option.bind_some]
 exact ⟨_, rfl⟩
theorem pieces12 {n : Nat} {A : List Nat} (hA : Gn n A) : ∀ (d m : Nat), m < 2 ^ n → ((List.range n).filter fun i => m.testBit i).length ≤ d → ∀ (k : Nat) (out : List (List Int)), 520 + d ≤ k → out.length + d < 1000 →
  ∃ l, zBb.l0 k (LI A) (m : Int) out = some (l, 0)
 | d, m, hm, hd, k, out, hk, ho => by
  obtain ⟨k, rfl⟩ : ∃ q, k = q + 1 := ⟨k - 1, by omega⟩
  have hp := p12 hA.2.1
  by_cases h0 : m = 0
  ·subst h0
   exact ⟨out, by rw [zBb.l0, if_pos (by simp)]⟩
  ·obtain ⟨p, h1, h2, h3⟩ := piece12_f hA m hm k (by omega)
   obtain ⟨i, hi, hpi⟩ := h3 h0
   have hlt : wo12 m p < 2 ^ n := Nat.lt_of_le_of_lt Nat.and_le_left hm
   have hless : ((List.range n).filter fun i => (wo12 m p).testBit i).length < ((List.range n).filter fun i => m.testBit i).length := by
    have he : ((List.range n).filter fun i => (wo12 m p).testBit i) = ((List.range n).filter fun i => m.testBit i).filter fun i => !p.testBit i := by
     rw [List.filter_filter]
     refine List.filter_congr fun i _ => ?_
     rw [wo12_bit (by omega)]
     exact Bool.and_comm _ _
    rw [he]
    exact List.length_filter_lt_length_iff_exists.2 ⟨i, List.mem_filter.2 ⟨List.mem_range.2 (ltn hm hi), hi⟩, by rw [hpi]; decide⟩
   cases d with
   | zero => omega
   | succ d =>
    obtain ⟨l, hl⟩ := pieces12 hA d (wo12 m p) hlt (by omega) k (out ++ [E12 p]) (by omega) (by simp; omega)
    refine ⟨l, ?_⟩
    rw [zBb.l0, if_neg (by omega), h1, Option.bind_some, listed12_f k (by omega) p (by omega), Option.bind_some, if_pos (by omega), andNotJ m p (by omega) (by omega)]
    exact hl
theorem neigh12 {n : Nat} {A : List Nat} (hA : Gn n A) (m : Nat) (hm : m < 2 ^ n) (s : List Int) (hs : ∀ v ∈ s, 0 ≤ v ∧ v < n) (hsl : s.length ≤ 12) : ∀ (c i x : Nat), i + c = s.length → x < 4096 → ∀ k, c + 30 ≤ k →
  ∃ l, zAx.l0 k (LI A) (m : Int) (x : Int) s (s.length : Int) (i : Int) = some (l, 0)
 | 0, i, x, hi, hx, k, hk => by
  obtain ⟨k, rfl⟩ : ∃ q, k = q + 1 := ⟨k - 1, by omega⟩
  have hp := p12 hA.2.1
  have hlt : wo12 x m < 4096 := Nat.lt_of_le_of_lt Nat.and_le_left hx
  rw [zAx.l0, if_neg (by omega), andNotJ x m hx (by omega), listed12_f k (by omega) _ hlt, Option.bind_some]
  exact ⟨_, rfl⟩
 | c + 1, i, x, hi, hx, k, hk => by
  obtain ⟨k, rfl⟩ : ∃ q, k = q + 1 := ⟨k - 1, by omega⟩
  have hlt : i < s.length := by omega
  have hv := hs s[i] (List.getElem_mem hlt)
  obtain ⟨v, hve⟩ : ∃ v : Nat, s[i] = (v : Int) := ⟨s[i].toNat, by omega⟩
  have hLl := LIn_len hA
  have hAv := hA.lt v
  obtain ⟨l, hl⟩ := neigh12 hA m hm s hs hsl c (i + 1) (x ||| A.getD v 0) (by omega) (Nat.or_lt_two_pow (n := 12) hx hAv) k (by omega)
  refine ⟨l, ?_⟩
  rw [zAx.l0, if_pos (by omega), if_pos (by omega), if_pos (by omega), rdI s i hlt, hve, if_pos (by omega), if_pos (by omega), rdN hA v (by omega), orJ _ _ hx hAv, wr1 i (by omega)]
  exact hl
end
end Go.Proofs.YtbghfbhlbfcloaaGreatDoor.PL
namespace Go.Proofs.YtbghfbhlbfcloaaGreatDoor.PL
section
open Go.RowKit Go.Proofs.YtbghfbhlbfcloaaGreatDoorW.PrintWords Go.Proofs.YtbghfbhlbfcloaaGreatDoorW.PrintLast Go.Proofs.YtbghfbhlbfcloaaGreatDoorW.PrintMore
attribute [local go_sem] zBu zBs zC3 zC2 zBn zBm zBt zBr   -- for this text's walks alone
set_option linter.unusedVariables false
set_option linter.unusedSimpArgs false
def zB1.l0 : Nat → Int → Int → List (S58) → Option (Int)
 | 0, _, _, _ => none
 | k + 1, x4, x391000, x391001 => if x4 < (x391001.length : Int) then (if 0 ≤ x4 then (if ((zAu x391001 x4).f0) = ((zAu x391001 x4).f1) then (some 17) else ((zB8.f k x391000 x391001 ((zAu x391001 x4).f1) ((zAu x391001 x4).f0)).bind fun t394 => (if t394 = true then (zB1.l0 k (wrap64 (x4 + 1)) x391000 x391001) else (some 10)))) else (none)) else (some 0)
def zB1.f (k : Nat) (a0_0 : Int) (l0_1 : List (S58)) : Option (Int) := (zAi.f k a0_0 l0_1).bind fun t391 => (if t391 = 0 then (if a0_0 > 12 then (some 6) else (zB1.l0 k 0 a0_0 l0_1)) else (some t391))
theorem zB1.zBv : ∀ k, (∀ y0 y1 y2, LeO (zB1.l0 k y0 y1 y2) (zB1.l0 (k + 1) y0 y1 y2))
 | 0 => fun _ _ _ r h => by simp [zB1.l0] at h
 | k + 1 => by
  have ih0 := zB1.zBv k
  ·intro y0 y1 y2
   unfold zB1.l0
   repeat' first
   | (with_reducible exact ih0 _ _ _)
   | (with_reducible exact zB8.mono _ _ _ _ _)
   | (with_reducible exact zAi.mono _ _ _)
   | (with_reducible exact LeO.refl _)
   | (with_reducible exact LeO.none _)
   | (with_reducible refine LeO.ite ?_ ?_)
   | (with_reducible refine LeO.bind ?_ (fun _ => ?_))
theorem zB1.mono : ∀ a0 a1 k, LeO (zB1.f k a0 a1) (zB1.f (k + 1) a0 a1) := by
 intro a0 a1 k
 have ih0 := zB1.zBv k
 unfold zB1.f
 repeat' first
   | (with_reducible exact ih0 _ _ _)
   | (with_reducible exact zB8.mono _ _ _ _ _)
   | (with_reducible exact zAi.mono _ _ _)
   | (with_reducible exact LeO.refl _)
   | (with_reducible exact LeO.none _)
   | (with_reducible refine LeO.ite ?_ ?_)
   | (with_reducible refine LeO.bind ?_ (fun _ => ?_))
set_option maxHeartbeats 8000000 in
set_option maxRecDepth 100000 in
theorem zB1.calls (k : Nat) (a0_0 : Int) (A0_1 : Option Addr) (c0_1 : Nat) (l0_1 : List (S58)) (r : Int) (w : World) (hr0_1 : Kd.C k58 w A0_1 l0_1.length l0_1) (hc0_1 : l0_1.length ≤ c0_1) (h : zB1.f k a0_0 l0_1 = some r) :
  Calls Tryz.prog 20 #[.agg #[.int .i64 a0_0, .slice A0_1 l0_1.length c0_1]] w fun e w' => e = .returned (.int .i64 r) ∧ Below w.heap.size w w' := by
 have hu28 := Tryz.underlying28
 have hu58 := Tryz.underlying58
 have HR0_1 := zA2.mk hr0_1
 have HC0_1 := zA2.mk hc0_1
 clear hr0_1 hc0_1
 have HB := zA2.mk (Below.refl w.heap.size w)
 have H : ((zAi.f k a0_0 l0_1).bind fun t391 => (if t391 = 0 then (if a0_0 > 12 then (some 6) else (zB1.l0 k 0 a0_0 l0_1)) else (some t391))) = some r := h
 clear h
 replace H := Option.bind_eq_some_iff.mp H
 obtain ⟨t391, A20, H⟩ := H
 replace H : (if t391 = 0 then (if a0_0 > 12 then (some 6) else (zB1.l0 k 0 a0_0 l0_1)) else (some t391)) = some r := H
 have A2 := zA2.mk A20
 clear A20
 by_cases c3 : t391 = 0
 ·rw [if_pos c3] at H
  have c3b0 : (t391 == 0) = true := beq_iff_eq.mpr c3
  have c3b1 : (t391 != 0) = false := bne_eq_false_iff_eq.mpr c3
  clear c3
  by_cases c4 : a0_0 > 12
  ·rw [if_pos c4] at H
   have c4b0 : decide (12 < a0_0) = true := decide_eq_true c4
   clear c4
   obtain rfl := Option.some.inj H
   go_enter Tryz.func20, Tryz.ntmps20
   go_wp2_with (first | ((with_reducible refine zBl (N := 1) rfl ?_); refine zBj ?hg (N := 1) ?hd (cs := #[.int .i64 a0_0, .slice A0_1 l0_1.length c0_1]) (t := 28) ?hr ?_; (case hd => rfl); (case hg => rfl); (case hr => first | (go_simp; done) | (go_simp; rfl)); intro gb390 hg w5 hbox hb; have n0_ := zA2.mk (zAe (by repeat (first | (with_reducible first | exact HB.out | apply zA1 | apply zA0 | apply zA3) | exact HB.out)) hb); have n1_ := zA2.mk (hbox); have n2_ := zA2.mk ((by rw [hg]; exact (zAb (by repeat (first | (with_reducible first | exact HB.out | apply zA1 | apply zA0 | apply zA3) | exact HB.out))) : w.heap.size ≤ gb390)); have n3_ := zA2.mk ((by rw [hg]; exact (zAb (by repeat (first | (with_reducible first | exact HB.out | apply zA1 | apply zA0 | apply zA3) | exact HB.out))) : w.heap.size ≤ gb390)); clear HB; have HB := n0_; have BK390 := n1_; have GW390 := n2_; have GE390 := n3_; clear n0_ n1_ n2_ n3_; clear hb hbox hg; have hcz6_0 : w5.cell? ⟨gb390, 0, none⟩ = some (.int .i64 a0_0) := (zA7 BK390.out 0).trans rfl; have hcz6_1 : w5.cell? ⟨gb390, 1, none⟩ = some (.slice A0_1 l0_1.length c0_1) := (zA7 BK390.out 1).trans rfl; have hfz6_0 := zA9 BK390.out 0; have hfz6_1 := zA9 BK390.out 1) | ((with_reducible refine zAp (f := 39) rfl ?_); refine zBq (some 7) rfl rfl Tryz.func39 (by kernel_rfl) rfl #[.agg #[.int .i64 a0_0, .slice A0_1 l0_1.length c0_1]] rfl (by (try simp only [List.map_toArray, List.map_cons, List.map_nil]); first | done | rfl | (simp only [List.length_drop, List.length_take]; rfl)) ?_; (with_reducible refine (zAi.calls k a0_0 _ _ l0_1 t391 _ ?side1 ?side2 A2.out).mono ?_); (case side1 => repeat (first | exact (Kd.zAk HR0_1.out HB.out) | (with_reducible refine Kd.zAj ?_ _) | (with_reducible refine Kd.zAs ?_ _) | (with_reducible refine Kd.zB2 ?_))); (case side2 => exact HC0_1.out); rintro e w7 ⟨rfl, hb⟩; refine ⟨_, rfl, ?_⟩; have n0_ := zA2.mk (zAl (g := gb390) (o := .cells #[.int .i64 a0_0, .slice A0_1 l0_1.length c0_1] 28 (0, 0)) (by (with_reducible repeat (first | refine zA6 ?_ _ | refine zA8 ?_ | refine zA5 ?_ _)); exact BK390.out) hb); have n1_ := zA2.mk (zAe (by repeat (first | (with_reducible first | exact HB.out | apply zA1 | apply zA0 | apply zA3 | refine zA4 ?_ GE390.out) | exact HB.out)) hb); clear BK390; clear HB; have BK390 := n0_; have HB := n1_; clear n0_ n1_; (try clear hb); (try clear hb2); (try clear hk); (try clear hi); have hcz8_0 : w7.cell? ⟨gb390, 0, none⟩ = some (.int .i64 a0_0) := (zA7 BK390.out 0).trans rfl; have hcz8_1 : w7.cell? ⟨gb390, 1, none⟩ = some (.slice A0_1 l0_1.length c0_1) := (zA7 BK390.out 1).trans rfl; have hfz8_0 := zA9 BK390.out 0; have hfz8_1 := zA9 BK390.out 1))
   go_ret
   exact ⟨by first | rfl | (simp [zAr, zAq] <;> rfl) | (simp [*, zAr, zAq] <;> rfl), by repeat (first | (with_reducible first | exact HB.out | apply zA1 | apply zA0 | apply zA3 | refine zA4 ?_ GE390.out) | exact HB.out)⟩
  ·rw [if_neg c4] at H
   have c4b0 : decide (12 < a0_0) = false := decide_eq_false c4
   clear c4
   have H' := zA2.mk H
   clear H
   go_enter Tryz.func20, Tryz.ntmps20
   go_wp2_with (first | ((with_reducible refine zBl (N := 1) rfl ?_); refine zBj ?hg (N := 1) ?hd (cs := #[.int .i64 a0_0, .slice A0_1 l0_1.length c0_1]) (t := 28) ?hr ?_; (case hd => rfl); (case hg => rfl); (case hr => first | (go_simp; done) | (go_simp; rfl)); intro gb390 hg w9 hbox hb; have n0_ := zA2.mk (zAe (by repeat (first | (with_reducible first | exact HB.out | apply zA1 | apply zA0 | apply zA3) | exact HB.out)) hb); have n1_ := zA2.mk (hbox); have n2_ := zA2.mk ((by rw [hg]; exact (zAb (by repeat (first | (with_reducible first | exact HB.out | apply zA1 | apply zA0 | apply zA3) | exact HB.out))) : w.heap.size ≤ gb390)); have n3_ := zA2.mk ((by rw [hg]; exact (zAb (by repeat (first | (with_reducible first | exact HB.out | apply zA1 | apply zA0 | apply zA3) | exact HB.out))) : w.heap.size ≤ gb390)); clear HB; have HB := n0_; have BK390 := n1_; have GW390 := n2_; have GE390 := n3_; clear n0_ n1_ n2_ n3_; clear hb hbox hg; have hcz10_0 : w9.cell? ⟨gb390, 0, none⟩ = some (.int .i64 a0_0) := (zA7 BK390.out 0).trans rfl; have hcz10_1 : w9.cell? ⟨gb390, 1, none⟩ = some (.slice A0_1 l0_1.length c0_1) := (zA7 BK390.out 1).trans rfl; have hfz10_0 := zA9 BK390.out 0; have hfz10_1 := zA9 BK390.out 1) | ((with_reducible refine zAp (f := 39) rfl ?_); refine zBq (some 7) rfl rfl Tryz.func39 (by kernel_rfl) rfl #[.agg #[.int .i64 a0_0, .slice A0_1 l0_1.length c0_1]] rfl (by (try simp only [List.map_toArray, List.map_cons, List.map_nil]); first | done | rfl | (simp only [List.length_drop, List.length_take]; rfl)) ?_; (with_reducible refine (zAi.calls k a0_0 _ _ l0_1 t391 _ ?side1 ?side2 A2.out).mono ?_); (case side1 => repeat (first | exact (Kd.zAk HR0_1.out HB.out) | (with_reducible refine Kd.zAj ?_ _) | (with_reducible refine Kd.zAs ?_ _) | (with_reducible refine Kd.zB2 ?_))); (case side2 => exact HC0_1.out); rintro e w11 ⟨rfl, hb⟩; refine ⟨_, rfl, ?_⟩; have n0_ := zA2.mk (zAl (g := gb390) (o := .cells #[.int .i64 a0_0, .slice A0_1 l0_1.length c0_1] 28 (0, 0)) (by (with_reducible repeat (first | refine zA6 ?_ _ | refine zA8 ?_ | refine zA5 ?_ _)); exact BK390.out) hb); have n1_ := zA2.mk (zAe (by repeat (first | (with_reducible first | exact HB.out | apply zA1 | apply zA0 | apply zA3 | refine zA4 ?_ GE390.out) | exact HB.out)) hb); clear BK390; clear HB; have BK390 := n0_; have HB := n1_; clear n0_ n1_; (try clear hb); (try clear hb2); (try clear hk); (try clear hi); have hcz12_0 : w11.cell? ⟨gb390, 0, none⟩ = some (.int .i64 a0_0) := (zA7 BK390.out 0).trans rfl; have hcz12_1 : w11.cell? ⟨gb390, 1, none⟩ = some (.slice A0_1 l0_1.length c0_1) := (zA7 BK390.out 1).trans rfl; have hfz12_0 := zA9 BK390.out 0; have hfz12_1 := zA9 BK390.out 1))
   go_loopg [4] k (fun kq v4 w' => ∃ (x4_1 : Int), v4 = .int .i64 x4_1 ∧ zA2 (zB1.l0 kq x4_1 a0_0 l0_1 = some r) ∧ zA2 (kq ≤ k) ∧ zA2 (w'.heap[gb390]? = some (.cells #[.int .i64 a0_0, (.slice A0_1 l0_1.length c0_1)] 28 (0, 0))) ∧ zA2 (Below w.heap.size w w'))
   case atStart => exact ⟨(0), (by first | rfl | (simp; done) | (simp [*]; done)), H', ⟨Nat.le_refl _⟩, ⟨by (with_reducible repeat (first | refine zA6 ?_ _ | refine zA8 ?_ | refine zA5 ?_ _)); exact BK390.out⟩, ⟨by repeat (first | (with_reducible first | exact HB.out | apply zA1 | apply zA0 | apply zA3 | refine zA4 ?_ GE390.out) | exact HB.out)⟩⟩
   case round =>
    clear H'
    try clear c2
    try clear p2
    try clear c3
    try clear c3b0
    try clear c3b1
    try clear c4
    try clear c4b0
    try clear hcz10_0
    try clear hcz10_1
    try clear hcz12_0
    try clear hcz12_1
    try clear hcz6_0
    try clear hcz6_1
    try clear hcz8_0
    try clear hcz8_1
    try clear hfz10_0
    try clear hfz10_1
    try clear hfz12_0
    try clear hfz12_1
    try clear hfz6_0
    try clear hfz6_1
    try clear hfz8_0
    try clear hfz8_1
    obtain ⟨x4_1, rfl, HA, HK1, BK390, HB⟩ := hrel
    cases gk with
    | zero => exact absurd HA.out (by simp [zB1.l0])
    | succ k1 =>
     have H := HA.out
     clear HA
     simp only [zB1.l0] at H
     by_cases c13 : x4_1 < (l0_1.length : Int)
     ·rw [if_pos c13] at H
      have c13b0 : decide (x4_1 < (l0_1.length : Int)) = true := decide_eq_true c13
      clear c13
      by_cases c14 : 0 ≤ x4_1
      rotate_left
      ·rw [if_neg c14] at H
       exact absurd H (by simp)
      rw [if_pos c14] at H
      have c14b0 : decide (0 ≤ x4_1) = true := decide_eq_true c14
      clear c14
      by_cases c15 : ((zAu l0_1 x4_1).f0) = ((zAu l0_1 x4_1).f1)
      ·rw [if_pos c15] at H
       have c15b0 : (((zAu l0_1 x4_1).f0) == ((zAu l0_1 x4_1).f1)) = true := beq_iff_eq.mpr c15
       have c15b1 : (((zAu l0_1 x4_1).f0) != ((zAu l0_1 x4_1).f1)) = false := bne_eq_false_iff_eq.mpr c15
       clear c15
       obtain rfl := Option.some.inj H
       have hcz16_0 : wr.cell? ⟨gb390, 0, none⟩ = some (.int .i64 a0_0) := (zA7 BK390.out 0).trans rfl
       have hcz16_1 : wr.cell? ⟨gb390, 1, none⟩ = some (.slice A0_1 l0_1.length c0_1) := (zA7 BK390.out 1).trans rfl
       have hfz16_0 := zA9 BK390.out 0
       have hfz16_1 := zA9 BK390.out 1
       have p392 : 0 ≤ (x4_1 : Int) := of_decide_eq_true (by first | (with_reducible assumption) | assumption)
       have q392 : x4_1 < (l0_1.length : Int) := of_decide_eq_true (by first | (with_reducible assumption) | assumption)
       obtain ⟨ad392, e392, hx392_0, hx392_1⟩ := at_T58 HR0_1.out x4_1 p392 q392
       cases e392
       replace hx392_0 := (HB.out.cell (World.block_lt_of_cell? w _ hx392_0)).trans hx392_0
       replace hx392_1 := (HB.out.cell (World.block_lt_of_cell? w _ hx392_1)).trans hx392_1
       replace p392 := eq_true p392
       replace q392 := eq_true q392
       go_wp2_with (first | ((with_reducible refine zBl (N := 5) rfl ?_); refine zBj ?hg (N := 5) ?hd (cs := #[.int .i64 0, .int .i64 0]) (t := 58) ?hr ?_; (case hd => rfl); (case hg => rfl); (case hr => first | (go_simp; done) | (go_simp; rfl)); intro gb393 hg w17 hbox hb; have n0_ := zA2.mk (zAl (g := gb390) (o := .cells #[.int .i64 a0_0, .slice (some ad392) l0_1.length c0_1] 28 (0, 0)) (by (with_reducible repeat (first | refine zA6 ?_ _ | refine zA8 ?_ | refine zA5 ?_ _)); exact BK390.out) hb); have n1_ := zA2.mk (zAe (by repeat (first | (with_reducible first | exact HB.out | apply zA1 | apply zA0 | apply zA3 | refine zA4 ?_ GE390.out) | exact HB.out)) hb); have n2_ := zA2.mk (hbox); have n3_ := zA2.mk ((by rw [hg]; exact (zAb (by repeat (first | (with_reducible first | exact HB.out | apply zA1 | apply zA0 | apply zA3 | refine zA4 ?_ GE390.out) | exact HB.out))) : w.heap.size ≤ gb393)); have n4_ := zA2.mk ((by rw [hg]; exact (zAb (by repeat (first | (with_reducible first | exact HB.out | apply zA1 | apply zA0 | apply zA3 | refine zA4 ?_ GE390.out) | exact HB.out))) : w.heap.size ≤ gb393)); have n5_ := zA2.mk ((by rw [hg]; exact Nat.ne_of_lt (zC8 (g := gb390) (o := .cells #[.int .i64 a0_0, .slice (some ad392) l0_1.length c0_1] 28 (0, 0)) (by (with_reducible repeat (first | refine zA6 ?_ _ | refine zA8 ?_ | refine zA5 ?_ _)); exact BK390.out)) : gb390 ≠ gb393)); have n6_ := zA2.mk ((by rw [hg]; exact Nat.ne_of_gt (zC8 (g := gb390) (o := .cells #[.int .i64 a0_0, .slice (some ad392) l0_1.length c0_1] 28 (0, 0)) (by (with_reducible repeat (first | refine zA6 ?_ _ | refine zA8 ?_ | refine zA5 ?_ _)); exact BK390.out)) : gb393 ≠ gb390)); clear BK390; clear HB; have BK390 := n0_; have HB := n1_; have BK393 := n2_; have GW393 := n3_; have GE393 := n4_; have NB390_393 := n5_; have NB393_390 := n6_; clear n0_ n1_ n2_ n3_ n4_ n5_ n6_; clear hb hbox hg; have hnb18 := NB393_390.out; have hnc18 := NB390_393.out; have hcz19_0 : w17.cell? ⟨gb393, 0, none⟩ = some (.int .i64 0) := (zA7 BK393.out 0).trans rfl; have hcz19_1 : w17.cell? ⟨gb393, 1, none⟩ = some (.int .i64 0) := (zA7 BK393.out 1).trans rfl; have hfz19_0 := zA9 BK393.out 0; have hfz19_1 := zA9 BK393.out 1))
       go_ret
       exact ⟨by first | rfl | (simp [zAr, zAq] <;> rfl) | (simp [*, zAr, zAq] <;> rfl), by repeat (first | (with_reducible first | exact HB.out | apply zA1 | apply zA0 | apply zA3 | refine zA4 ?_ GE390.out | refine zA4 ?_ GE393.out) | exact HB.out)⟩
      ·rw [if_neg c15] at H
       have c15b0 : (((zAu l0_1 x4_1).f0) == ((zAu l0_1 x4_1).f1)) = false := beq_eq_false_iff_ne.mpr c15
       have c15b1 : (((zAu l0_1 x4_1).f0) != ((zAu l0_1 x4_1).f1)) = true := bne_iff_ne.mpr c15
       replace H := Option.bind_eq_some_iff.mp H
       obtain ⟨t394, A200, H⟩ := H
       replace H : (if t394 = true then (zB1.l0 k1 (wrap64 (x4_1 + 1)) a0_0 l0_1) else (some 10)) = some r := H
       have A20 := zA2.mk A200
       clear A200
       by_cases c21 : t394 = true
       ·subst c21
        have H1 : (zB1.l0 k1 (wrap64 (x4_1 + 1)) a0_0 l0_1) = some r := by rw [if_pos rfl] at H; exact H
        clear H
        have H := H1
        clear H1
        have H' := zA2.mk H
        clear H
        have hcz22_0 : wr.cell? ⟨gb390, 0, none⟩ = some (.int .i64 a0_0) := (zA7 BK390.out 0).trans rfl
        have hcz22_1 : wr.cell? ⟨gb390, 1, none⟩ = some (.slice A0_1 l0_1.length c0_1) := (zA7 BK390.out 1).trans rfl
        have hfz22_0 := zA9 BK390.out 0
        have hfz22_1 := zA9 BK390.out 1
        have p392 : 0 ≤ (x4_1 : Int) := of_decide_eq_true (by first | (with_reducible assumption) | assumption)
        have q392 : x4_1 < (l0_1.length : Int) := of_decide_eq_true (by first | (with_reducible assumption) | assumption)
        obtain ⟨ad392, e392, hx392_0, hx392_1⟩ := at_T58 HR0_1.out x4_1 p392 q392
        cases e392
        replace hx392_0 := (HB.out.cell (World.block_lt_of_cell? w _ hx392_0)).trans hx392_0
        replace hx392_1 := (HB.out.cell (World.block_lt_of_cell? w _ hx392_1)).trans hx392_1
        replace p392 := eq_true p392
        replace q392 := eq_true q392
        go_wp2_with (first | ((with_reducible refine zBl (N := 5) rfl ?_); refine zBj ?hg (N := 5) ?hd (cs := #[.int .i64 0, .int .i64 0]) (t := 58) ?hr ?_; (case hd => rfl); (case hg => rfl); (case hr => first | (go_simp; done) | (go_simp; rfl)); intro gb393 hg w23 hbox hb; have n0_ := zA2.mk (zAl (g := gb390) (o := .cells #[.int .i64 a0_0, .slice (some ad392) l0_1.length c0_1] 28 (0, 0)) (by (with_reducible repeat (first | refine zA6 ?_ _ | refine zA8 ?_ | refine zA5 ?_ _)); exact BK390.out) hb); have n1_ := zA2.mk (zAe (by repeat (first | (with_reducible first | exact HB.out | apply zA1 | apply zA0 | apply zA3 | refine zA4 ?_ GE390.out) | exact HB.out)) hb); have n2_ := zA2.mk (hbox); have n3_ := zA2.mk ((by rw [hg]; exact (zAb (by repeat (first | (with_reducible first | exact HB.out | apply zA1 | apply zA0 | apply zA3 | refine zA4 ?_ GE390.out) | exact HB.out))) : w.heap.size ≤ gb393)); have n4_ := zA2.mk ((by rw [hg]; exact (zAb (by repeat (first | (with_reducible first | exact HB.out | apply zA1 | apply zA0 | apply zA3 | refine zA4 ?_ GE390.out) | exact HB.out))) : w.heap.size ≤ gb393)); have n5_ := zA2.mk ((by rw [hg]; exact Nat.ne_of_lt (zC8 (g := gb390) (o := .cells #[.int .i64 a0_0, .slice (some ad392) l0_1.length c0_1] 28 (0, 0)) (by (with_reducible repeat (first | refine zA6 ?_ _ | refine zA8 ?_ | refine zA5 ?_ _)); exact BK390.out)) : gb390 ≠ gb393)); have n6_ := zA2.mk ((by rw [hg]; exact Nat.ne_of_gt (zC8 (g := gb390) (o := .cells #[.int .i64 a0_0, .slice (some ad392) l0_1.length c0_1] 28 (0, 0)) (by (with_reducible repeat (first | refine zA6 ?_ _ | refine zA8 ?_ | refine zA5 ?_ _)); exact BK390.out)) : gb393 ≠ gb390)); clear BK390; clear HB; have BK390 := n0_; have HB := n1_; have BK393 := n2_; have GW393 := n3_; have GE393 := n4_; have NB390_393 := n5_; have NB393_390 := n6_; clear n0_ n1_ n2_ n3_ n4_ n5_ n6_; clear hb hbox hg; have hnb24 := NB393_390.out; have hnc24 := NB390_393.out; have hcz25_0 : w23.cell? ⟨gb393, 0, none⟩ = some (.int .i64 0) := (zA7 BK393.out 0).trans rfl; have hcz25_1 : w23.cell? ⟨gb393, 1, none⟩ = some (.int .i64 0) := (zA7 BK393.out 1).trans rfl; have hfz25_0 := zA9 BK393.out 0; have hfz25_1 := zA9 BK393.out 1; have hcz26_0 : w23.cell? ⟨gb390, 0, none⟩ = some (.int .i64 a0_0) := (zA7 BK390.out 0).trans rfl; have hcz26_1 : w23.cell? ⟨gb390, 1, none⟩ = some (.slice (some ad392) l0_1.length c0_1) := (zA7 BK390.out 1).trans rfl; have hfz26_0 := zA9 BK390.out 0; have hfz26_1 := zA9 BK390.out 1) | ((with_reducible refine zAp (f := 40) rfl ?_); refine zBq (some 36) rfl rfl Tryz.func40 (by kernel_rfl) rfl #[.agg #[.int .i64 a0_0, .slice (some ad392) l0_1.length c0_1], .int .i64 ((zAu l0_1 x4_1).f1), .int .i64 ((zAu l0_1 x4_1).f0)] rfl (by (try simp only [List.map_toArray, List.map_cons, List.map_nil]); first | done | rfl | (simp only [List.length_drop, List.length_take]; rfl)) ?_; (with_reducible refine (zB8.calls k1 a0_0 _ _ l0_1 ((zAu l0_1 x4_1).f1) ((zAu l0_1 x4_1).f0) true _ ?side1 ?side2 A20.out).mono ?_); (case side1 => exact Kd.zAk HR0_1.out (by repeat (first | (with_reducible first | exact HB.out | apply zA1 | apply zA0 | apply zA3 | refine zA4 ?_ GE390.out | refine zA4 ?_ GE393.out) | exact HB.out))); (case side2 => exact HC0_1.out); rintro e w27 ⟨rfl, hb⟩; refine ⟨_, rfl, ?_⟩; have n0_ := zA2.mk (zAl (g := gb390) (o := .cells #[.int .i64 a0_0, .slice (some ad392) l0_1.length c0_1] 28 (0, 0)) (by (with_reducible repeat (first | refine zA6 ?_ _ | refine zA8 ?_ | refine zA5 ?_ _)); refine blk_far ?_ NB390_393.out _; (with_reducible repeat (first | refine zA6 ?_ _ | refine zA8 ?_ | refine zA5 ?_ _)); refine blk_far ?_ NB390_393.out _; (with_reducible repeat (first | refine zA6 ?_ _ | refine zA8 ?_ | refine zA5 ?_ _)); exact BK390.out) hb); have n1_ := zA2.mk (zAl (g := gb393) (o := .cells #[.int .i64 ((zAu l0_1 x4_1).f0), .int .i64 ((zAu l0_1 x4_1).f1)] 58 (0, 0)) (by (with_reducible repeat (first | refine zA6 ?_ _ | refine zA8 ?_ | refine zA5 ?_ _)); refine blk_put (cs := #[.int .i64 ((zAu l0_1 x4_1).f0), .int .i64 0]) ?_ 1 _ rfl; (with_reducible repeat (first | refine zA6 ?_ _ | refine zA8 ?_ | refine zA5 ?_ _)); refine blk_put (cs := #[.int .i64 0, .int .i64 0]) ?_ 0 _ rfl; (with_reducible repeat (first | refine zA6 ?_ _ | refine zA8 ?_ | refine zA5 ?_ _)); exact BK393.out) hb); have n2_ := zA2.mk (zAe (by repeat (first | (with_reducible first | exact HB.out | apply zA1 | apply zA0 | apply zA3 | refine zA4 ?_ GE390.out | refine zA4 ?_ GE393.out) | exact HB.out)) hb); clear BK390; clear BK393; clear HB; have BK390 := n0_; have BK393 := n1_; have HB := n2_; clear n0_ n1_ n2_; (try clear hb); (try clear hb2); (try clear hk); (try clear hi)))
        go_roundg k1
        case measure => have := HK1.out; omega
        case rel => exact ⟨(wrap64 (x4_1 + 1)), (by first | rfl | (simp; done) | (simp [*]; done)), H', ⟨by have := HK1.out; omega⟩, ⟨by (with_reducible repeat (first | refine zA6 ?_ _ | refine zA8 ?_ | refine zA5 ?_ _)); exact BK390.out⟩, ⟨by repeat (first | (with_reducible first | exact HB.out | apply zA1 | apply zA0 | apply zA3 | refine zA4 ?_ GE390.out | refine zA4 ?_ GE393.out) | exact HB.out)⟩⟩
       ·replace c21 := Bool.eq_false_iff.mpr c21
        subst c21
        have H1 : (some 10) = some r := by rw [if_neg (show ¬ (false = true) by decide)] at H; exact H
        clear H
        have H := H1
        clear H1
        obtain rfl := Option.some.inj H
        have hcz28_0 : wr.cell? ⟨gb390, 0, none⟩ = some (.int .i64 a0_0) := (zA7 BK390.out 0).trans rfl
        have hcz28_1 : wr.cell? ⟨gb390, 1, none⟩ = some (.slice A0_1 l0_1.length c0_1) := (zA7 BK390.out 1).trans rfl
        have hfz28_0 := zA9 BK390.out 0
        have hfz28_1 := zA9 BK390.out 1
        have p392 : 0 ≤ (x4_1 : Int) := of_decide_eq_true (by first | (with_reducible assumption) | assumption)
        have q392 : x4_1 < (l0_1.length : Int) := of_decide_eq_true (by first | (with_reducible assumption) | assumption)
        obtain ⟨ad392, e392, hx392_0, hx392_1⟩ := at_T58 HR0_1.out x4_1 p392 q392
        cases e392
        replace hx392_0 := (HB.out.cell (World.block_lt_of_cell? w _ hx392_0)).trans hx392_0
        replace hx392_1 := (HB.out.cell (World.block_lt_of_cell? w _ hx392_1)).trans hx392_1
        replace p392 := eq_true p392
        replace q392 := eq_true q392
        go_wp2_with (first | ((with_reducible refine zBl (N := 5) rfl ?_); refine zBj ?hg (N := 5) ?hd (cs := #[.int .i64 0, .int .i64 0]) (t := 58) ?hr ?_; (case hd => rfl); (case hg => rfl); (case hr => first | (go_simp; done) | (go_simp; rfl)); intro gb393 hg w29 hbox hb; have n0_ := zA2.mk (zAl (g := gb390) (o := .cells #[.int .i64 a0_0, .slice (some ad392) l0_1.length c0_1] 28 (0, 0)) (by (with_reducible repeat (first | refine zA6 ?_ _ | refine zA8 ?_ | refine zA5 ?_ _)); exact BK390.out) hb); have n1_ := zA2.mk (zAe (by repeat (first | (with_reducible first | exact HB.out | apply zA1 | apply zA0 | apply zA3 | refine zA4 ?_ GE390.out) | exact HB.out)) hb); have n2_ := zA2.mk (hbox); have n3_ := zA2.mk ((by rw [hg]; exact (zAb (by repeat (first | (with_reducible first | exact HB.out | apply zA1 | apply zA0 | apply zA3 | refine zA4 ?_ GE390.out) | exact HB.out))) : w.heap.size ≤ gb393)); have n4_ := zA2.mk ((by rw [hg]; exact (zAb (by repeat (first | (with_reducible first | exact HB.out | apply zA1 | apply zA0 | apply zA3 | refine zA4 ?_ GE390.out) | exact HB.out))) : w.heap.size ≤ gb393)); have n5_ := zA2.mk ((by rw [hg]; exact Nat.ne_of_lt (zC8 (g := gb390) (o := .cells #[.int .i64 a0_0, .slice (some ad392) l0_1.length c0_1] 28 (0, 0)) (by (with_reducible repeat (first | refine zA6 ?_ _ | refine zA8 ?_ | refine zA5 ?_ _)); exact BK390.out)) : gb390 ≠ gb393)); have n6_ := zA2.mk ((by rw [hg]; exact Nat.ne_of_gt (zC8 (g := gb390) (o := .cells #[.int .i64 a0_0, .slice (some ad392) l0_1.length c0_1] 28 (0, 0)) (by (with_reducible repeat (first | refine zA6 ?_ _ | refine zA8 ?_ | refine zA5 ?_ _)); exact BK390.out)) : gb393 ≠ gb390)); clear BK390; clear HB; have BK390 := n0_; have HB := n1_; have BK393 := n2_; have GW393 := n3_; have GE393 := n4_; have NB390_393 := n5_; have NB393_390 := n6_; clear n0_ n1_ n2_ n3_ n4_ n5_ n6_; clear hb hbox hg; have hnb30 := NB393_390.out; have hnc30 := NB390_393.out; have hcz31_0 : w29.cell? ⟨gb393, 0, none⟩ = some (.int .i64 0) := (zA7 BK393.out 0).trans rfl; have hcz31_1 : w29.cell? ⟨gb393, 1, none⟩ = some (.int .i64 0) := (zA7 BK393.out 1).trans rfl; have hfz31_0 := zA9 BK393.out 0; have hfz31_1 := zA9 BK393.out 1; have hcz32_0 : w29.cell? ⟨gb390, 0, none⟩ = some (.int .i64 a0_0) := (zA7 BK390.out 0).trans rfl; have hcz32_1 : w29.cell? ⟨gb390, 1, none⟩ = some (.slice (some ad392) l0_1.length c0_1) := (zA7 BK390.out 1).trans rfl; have hfz32_0 := zA9 BK390.out 0; have hfz32_1 := zA9 BK390.out 1) | ((with_reducible refine zAp (f := 40) rfl ?_); refine zBq (some 36) rfl rfl Tryz.func40 (by kernel_rfl) rfl #[.agg #[.int .i64 a0_0, .slice (some ad392) l0_1.length c0_1], .int .i64 ((zAu l0_1 x4_1).f1), .int .i64 ((zAu l0_1 x4_1).f0)] rfl (by (try simp only [List.map_toArray, List.map_cons, List.map_nil]); first | done | rfl | (simp only [List.length_drop, List.length_take]; rfl)) ?_; (with_reducible refine (zB8.calls k1 a0_0 _ _ l0_1 ((zAu l0_1 x4_1).f1) ((zAu l0_1 x4_1).f0) false _ ?side1 ?side2 A20.out).mono ?_); (case side1 => exact Kd.zAk HR0_1.out (by repeat (first | (with_reducible first | exact HB.out | apply zA1 | apply zA0 | apply zA3 | refine zA4 ?_ GE390.out | refine zA4 ?_ GE393.out) | exact HB.out))); (case side2 => exact HC0_1.out); rintro e w33 ⟨rfl, hb⟩; refine ⟨_, rfl, ?_⟩; have n0_ := zA2.mk (zAl (g := gb390) (o := .cells #[.int .i64 a0_0, .slice (some ad392) l0_1.length c0_1] 28 (0, 0)) (by (with_reducible repeat (first | refine zA6 ?_ _ | refine zA8 ?_ | refine zA5 ?_ _)); refine blk_far ?_ NB390_393.out _; (with_reducible repeat (first | refine zA6 ?_ _ | refine zA8 ?_ | refine zA5 ?_ _)); refine blk_far ?_ NB390_393.out _; (with_reducible repeat (first | refine zA6 ?_ _ | refine zA8 ?_ | refine zA5 ?_ _)); exact BK390.out) hb); have n1_ := zA2.mk (zAl (g := gb393) (o := .cells #[.int .i64 ((zAu l0_1 x4_1).f0), .int .i64 ((zAu l0_1 x4_1).f1)] 58 (0, 0)) (by (with_reducible repeat (first | refine zA6 ?_ _ | refine zA8 ?_ | refine zA5 ?_ _)); refine blk_put (cs := #[.int .i64 ((zAu l0_1 x4_1).f0), .int .i64 0]) ?_ 1 _ rfl; (with_reducible repeat (first | refine zA6 ?_ _ | refine zA8 ?_ | refine zA5 ?_ _)); refine blk_put (cs := #[.int .i64 0, .int .i64 0]) ?_ 0 _ rfl; (with_reducible repeat (first | refine zA6 ?_ _ | refine zA8 ?_ | refine zA5 ?_ _)); exact BK393.out) hb); have n2_ := zA2.mk (zAe (by repeat (first | (with_reducible first | exact HB.out | apply zA1 | apply zA0 | apply zA3 | refine zA4 ?_ GE390.out | refine zA4 ?_ GE393.out) | exact HB.out)) hb); clear BK390; clear BK393; clear HB; have BK390 := n0_; have BK393 := n1_; have HB := n2_; clear n0_ n1_ n2_; (try clear hb); (try clear hb2); (try clear hk); (try clear hi)))
        go_ret
        exact ⟨by first | rfl | (simp [zAr, zAq] <;> rfl) | (simp [*, zAr, zAq] <;> rfl), by repeat (first | (with_reducible first | exact HB.out | apply zA1 | apply zA0 | apply zA3 | refine zA4 ?_ GE390.out | refine zA4 ?_ GE393.out) | exact HB.out)⟩
     ·rw [if_neg c13] at H
      have c13b0 : decide (x4_1 < (l0_1.length : Int)) = false := decide_eq_false c13
      clear c13
      obtain rfl := Option.some.inj H
      have hcz34_0 : wr.cell? ⟨gb390, 0, none⟩ = some (.int .i64 a0_0) := (zA7 BK390.out 0).trans rfl
      have hcz34_1 : wr.cell? ⟨gb390, 1, none⟩ = some (.slice A0_1 l0_1.length c0_1) := (zA7 BK390.out 1).trans rfl
      have hfz34_0 := zA9 BK390.out 0
      have hfz34_1 := zA9 BK390.out 1
      go_wp2
      go_ret
      exact ⟨by first | rfl | (simp [zAr, zAq] <;> rfl) | (simp [*, zAr, zAq] <;> rfl), by repeat (first | (with_reducible first | exact HB.out | apply zA1 | apply zA0 | apply zA3 | refine zA4 ?_ GE390.out) | exact HB.out)⟩
 ·rw [if_neg c3] at H
  have c3b0 : (t391 == 0) = false := beq_eq_false_iff_ne.mpr c3
  have c3b1 : (t391 != 0) = true := bne_iff_ne.mpr c3
  obtain rfl := Option.some.inj H
  go_enter Tryz.func20, Tryz.ntmps20
  go_wp2_with (first | ((with_reducible refine zBl (N := 1) rfl ?_); refine zBj ?hg (N := 1) ?hd (cs := #[.int .i64 a0_0, .slice A0_1 l0_1.length c0_1]) (t := 28) ?hr ?_; (case hd => rfl); (case hg => rfl); (case hr => first | (go_simp; done) | (go_simp; rfl)); intro gb390 hg w35 hbox hb; have n0_ := zA2.mk (zAe (by repeat (first | (with_reducible first | exact HB.out | apply zA1 | apply zA0 | apply zA3) | exact HB.out)) hb); have n1_ := zA2.mk (hbox); have n2_ := zA2.mk ((by rw [hg]; exact (zAb (by repeat (first | (with_reducible first | exact HB.out | apply zA1 | apply zA0 | apply zA3) | exact HB.out))) : w.heap.size ≤ gb390)); have n3_ := zA2.mk ((by rw [hg]; exact (zAb (by repeat (first | (with_reducible first | exact HB.out | apply zA1 | apply zA0 | apply zA3) | exact HB.out))) : w.heap.size ≤ gb390)); clear HB; have HB := n0_; have BK390 := n1_; have GW390 := n2_; have GE390 := n3_; clear n0_ n1_ n2_ n3_; clear hb hbox hg; have hcz36_0 : w35.cell? ⟨gb390, 0, none⟩ = some (.int .i64 a0_0) := (zA7 BK390.out 0).trans rfl; have hcz36_1 : w35.cell? ⟨gb390, 1, none⟩ = some (.slice A0_1 l0_1.length c0_1) := (zA7 BK390.out 1).trans rfl; have hfz36_0 := zA9 BK390.out 0; have hfz36_1 := zA9 BK390.out 1) | ((with_reducible refine zAp (f := 39) rfl ?_); refine zBq (some 7) rfl rfl Tryz.func39 (by kernel_rfl) rfl #[.agg #[.int .i64 a0_0, .slice A0_1 l0_1.length c0_1]] rfl (by (try simp only [List.map_toArray, List.map_cons, List.map_nil]); first | done | rfl | (simp only [List.length_drop, List.length_take]; rfl)) ?_; (with_reducible refine (zAi.calls k a0_0 _ _ l0_1 t391 _ ?side1 ?side2 A2.out).mono ?_); (case side1 => repeat (first | exact (Kd.zAk HR0_1.out HB.out) | (with_reducible refine Kd.zAj ?_ _) | (with_reducible refine Kd.zAs ?_ _) | (with_reducible refine Kd.zB2 ?_))); (case side2 => exact HC0_1.out); rintro e w37 ⟨rfl, hb⟩; refine ⟨_, rfl, ?_⟩; have n0_ := zA2.mk (zAl (g := gb390) (o := .cells #[.int .i64 a0_0, .slice A0_1 l0_1.length c0_1] 28 (0, 0)) (by (with_reducible repeat (first | refine zA6 ?_ _ | refine zA8 ?_ | refine zA5 ?_ _)); exact BK390.out) hb); have n1_ := zA2.mk (zAe (by repeat (first | (with_reducible first | exact HB.out | apply zA1 | apply zA0 | apply zA3 | refine zA4 ?_ GE390.out) | exact HB.out)) hb); clear BK390; clear HB; have BK390 := n0_; have HB := n1_; clear n0_ n1_; (try clear hb); (try clear hb2); (try clear hk); (try clear hi)))
  go_ret
  exact ⟨by first | rfl | (simp [zAr, zAq] <;> rfl) | (simp [*, zAr, zAq] <;> rfl), by repeat (first | (with_reducible first | exact HB.out | apply zA1 | apply zA0 | apply zA3 | refine zA4 ?_ GE390.out) | exact HB.out)⟩
end
end Go.Proofs.YtbghfbhlbfcloaaGreatDoor.PL
namespace Go.Proofs.YtbghfbhlbfcloaaGreatDoor.PL
section
open Go.RowKit Go.Proofs.YtbghfbhlbfcloaaGreatDoorW.PrintWords Go.Proofs.YtbghfbhlbfcloaaGreatDoorW.PrintLast Go.Proofs.YtbghfbhlbfcloaaGreatDoorW.PrintMore
attribute [local go_sem] zBu zBs zC3 zC2 zBn zBm zBt zBr   -- for this text's walks alone
set_option linter.unusedVariables false
set_option linter.unusedSimpArgs false
mutual
def zAh.l0 : Nat → List Int → Int → Int → Option (Int)
 | 0, _, _, _ => none
 | k + 1, x0, x1, x5 => if x5 < (x0.length : Int) then (if 0 ≤ x5 then (if (rd x0 x5) < 0 then (zAh.j1 k x0 x1 x5 true) else (zAh.j1 k x0 x1 x5 (decide ((rd x0 x5) ≥ x1)))) else (none)) else (some 0)
def zAh.j1 : Nat → List Int → Int → Int → Bool → Option (Int)
 | 0, _, _, _, _ => none
 | k + 1, x0, x1, x5, x27 => if x27 = true then (some 2) else (if x5 > 0 then (if 0 ≤ x5 then (if x5 < (x0.length : Int) then (if 0 ≤ (wrap64 (x5 - 1)) then (if (wrap64 (x5 - 1)) < (x0.length : Int) then (if (rd x0 x5) ≤ (rd x0 (wrap64 (x5 - 1))) then (some 8) else (zAh.l0 k x0 x1 (wrap64 (x5 + 1)))) else (none)) else (none)) else (none)) else (none)) else (zAh.l0 k x0 x1 (wrap64 (x5 + 1))))
end
def zAh.f (k : Nat) (l0 : List Int) (a1 : Int) : Option (Int) := if (l0.length : Int) = 0 then (some 7) else (zAh.l0 k l0 a1 0)
theorem zAh.zBv : ∀ k, (∀ y0 y1 y2, LeO (zAh.l0 k y0 y1 y2) (zAh.l0 (k + 1) y0 y1 y2)) ∧ (∀ y0 y1 y2 y3, LeO (zAh.j1 k y0 y1 y2 y3) (zAh.j1 (k + 1) y0 y1 y2 y3))
 | 0 => ⟨fun _ _ _ r h => by simp [zAh.l0] at h, fun _ _ _ _ r h => by simp [zAh.j1] at h⟩
 | k + 1 => by
  obtain ⟨ih0, ih1⟩ := zAh.zBv k
  refine ⟨?_, ?_⟩
  ·intro y0 y1 y2
   unfold zAh.l0
   repeat' first
   | (with_reducible exact ih0 _ _ _)
   | (with_reducible exact ih1 _ _ _ _)
   | (with_reducible exact LeO.refl _)
   | (with_reducible exact LeO.none _)
   | (with_reducible refine LeO.ite ?_ ?_)
   | (with_reducible refine LeO.bind ?_ (fun _ => ?_))
  ·intro y0 y1 y2 y3
   unfold zAh.j1
   repeat' first
   | (with_reducible exact ih0 _ _ _)
   | (with_reducible exact ih1 _ _ _ _)
   | (with_reducible exact LeO.refl _)
   | (with_reducible exact LeO.none _)
   | (with_reducible refine LeO.ite ?_ ?_)
   | (with_reducible refine LeO.bind ?_ (fun _ => ?_))
theorem zAh.mono : ∀ a0 a1 k, LeO (zAh.f k a0 a1) (zAh.f (k + 1) a0 a1) := by
 intro a0 a1 k
 obtain ⟨ih0, ih1⟩ := zAh.zBv k
 unfold zAh.f
 repeat' first
   | (with_reducible exact ih0 _ _ _)
   | (with_reducible exact ih1 _ _ _ _)
   | (with_reducible exact LeO.refl _)
   | (with_reducible exact LeO.none _)
   | (with_reducible refine LeO.ite ?_ ?_)
   | (with_reducible refine LeO.bind ?_ (fun _ => ?_))
set_option maxHeartbeats 8000000 in
set_option maxRecDepth 100000 in
theorem zAh.calls (k : Nat) (A0 : Option Addr) (c0 : Nat) (l0 : List Int) (a1 : Int) (r : Int) (w : World) (hr0 : Kd.C (Kd.int .i64) w A0 l0.length l0) (hc0 : l0.length ≤ c0) (h : zAh.f k l0 a1 = some r) :
  Calls Tryz.prog 22 #[.slice A0 l0.length c0, .int .i64 a1] w fun e w' => e = .returned (.int .i64 r) ∧ zB0 w w' := by
 have HR0 := zA2.mk hr0
 have HC0 := zA2.mk hc0
 clear hr0 hc0
 have H : (if (l0.length : Int) = 0 then (some 7) else (zAh.l0 k l0 a1 0)) = some r := h
 clear h
 by_cases c3 : (l0.length : Int) = 0
 ·rw [if_pos c3] at H
  have c3b0 : ((l0.length : Int) == 0) = true := beq_iff_eq.mpr c3
  have c3b1 : ((l0.length : Int) != 0) = false := bne_eq_false_iff_eq.mpr c3
  clear c3
  obtain rfl := Option.some.inj H
  go_enter Tryz.func22, Tryz.ntmps22
  go_wp2
  repeat (go_quiet (fail); try go_wp2)
  go_ret
  exact ⟨by first | rfl | (simp; done) | (simp [*]; done), by repeat (first | exact zB0.refl _ | apply zB0.step)⟩
 ·rw [if_neg c3] at H
  have c3b0 : ((l0.length : Int) == 0) = false := beq_eq_false_iff_ne.mpr c3
  have c3b1 : ((l0.length : Int) != 0) = true := bne_iff_ne.mpr c3
  have c3b2 : ¬ (l0 = []) := fun h_ => c3 (by rw [h_]; rfl)
  have H' := zA2.mk H
  clear H
  go_enter Tryz.func22, Tryz.ntmps22
  go_wp2
  repeat (go_quiet (fail); try go_wp2)
  go_loopg [5] k (fun kq v5 w' => ∃ (x5_1 : Int), v5 = .int .i64 x5_1 ∧ zA2 (zAh.l0 kq l0 a1 x5_1 = some r) ∧ zA2 (kq ≤ k) ∧ zB0 w w')
  case atStart => exact ⟨(0), (by first | rfl | (simp; done) | (simp [*]; done)), H', ⟨Nat.le_refl _⟩, by repeat (first | exact zB0.refl _ | apply zB0.step)⟩
  case round =>
   clear H'
   try clear c2
   try clear p2
   try clear c3
   try clear c3b0
   try clear c3b1
   try clear c3b2
   obtain ⟨x5_1, rfl, HA, HK1, ⟨m1, rfl⟩⟩ := hrel
   cases gk with
   | zero => exact absurd HA.out (by simp [zAh.l0])
   | succ k1 =>
    have H := HA.out
    clear HA
    simp only [zAh.l0] at H
    by_cases c4 : x5_1 < (l0.length : Int)
    ·rw [if_pos c4] at H
     have c4b0 : decide (x5_1 < (l0.length : Int)) = true := decide_eq_true c4
     clear c4
     have HC5 := zA2.mk H
     clear H
     go_upto_region 6 with (fail)
     repeat (go_quiet (fail); go_upto_region 6 with (fail))
     go_cut [27] (fun v27 wc => ∃ (kq : Nat) (x27_4 : Bool), v27 = .bool x27_4 ∧ zA2 (zAh.j1 kq l0 a1 x5_1 x27_4 = some r) ∧ zA2 (kq ≤ k1) ∧ zB0 w wc)
     case first =>
      have H := HC5.out
      clear HC5
      by_cases c6 : 0 ≤ x5_1
      rotate_left
      ·rw [if_neg c6] at H
       exact absurd H (by simp)
      rw [if_pos c6] at H
      have c6b0 : decide (0 ≤ x5_1) = true := decide_eq_true c6
      clear c6
      (first | rw [c6b0] | (simp only [i64_w, i32_w]; rw [c6b0]) | skip)
      by_cases c7 : (rd l0 x5_1) < 0
      ·rw [if_pos c7] at H
       have c7b0 : decide ((rd l0 x5_1) < 0) = true := decide_eq_true c7
       clear c7
       have H' := zA2.mk H
       clear H
       have p395 : 0 ≤ (x5_1 : Int) := of_decide_eq_true (by first | (with_reducible assumption) | assumption)
       have q395 : x5_1 < (l0.length : Int) := of_decide_eq_true (by first | (with_reducible assumption) | assumption)
       obtain ⟨ad395, e395, hx395_0⟩ := Kd.zC6 HR0.out x5_1 p395 q395
       cases e395
       replace p395 := eq_true p395
       replace q395 := eq_true q395
       go_wp2
       repeat (go_quiet (fail); try go_wp2)
       go_meet
       case rel => exact ⟨_, (true), (by first | rfl | (simp; done) | (simp [*]; done)), H', ⟨by have := HK1.out; first | omega | exact Nat.le_refl _⟩, by repeat (first | exact zB0.refl _ | apply zB0.step)⟩
      ·rw [if_neg c7] at H
       have c7b0 : decide ((rd l0 x5_1) < 0) = false := decide_eq_false c7
       clear c7
       have H' := zA2.mk H
       clear H
       have p395 : 0 ≤ (x5_1 : Int) := of_decide_eq_true (by first | (with_reducible assumption) | assumption)
       have q395 : x5_1 < (l0.length : Int) := of_decide_eq_true (by first | (with_reducible assumption) | assumption)
       obtain ⟨ad395, e395, hx395_0⟩ := Kd.zC6 HR0.out x5_1 p395 q395
       cases e395
       replace p395 := eq_true p395
       replace q395 := eq_true q395
       have p396 : 0 ≤ (x5_1 : Int) := of_decide_eq_true (by first | (with_reducible assumption) | assumption)
       have q396 : x5_1 < (l0.length : Int) := of_decide_eq_true (by first | (with_reducible assumption) | assumption)
       obtain ⟨ad396, e396, hx396_0⟩ := Kd.zC6 HR0.out x5_1 p396 q396
       obtain rfl : ad395 = ad396 := (by injection e396)
       replace p396 := eq_true p396
       replace q396 := eq_true q396
       go_wp2
       repeat (go_quiet (fail); try go_wp2)
       go_meet
       case rel => exact ⟨_, (decide ((rd l0 x5_1) ≥ a1)), (by first | rfl | (simp; done) | (simp [*]; done)), H', ⟨by have := HK1.out; first | omega | exact Nat.le_refl _⟩, by repeat (first | exact zB0.refl _ | apply zB0.step)⟩
     case rest =>
      clear HC5
      try clear c2
      try clear p2
      try clear c3
      try clear c3b0
      try clear c3b1
      try clear c3b2
      try clear p3
      try clear q3
      try clear hx3
      try clear c4
      try clear c4b0
      try clear c6
      try clear c6b0
      try clear c7
      try clear c7b0
      try clear hx395_0
      try clear hx396_0
      try clear p2
      try clear p395
      try clear p396
      try clear q395
      try clear q396
      obtain ⟨kq, x27_4, rfl, HA, HJ4, ⟨mc4, rfl⟩⟩ := hcut
      cases kq with
      | zero => exact absurd HA.out (by simp [zAh.j1])
      | succ kj4 =>
       have H := HA.out
       clear HA
       simp only [zAh.j1] at H
       by_cases c8 : x27_4 = true
       ·subst c8
        have H1 : (some 2) = some r := by rw [if_pos rfl] at H; exact H
        clear H
        have H := H1
        clear H1
        obtain rfl := Option.some.inj H
        go_wp2
        repeat (go_quiet (fail); try go_wp2)
        go_ret
        exact ⟨by first | rfl | (simp; done) | (simp [*]; done), by repeat (first | exact zB0.refl _ | apply zB0.step)⟩
       ·replace c8 := Bool.eq_false_iff.mpr c8
        subst c8
        have H1 : (if x5_1 > 0 then (if 0 ≤ x5_1 then (if x5_1 < (l0.length : Int) then (if 0 ≤ (wrap64 (x5_1 - 1)) then (if (wrap64 (x5_1 - 1)) < (l0.length : Int) then (if (rd l0 x5_1) ≤ (rd l0 (wrap64 (x5_1 - 1))) then (some 8) else (zAh.l0 kj4 l0 a1 (wrap64 (x5_1 + 1)))) else (none)) else (none)) else (none)) else (none)) else (zAh.l0 kj4 l0 a1 (wrap64 (x5_1 + 1)))) = some r := by rw [if_neg (show ¬ (false = true) by decide)] at H; exact H
        clear H
        have H := H1
        clear H1
        by_cases c9 : x5_1 > 0
        ·rw [if_pos c9] at H
         have c9b0 : decide (0 < x5_1) = true := decide_eq_true c9
         clear c9
         by_cases c10 : 0 ≤ x5_1
         rotate_left
         ·rw [if_neg c10] at H
          exact absurd H (by simp)
         rw [if_pos c10] at H
         have c10b0 : decide (0 ≤ x5_1) = true := decide_eq_true c10
         clear c10
         by_cases c11 : x5_1 < (l0.length : Int)
         rotate_left
         ·rw [if_neg c11] at H
          exact absurd H (by simp)
         rw [if_pos c11] at H
         have c11b0 : decide (x5_1 < (l0.length : Int)) = true := decide_eq_true c11
         clear c11
         obtain ⟨ji12, hji12⟩ : ∃ j_ : Int, (wrap64 (x5_1 - 1)) = j_ := ⟨_, rfl⟩
         replace H : (if 0 ≤ (ji12) then (if (ji12) < (l0.length : Int) then (if (rd l0 x5_1) ≤ (rd l0 (ji12)) then (some 8) else (zAh.l0 kj4 l0 a1 (wrap64 (x5_1 + 1)))) else (none)) else (none)) = some r := by first | (rw [hji12] at H; exact H) | (simp only [hji12] at H ⊢; exact H)
         have hji12w : (IntKind.i64.wrap (x5_1 - 1)) = ji12 := (i64_w _).trans hji12
         by_cases c13 : 0 ≤ (ji12)
         rotate_left
         ·rw [if_neg c13] at H
          exact absurd H (by simp)
         rw [if_pos c13] at H
         have c13b0 : decide (0 ≤ (ji12)) = true := decide_eq_true c13
         clear c13
         by_cases c14 : (ji12) < (l0.length : Int)
         rotate_left
         ·rw [if_neg c14] at H
          exact absurd H (by simp)
         rw [if_pos c14] at H
         have c14b0 : decide ((ji12) < (l0.length : Int)) = true := decide_eq_true c14
         clear c14
         by_cases c15 : (rd l0 x5_1) ≤ (rd l0 (ji12))
         ·rw [if_pos c15] at H
          have c15b0 : decide ((rd l0 x5_1) ≤ (rd l0 (ji12))) = true := decide_eq_true c15
          clear c15
          obtain rfl := Option.some.inj H
          have p397 : 0 ≤ (x5_1 : Int) := of_decide_eq_true (by first | (with_reducible assumption) | assumption)
          have q397 : x5_1 < (l0.length : Int) := of_decide_eq_true (by first | (with_reducible assumption) | assumption)
          obtain ⟨ad397, e397, hx397_0⟩ := Kd.zC6 HR0.out x5_1 p397 q397
          cases e397
          replace p397 := eq_true p397
          replace q397 := eq_true q397
          have p398 : 0 ≤ ((ji12) : Int) := of_decide_eq_true (by first | (with_reducible assumption) | assumption)
          have q398 : (ji12) < (l0.length : Int) := of_decide_eq_true (by first | (with_reducible assumption) | assumption)
          obtain ⟨ad398, e398, hx398_0⟩ := Kd.zC6 HR0.out (ji12) p398 q398
          obtain rfl : ad397 = ad398 := (by injection e398)
          replace p398 := eq_true p398
          replace q398 := eq_true q398
          go_wp2
          repeat (go_quiet (fail); try go_wp2)
          go_ret
          exact ⟨by first | rfl | (simp; done) | (simp only [← hji12] <;> (first | rfl | simp)) | (simp [*]; done), by repeat (first | exact zB0.refl _ | apply zB0.step)⟩
         ·rw [if_neg c15] at H
          have c15b0 : decide ((rd l0 x5_1) ≤ (rd l0 (ji12))) = false := decide_eq_false c15
          clear c15
          have H' := zA2.mk H
          clear H
          have p397 : 0 ≤ (x5_1 : Int) := of_decide_eq_true (by first | (with_reducible assumption) | assumption)
          have q397 : x5_1 < (l0.length : Int) := of_decide_eq_true (by first | (with_reducible assumption) | assumption)
          obtain ⟨ad397, e397, hx397_0⟩ := Kd.zC6 HR0.out x5_1 p397 q397
          cases e397
          replace p397 := eq_true p397
          replace q397 := eq_true q397
          have p398 : 0 ≤ ((ji12) : Int) := of_decide_eq_true (by first | (with_reducible assumption) | assumption)
          have q398 : (ji12) < (l0.length : Int) := of_decide_eq_true (by first | (with_reducible assumption) | assumption)
          obtain ⟨ad398, e398, hx398_0⟩ := Kd.zC6 HR0.out (ji12) p398 q398
          obtain rfl : ad397 = ad398 := (by injection e398)
          replace p398 := eq_true p398
          replace q398 := eq_true q398
          go_wp2
          repeat (go_quiet (fail); try go_wp2)
          go_roundg kj4
          case measure => have := HK1.out; have := HJ4.out; omega
          case rel => exact ⟨(wrap64 (x5_1 + 1)), (by first | rfl | (simp; done) | (simp [*]; done)), H', ⟨by have := HK1.out; have := HJ4.out; omega⟩, by repeat (first | exact zB0.refl _ | apply zB0.step)⟩
        ·rw [if_neg c9] at H
         have c9b0 : decide (0 < x5_1) = false := decide_eq_false c9
         clear c9
         have H' := zA2.mk H
         clear H
         go_wp2
         repeat (go_quiet (fail); try go_wp2)
         go_roundg kj4
         case measure => have := HK1.out; have := HJ4.out; omega
         case rel => exact ⟨(wrap64 (x5_1 + 1)), (by first | rfl | (simp; done) | (simp [*]; done)), H', ⟨by have := HK1.out; have := HJ4.out; omega⟩, by repeat (first | exact zB0.refl _ | apply zB0.step)⟩
    ·rw [if_neg c4] at H
     have c4b0 : decide (x5_1 < (l0.length : Int)) = false := decide_eq_false c4
     clear c4
     obtain rfl := Option.some.inj H
     go_wp2
     repeat (go_quiet (fail); try go_wp2)
     go_ret
     exact ⟨by first | rfl | (simp; done) | (simp [*]; done), by repeat (first | exact zB0.refl _ | apply zB0.step)⟩
end
end Go.Proofs.YtbghfbhlbfcloaaGreatDoor.PL
namespace Go.Proofs.YtbghfbhlbfcloaaGreatDoor.PL
section
set_option linter.unusedVariables false
set_option linter.unusedSimpArgs false
open Go.RowKit Go.Proofs.YtbghfbhlbfcloaaGreatDoorW.PrintWords Go.Proofs.YtbghfbhlbfcloaaGreatDoorW.PrintLast Go.Proofs.YtbghfbhlbfcloaaGreatDoorW.PrintMore
theorem chk_l (x : List Int) (n : Int) (hx : x.length < 1000) : ∀ (c i : Nat), i + c = x.length → ∃ e, (∀ k, 2 * c < k → zAh.l0 k x n (i : Int) = some e) ∧ (∀ k, 2 * c < k → zAn.l0 k x n x (x.length : Int) (i : Int) = some e) ∧ (e = 0 → (∀ j (h : j < x.length), i ≤ j → 0 ≤ x[j] ∧ x[j] < n) ∧ ∀ j (h : j + 1 < x.length), i ≤ j + 1 → x[j] < x[j + 1])
 | 0, i, hi => by
  refine ⟨0, fun k hk => ?_, fun k hk => ?_, fun _ => ⟨fun j h hj => by omega, fun j h hj => by omega⟩⟩
  ·obtain ⟨k, rfl⟩ : ∃ q, k = q + 1 := ⟨k - 1, by omega⟩
   rw [zAh.l0, if_neg (by omega)]
  ·obtain ⟨k, rfl⟩ : ∃ q, k = q + 1 := ⟨k - 1, by omega⟩
   rw [zAn.l0, if_neg (by omega)]
 | c + 1, i, hi => by
  have hlt : i < x.length := by omega
  obtain ⟨e, h1, h2, h3⟩ := chk_l x n hx c (i + 1) (by omega)
  by_cases hr : x[i] < 0 ∨ n ≤ x[i]
  ·have hd : (x[i] < 0) ∨ ¬ (x[i] < 0) ∧ (decide (x[i] ≥ n)) = true := by
    rcases hr with h | h
    ·exact .inl h
    ·by_cases h0 : x[i] < 0
     ·exact .inl h0
     ·exact .inr ⟨h0, decide_eq_true h⟩
   refine ⟨2, fun k hk => ?_, fun k hk => ?_, fun h => by omega⟩
   ·obtain ⟨k, rfl⟩ : ∃ q, k = q + 2 := ⟨k - 2, by omega⟩
    rw [zAh.l0, if_pos (by omega), if_pos (by omega), rdI x i hlt]
    rcases hd with h | ⟨h, h'⟩
    ·rw [if_pos h, zAh.j1, if_pos rfl]
    ·rw [if_neg h, h', zAh.j1, if_pos rfl]
   ·obtain ⟨k, rfl⟩ : ∃ q, k = q + 2 := ⟨k - 2, by omega⟩
    rw [zAn.l0, if_pos (by omega), if_pos (by omega), if_pos (by omega), rdI x i hlt]
    rcases hd with h | ⟨h, h'⟩
    ·rw [if_pos h, zAn.j1, if_pos rfl]
    ·rw [if_neg h, h', zAn.j1, if_pos rfl]
  ·have hn1 : ¬ x[i] < 0 := fun h => hr (.inl h)
   have hn2 : ¬ x[i] ≥ n := fun h => hr (.inr h)
   cases i with
   | zero =>
    refine ⟨e, fun k hk => ?_, fun k hk => ?_, fun h => ⟨fun j hj hij => ?_, fun j hj hij => ?_⟩⟩
    ·obtain ⟨k, rfl⟩ : ∃ q, k = q + 2 := ⟨k - 2, by omega⟩
     rw [zAh.l0, if_pos (by omega), if_pos (by omega), rdI x 0 hlt, if_neg hn1, decide_eq_false hn2, zAh.j1, if_neg (by decide), if_neg (by omega), wr1 0 (by omega)]
     exact h1 k (by omega)
    ·obtain ⟨k, rfl⟩ : ∃ q, k = q + 2 := ⟨k - 2, by omega⟩
     rw [zAn.l0, if_pos (by omega), if_pos (by omega), if_pos (by omega), rdI x 0 hlt, if_neg hn1, decide_eq_false hn2, zAn.j1, if_neg (by decide), if_neg (by omega), wr1 0 (by omega)]
     exact h2 k (by omega)
    ·cases j with
     | zero => omega
     | succ j => exact (h3 h).1 (j + 1) hj (by omega)
    ·exact (h3 h).2 j hj (by omega)
   | succ i =>
    have hp : rd x (i : Int) = x[i] := rdI x i (by omega)
    by_cases ho : x[i + 1] ≤ x[i]
    ·refine ⟨8, fun k hk => ?_, fun k hk => ?_, fun h => by omega⟩
     ·obtain ⟨k, rfl⟩ : ∃ q, k = q + 2 := ⟨k - 2, by omega⟩
      rw [zAh.l0, if_pos (by omega), if_pos (by omega), rdI x (i + 1) hlt, if_neg hn1, decide_eq_false hn2, zAh.j1, if_neg (by decide), if_pos (by omega), if_pos (by omega), if_pos (by omega), wm1 i (by omega), if_pos (by omega), if_pos (by omega), rdI x (i + 1) hlt, hp, if_pos ho]
     ·obtain ⟨k, rfl⟩ : ∃ q, k = q + 2 := ⟨k - 2, by omega⟩
      rw [zAn.l0, if_pos (by omega), if_pos (by omega), if_pos (by omega), rdI x (i + 1) hlt, if_neg hn1, decide_eq_false hn2, zAn.j1, if_neg (by decide), if_pos (by omega), wm1 i (by omega), if_pos (by omega), if_pos (by omega), hp, if_pos ho]
    ·refine ⟨e, fun k hk => ?_, fun k hk => ?_, fun h => ⟨fun j hj hij => ?_, fun j hj hij => ?_⟩⟩
     ·obtain ⟨k, rfl⟩ : ∃ q, k = q + 2 := ⟨k - 2, by omega⟩
      rw [zAh.l0, if_pos (by omega), if_pos (by omega), rdI x (i + 1) hlt, if_neg hn1, decide_eq_false hn2, zAh.j1, if_neg (by decide), if_pos (by omega), if_pos (by omega), if_pos (by omega), wm1 i (by omega), if_pos (by omega), if_pos (by omega), rdI x (i + 1) hlt, hp, if_neg ho, wr1 (i + 1) (by omega)]
      exact h1 k (by omega)
     ·obtain ⟨k, rfl⟩ : ∃ q, k = q + 2 := ⟨k - 2, by omega⟩
      rw [zAn.l0, if_pos (by omega), if_pos (by omega), if_pos (by omega), rdI x (i + 1) hlt, if_neg hn1, decide_eq_false hn2, zAn.j1, if_neg (by decide), if_pos (by omega), wm1 i (by omega), if_pos (by omega), if_pos (by omega), hp, if_neg ho, wr1 (i + 1) (by omega)]
      exact h2 k (by omega)
     ·rcases Nat.lt_or_ge j (i + 1 + 1) with hlt2 | hge
      ·obtain rfl : j = i + 1 := by omega
       exact ⟨by omega, by omega⟩
      ·exact (h3 h).1 j hj hge
     ·rcases Nat.lt_or_ge (j + 1) (i + 1 + 1) with hlt2 | hge
      ·obtain rfl : j = i := by omega
       omega
      ·exact (h3 h).2 j hj hge
def OkM (n : Int) (x : List Int) : Prop := (∀ a ∈ x, 0 ≤ a ∧ a < n) ∧ x.Pairwise (· < ·)
theorem pair_of (x : List Int) (h : ∀ j (h : j + 1 < x.length), x[j] < x[j + 1]) : x.Pairwise (· < ·) := by
 have key : ∀ (d i j : Nat) (hj : j < x.length) (e : i + 1 + d = j), x[i]'(by omega) < x[j] := by
  intro d
  induction d with
  | zero =>
   intro i j hj e
   obtain rfl : j = i + 1 := by omega
   exact h i hj
  | succ d ih =>
   intro i j hj e
   obtain ⟨j, rfl⟩ : ∃ q, j = q + 1 := ⟨j - 1, by omega⟩
   exact Int.lt_trans (ih i j (by omega) (by omega)) (h j hj)
 exact List.pairwise_iff_getElem.2 fun i j hi hj hij => key (j - i - 1) i j hj (by omega)
theorem chk_f (x : List Int) (n : Int) (hx : x.length < 1000) (h0 : x.length ≠ 0) : ∃ e, (∀ k, 2 * x.length < k → zAh.f k x n = some e) ∧ (∀ k, 2 * x.length < k → zAn.f k x n = some e) ∧ (e = 0 → OkM n x) := by
 obtain ⟨e, h1, h2, h3⟩ := chk_l x n hx x.length 0 (by omega)
 refine ⟨e, fun k hk => ?_, fun k hk => ?_, fun h => ⟨fun a ha => ?_, pair_of x fun j hj => (h3 h).2 j hj (by omega)⟩⟩
 ·unfold zAh.f
  rw [if_neg (by omega)]
  exact h1 k hk
 ·exact h2 k hk
 ·obtain ⟨j, hj, rfl⟩ := List.getElem_of_mem ha
  exact (h3 h).1 j hj (Nat.zero_le _)
theorem shl_12 : ((List.range 12).all fun i => shl .u64 1 (i : Int) == ((2 ^ i : Nat) : Int)) = true := by kernel_rfl
theorem shlJ (i : Nat) (hi : i < 12) : shl .u64 1 (i : Int) = ((2 ^ i : Nat) : Int) := by
 have h := List.all_eq_true.1 shl_12 i (List.mem_range.2 hi)
 simpa using h
def MkOf (x : List Int) (m : Nat) : Prop := m < 4096 ∧ ∀ b : Nat, m.testBit b = true ↔ ((b : Nat) : Int) ∈ x
theorem mask_l (x : List Int) (hx : x.length < 1000) (h : ∀ a ∈ x, 0 ≤ a ∧ a < 12) : ∀ (c i m : Nat), i + c = x.length → m < 4096 → ∃ r : Nat, r < 4096 ∧ (∀ b : Nat, r.testBit b = true ↔ m.testBit b = true ∨ ((b : Nat) : Int) ∈ x.drop i) ∧ ∀ k, c < k → zAt.l0 k (m : Int) x (x.length : Int) (i : Int) = some (r : Int)
 | 0, i, m, hi, hm => by
  refine ⟨m, hm, fun b => ?_, fun k hk => ?_⟩
  ·rw [List.drop_eq_nil_of_le (by omega)]
   simp
  ·obtain ⟨k, rfl⟩ : ∃ q, k = q + 1 := ⟨k - 1, by omega⟩
   rw [zAt.l0, if_neg (by omega)]
 | c + 1, i, m, hi, hm => by
  have hlt : i < x.length := by omega
  have h1 := h x[i] (List.getElem_mem hlt)
  obtain ⟨v, hv⟩ : ∃ v : Nat, x[i] = (v : Int) := ⟨x[i].toNat, by omega⟩
  have hv12 : v < 12 := by omega
  have h2v : 2 ^ v < 4096 := Nat.pow_lt_pow_right (m := v) (n := 12) (by decide) hv12
  obtain ⟨r, hr, hb, hf⟩ := mask_l x hx h c (i + 1) (m ||| 2 ^ v) (by omega) (Nat.or_lt_two_pow (n := 12) hm h2v)
  refine ⟨r, hr, fun b => ?_, fun k hk => ?_⟩
  ·rw [hb b, Nat.testBit_or, Nat.testBit_two_pow, Bool.or_eq_true, decide_eq_true_eq, List.drop_eq_getElem_cons hlt, List.mem_cons, hv]
   constructor
   ·rintro ((h | h) | h)
    ·exact .inl h
    ·exact .inr (.inl (by omega))
    ·exact .inr (.inr h)
   ·rintro (h | h | h)
    ·exact .inl (.inl h)
    ·exact .inl (.inr (by omega))
    ·exact .inr h
  ·obtain ⟨k, rfl⟩ : ∃ q, k = q + 1 := ⟨k - 1, by omega⟩
   rw [zAt.l0, if_pos (by omega), if_pos (by omega), if_pos (by omega), rdI x i hlt, hv, if_pos (by omega), shlJ v hv12, orJ _ _ hm h2v, wr1 i (by omega)]
   exact hf k (by omega)
theorem mask_f (x : List Int) (hx : x.length < 1000) (h : ∀ a ∈ x, 0 ≤ a ∧ a < 12) : ∃ m : Nat, MkOf x m ∧ ∀ k, x.length < k → zAt.f k x = some (m : Int) := by
 obtain ⟨r, hr, hb, hf⟩ := mask_l x hx h x.length 0 0 (by omega) (by decide)
 refine ⟨r, ⟨hr, fun b => ?_⟩, fun k hk => hf k hk⟩
 rw [hb b, Nat.zero_testBit, List.drop_zero]
 simp
theorem gl1 (E : List S58) (n : Int) (hl : E.length < 1000) : ∀ (c i : Nat), i + 1 + c = E.length ∨ (c = 0 ∧ E.length ≤ i + 1) → ∃ e, ∀ k, c + 5 < k → zAi.l1 k ((i + 1 : Nat) : Int) n E = some e
 | 0, i, hi => ⟨0, fun k hk => by
  obtain ⟨k, rfl⟩ : ∃ q, k = q + 1 := ⟨k - 1, by omega⟩
  rw [zAi.l1, if_neg (by omega)]⟩
 | c + 1, i, hi => by
  have hlt : i + 1 < E.length := by omega
  obtain ⟨e, he⟩ := gl1 E n hl c (i + 1) (by omega)
  have st : ∀ k, c + 1 + 5 < k + 5 → zAi.l1 (k + 5) ((i + 1 : Nat) : Int) n E = if ordE E[i] E[i + 1] ≥ 0 then some 8 else zAi.l1 (k + 4) ((i + 1 + 1 : Nat) : Int) n E := fun k _ => by
   rw [zAi.l1, if_pos (by omega), wm1 i (by omega), if_pos (by omega), if_pos (by omega), if_pos (by omega), rdE E i (by omega), rdE E (i + 1) hlt, order_f, Option.bind_some, wr1 (i + 1) (by omega)]
  by_cases h : ordE E[i] E[i + 1] ≥ 0
  ·refine ⟨8, fun k hk => ?_⟩
   obtain ⟨k, rfl⟩ : ∃ q, k = q + 5 := ⟨k - 5, by omega⟩
   rw [st k (by omega), if_pos h]
  ·refine ⟨e, fun k hk => ?_⟩
   obtain ⟨k, rfl⟩ : ∃ q, k = q + 5 := ⟨k - 5, by omega⟩
   rw [st k (by omega), if_neg h]
   exact he (k + 4) (by omega)
def inr (n : Int) (y : S58) : Prop := (0 ≤ y.f0 ∧ y.f0 < n) ∧ 0 ≤ y.f1 ∧ y.f1 < n
theorem beyond_f (n z : Int) : zC5.f n z = some (!(decide (0 ≤ z ∧ z < n))) := by
 unfold zC5.f
 by_cases h : z < 0
 ·rw [if_pos h, decide_eq_false (by omega)]
  rfl
 ·rw [if_neg h]
  by_cases h2 : z < n
  ·rw [decide_eq_false (by omega), decide_eq_true (by omega)]
   rfl
  ·rw [decide_eq_true (by omega), decide_eq_false (by omega)]
   rfl
theorem gl0 (E : List S58) (n : Int) (hl : E.length ≤ 20) : ∀ (c i : Nat), i + c = E.length → (∀ y ∈ E.take i, inr n y) → ∃ e, (∀ k, 50 + c < k → zAi.l0 k E (E.length : Int) (i : Int) n E = some e) ∧ (e = 0 → ∀ y ∈ E, inr n y)
 | 0, i, hi, hg => by
  obtain ⟨e, he⟩ := gl1 E n (by omega) (E.length - 1) 0 (by omega)
  refine ⟨e, fun k hk => ?_, fun _ y hy => hg y (by rw [List.take_of_length_le (by omega)]; exact hy)⟩
  obtain ⟨k, rfl⟩ : ∃ q, k = q + 1 := ⟨k - 1, by omega⟩
  rw [zAi.l0, if_neg (by omega)]
  exact he k (by omega)
 | c + 1, i, hi, hg => by
  have hlt : i < E.length := by omega
  have st : ∀ k, zAi.l0 (k + 1) E (E.length : Int) (i : Int) n E = if (!(decide (0 ≤ E[i].f0 ∧ E[i].f0 < n))) = true then some 2 else (if (!(decide (0 ≤ E[i].f1 ∧ E[i].f1 < n))) = true then some 2 else zAi.l0 k E (E.length : Int) ((i + 1 : Nat) : Int) n E) := fun k => by
   rw [zAi.l0, if_pos (by omega), if_pos (by omega), if_pos (by omega), rdE E i hlt, beyond_f, Option.bind_some, beyond_f, Option.bind_some, wr1 i (by omega)]
  by_cases h0 : 0 ≤ E[i].f0 ∧ E[i].f0 < n
  ·by_cases h1 : 0 ≤ E[i].f1 ∧ E[i].f1 < n
   ·obtain ⟨e, he, hh⟩ := gl0 E n hl c (i + 1) (by omega) (fun y hy => by
     rw [List.take_succ_eq_append_getElem hlt] at hy
     rcases List.mem_append.1 hy with h | h
     ·exact hg y h
     ·rw [List.mem_singleton.1 h]; exact ⟨h0, h1⟩)
    refine ⟨e, fun k hk => ?_, hh⟩
    obtain ⟨k, rfl⟩ : ∃ q, k = q + 1 := ⟨k - 1, by omega⟩
    rw [st, decide_eq_true h0, decide_eq_true h1]
    exact he k (by omega)
   ·refine ⟨2, fun k hk => ?_, fun h => by omega⟩
    obtain ⟨k, rfl⟩ : ∃ q, k = q + 1 := ⟨k - 1, by omega⟩
    rw [st, decide_eq_true h0, decide_eq_false h1]
    rfl
  ·refine ⟨2, fun k hk => ?_, fun h => by omega⟩
   obtain ⟨k, rfl⟩ : ∃ q, k = q + 1 := ⟨k - 1, by omega⟩
   rw [st, decide_eq_false h0]
   rfl
theorem gcheck_tot (E : List S58) (n : Int) (hl : E.length ≤ 20) : ∃ e, (∀ k, 100 ≤ k → zAi.f k n E = some e) ∧ (e = 0 → 0 ≤ n ∧ n ≤ 64 ∧ ∀ y ∈ E, inr n y) := by
 by_cases h0 : n < 0
 ·refine ⟨2, fun k hk => ?_, fun h => by omega⟩
  obtain ⟨k, rfl⟩ : ∃ q, k = q + 1 := ⟨k - 1, by omega⟩
  unfold zAi.f
  rw [if_pos h0, zAi.j0, if_pos rfl]
 ·by_cases h1 : n > 64
  ·refine ⟨2, fun k hk => ?_, fun h => by omega⟩
   obtain ⟨k, rfl⟩ : ∃ q, k = q + 1 := ⟨k - 1, by omega⟩
   unfold zAi.f
   rw [if_neg h0, decide_eq_true h1, zAi.j0, if_pos rfl]
  ·by_cases h2 : (E.length : Int) > wrap64 (n * n)
   ·refine ⟨6, fun k hk => ?_, fun h => by omega⟩
    obtain ⟨k, rfl⟩ : ∃ q, k = q + 1 := ⟨k - 1, by omega⟩
    unfold zAi.f
    rw [if_neg h0, decide_eq_false h1, zAi.j0, if_neg (by decide), if_pos h2]
   ·obtain ⟨e, he, hh⟩ := gl0 E n (by omega) E.length 0 (by omega) (fun y hy => by simp at hy)
    refine ⟨e, fun k hk => ?_, fun h => ⟨by omega, by omega, hh h⟩⟩
    obtain ⟨k, rfl⟩ : ∃ q, k = q + 1 := ⟨k - 1, by omega⟩
    unfold zAi.f
    rw [if_neg h0, decide_eq_false h1, zAi.j0, if_neg (by decide), if_neg h2]
    exact he k (by omega)
theorem e61_l (E : List S58) (a b : Int) (hl : E.length < 1000) : ∀ (c i : Nat), i + c = E.length → ∃ r : Int, (∀ k, c < k → zBk.l0 k E (E.length : Int) (i : Int) a b = some r) ∧ decide (r ≥ 0) = decide ((⟨a, b⟩ : S58) ∈ E.drop i)
 | 0, i, hi => by
  refine ⟨-1, fun k hk => ?_, ?_⟩
  ·obtain ⟨k, rfl⟩ : ∃ q, k = q + 1 := ⟨k - 1, by omega⟩
   rw [zBk.l0, if_neg (by omega)]
  ·rw [List.drop_eq_nil_of_le (by omega)]
   simp
 | c + 1, i, hi => by
  have hlt : i < E.length := by omega
  rw [List.drop_eq_getElem_cons hlt]
  by_cases he : E[i] = ⟨a, b⟩
  ·refine ⟨(i : Int), fun k hk => ?_, ?_⟩
   ·obtain ⟨k, rfl⟩ : ∃ q, k = q + 1 := ⟨k - 1, by omega⟩
    rw [zBk.l0, if_pos (by omega), if_pos (by omega), if_pos (by omega), rdE E i hlt, if_pos (by rw [he]; simp)]
   ·rw [he]
    simp
  ·obtain ⟨r, hr, hd⟩ := e61_l E a b hl c (i + 1) (by omega)
   refine ⟨r, fun k hk => ?_, ?_⟩
   ·obtain ⟨k, rfl⟩ : ∃ q, k = q + 1 := ⟨k - 1, by omega⟩
    rw [zBk.l0, if_pos (by omega), if_pos (by omega), if_pos (by omega), rdE E i hlt, if_neg (fun h => he (by
     rw [Bool.and_eq_true, beq_iff_eq, beq_iff_eq] at h
     exact extE h.1.symm h.2.symm)), wr1 i (by omega)]
    exact hr k (by omega)
   ·rw [hd]
    refine decide_eq_decide.2 ⟨fun h => List.mem_cons_of_mem _ h, fun h => ?_⟩
    rcases List.mem_cons.1 h with h | h
    ·exact absurd h.symm he
    ·exact h
theorem e41_f (E : List S58) (a b : Int) (hl : E.length < 1000) (k : Nat) (hk : E.length < k) : zCb.f k E a b = some (decide ((⟨a, b⟩ : S58) ∈ E)) := by
 obtain ⟨r, hr, hd⟩ := e61_l E a b hl E.length 0 (by omega)
 unfold zCb.f zBk.f
 rw [show zBk.l0 k E (E.length : Int) 0 a b = some r from hr k hk, Option.bind_some, hd, List.drop_zero]
theorem chkb_l (E : List S58) (n : Int) (hl : E.length ≤ 20) : ∀ (c i : Nat), i + c = E.length → ∃ e, (∀ k, 30 + c < k → zAy.l0 k E (E.length : Int) (i : Int) n E = some e) ∧ ∀ k, 30 + c < k → zB1.l0 k (i : Int) n E = some e
 | 0, i, hi => by
  refine ⟨0, fun k hk => ?_, fun k hk => ?_⟩
  ·obtain ⟨k, rfl⟩ : ∃ q, k = q + 1 := ⟨k - 1, by omega⟩
   rw [zAy.l0, if_neg (by omega)]
  ·obtain ⟨k, rfl⟩ : ∃ q, k = q + 1 := ⟨k - 1, by omega⟩
   rw [zB1.l0, if_neg (by omega)]
 | c + 1, i, hi => by
  have hlt : i < E.length := by omega
  have s1 : ∀ k, 30 + c < k → zAy.l0 (k + 1) E (E.length : Int) (i : Int) n E = if E[i].f0 = E[i].f1 then some 17 else (if decide ((⟨E[i].f1, E[i].f0⟩ : S58) ∈ E) = true then zAy.l0 k E (E.length : Int) ((i + 1 : Nat) : Int) n E else some 10) := fun k hk => by
   rw [zAy.l0, if_pos (by omega), if_pos (by omega), if_pos (by omega), rdE E i hlt, e41_f E _ _ (by omega) k (by omega), Option.bind_some, wr1 i (by omega)]
  have s2 : ∀ k, 30 + c < k → zB1.l0 (k + 1) (i : Int) n E = if E[i].f0 = E[i].f1 then some 17 else (if decide ((⟨E[i].f1, E[i].f0⟩ : S58) ∈ E) = true then zB1.l0 k ((i + 1 : Nat) : Int) n E else some 10) := fun k hk => by
   rw [zB1.l0, if_pos (by omega), if_pos (by omega), rdE E i hlt, touch_f k n E _ _ (by omega) (by omega), Option.bind_some, wr1 i (by omega)]
  obtain ⟨e, h1, h2⟩ := chkb_l E n hl c (i + 1) (by omega)
  have fin : ∀ e', (if E[i].f0 = E[i].f1 then some 17 else (if decide ((⟨E[i].f1, E[i].f0⟩ : S58) ∈ E) = true then some e else some 10)) = some e' → ∃ e, (∀ k, 30 + (c + 1) < k → zAy.l0 k E (E.length : Int) (i : Int) n E = some e) ∧ ∀ k, 30 + (c + 1) < k → zB1.l0 k (i : Int) n E = some e := fun e' he => by
   refine ⟨e', fun k hk => ?_, fun k hk => ?_⟩
   ·obtain ⟨k, rfl⟩ : ∃ q, k = q + 1 := ⟨k - 1, by omega⟩
    rw [s1 k (by omega), h1 k (by omega)]
    exact he
   ·obtain ⟨k, rfl⟩ : ∃ q, k = q + 1 := ⟨k - 1, by omega⟩
    rw [s2 k (by omega), h2 k (by omega)]
    exact he
  by_cases a : E[i].f0 = E[i].f1
  ·exact fin 17 (if_pos a)
  ·by_cases b : decide ((⟨E[i].f1, E[i].f0⟩ : S58) ∈ E) = true
   ·exact fin e (by rw [if_neg a, if_pos b])
   ·exact fin 10 (by rw [if_neg a, if_neg b])
theorem check_both (E : List S58) (n : Int) (hl : E.length ≤ 20) : ∃ e, (∀ k, 120 ≤ k → zAy.f k n E = some e) ∧ (∀ k, 120 ≤ k → zB1.f k n E = some e) ∧ (e = 0 → 0 ≤ n ∧ n ≤ 12 ∧ ∀ y ∈ E, inr n y) := by
 obtain ⟨e0, h1, h2⟩ := gcheck_tot E n hl
 by_cases h0 : e0 = 0
 ·subst h0
  obtain ⟨hn0, hn64, hin⟩ := h2 rfl
  by_cases h12 : n > 12
  ·refine ⟨6, fun k hk => ?_, fun k hk => ?_, fun h => by omega⟩
   ·unfold zAy.f
    rw [h1 k (by omega), Option.bind_some, if_pos rfl, if_pos h12]
   ·unfold zB1.f
    rw [h1 k (by omega), Option.bind_some, if_pos rfl, if_pos h12]
  ·obtain ⟨e, h3, h4⟩ := chkb_l E n (by omega) E.length 0 (by omega)
   refine ⟨e, fun k hk => ?_, fun k hk => ?_, fun _ => ⟨hn0, by omega, hin⟩⟩
   ·unfold zAy.f
    rw [h1 k (by omega), Option.bind_some, if_pos rfl, if_neg h12]
    exact h3 k (by omega)
   ·unfold zB1.f
    rw [h1 k (by omega), Option.bind_some, if_pos rfl, if_neg h12]
    exact h4 k (by omega)
 ·refine ⟨e0, fun k hk => ?_, fun k hk => ?_, fun h => absurd h h0⟩
  ·unfold zAy.f
   rw [h1 k (by omega), Option.bind_some, if_neg h0]
  ·unfold zB1.f
   rw [h1 k (by omega), Option.bind_some, if_neg h0]
theorem linked12_l {n : Nat} (E : List S58) (hE : ∀ y ∈ E, inr n y) (hl : E.length < 1000) : ∀ (c i : Nat) (B : List Nat), i + c = E.length → Gn n B → ∀ k, c < k → ∃ A, Gn n A ∧ zAw.l0 k (LI B) E (E.length : Int) (i : Int) = some (LI A)
 | 0, i, B, hi, hB, k, hk => by
  obtain ⟨k, rfl⟩ : ∃ q, k = q + 1 := ⟨k - 1, by omega⟩
  exact ⟨B, hB, by rw [zAw.l0, if_neg (by omega)]⟩
 | c + 1, i, B, hi, hB, k, hk => by
  obtain ⟨k, rfl⟩ : ∃ q, k = q + 1 := ⟨k - 1, by omega⟩
  have hlt : i < E.length := by omega
  obtain ⟨⟨h0, h1⟩, h2, h3⟩ := hE E[i] (List.getElem_mem hlt)
  have hn := hB.2.1
  obtain ⟨u, hu⟩ : ∃ u : Nat, E[i].f0 = (u : Int) := ⟨E[i].f0.toNat, by omega⟩
  obtain ⟨v, hv⟩ : ∃ v : Nat, E[i].f1 = (v : Int) := ⟨E[i].f1.toNat, by omega⟩
  have hun : u < n := by omega
  have hv12 : v < 12 := by omega
  have hBu := hB.lt u
  have h2v : 2 ^ v < 4096 := Nat.pow_lt_pow_right (m := v) (n := 12) (by decide) hv12
  have hG : Gn n (B.set u (B.getD u 0 ||| 2 ^ v)) := ⟨by rw [List.length_set]; exact hB.1, hn, fun a ha => by
   rcases List.mem_or_eq_of_mem_set ha with h | h
   ·exact hB.2.2 a h
   ·rw [h]; exact Nat.or_lt_two_pow (n := 12) hBu h2v⟩
  obtain ⟨A, hA, hf⟩ := linked12_l E hE hl c (i + 1) (B.set u (B.getD u 0 ||| 2 ^ v)) (by omega) hG k (by omega)
  have hset : (LI B).set u (((B.getD u 0 ||| 2 ^ v : Nat)) : Int) = LI (B.set u (B.getD u 0 ||| 2 ^ v)) := by
   unfold LI
   rw [List.map_set]
  refine ⟨A, hA, ?_⟩
  rw [zAw.l0, if_pos (by omega), if_pos (by omega), if_pos (by omega), rdE E i hlt, hu, hv, if_pos (by omega), if_pos (by rw [LIn_len hB]; omega), if_pos (by omega), rdN hB u hun, shlJ v hv12, orJ _ _ hBu h2v, Int.toNat_natCast, hset, wr1 i (by omega)]
  exact hf
theorem linked12_f {n : Nat} (hn : n ≤ 12) (E : List S58) (hE : ∀ y ∈ E, inr n y) (hl : E.length ≤ 20) : ∃ A, Gn n A ∧ ∀ k, 100 ≤ k → zAw.f k (n : Int) E = some (LI A) := by
 have hz : Gn n (List.replicate n 0) := ⟨List.length_replicate, hn, fun a ha => by rw [List.eq_of_mem_replicate ha]; decide⟩
 obtain ⟨A, hA, hf⟩ := linked12_l E hE (by omega) E.length 0 (List.replicate n 0) (by omega) hz 100 (by omega)
 refine ⟨A, hA, fun k hk => ?_⟩
 have h0 : zAw.f 100 (n : Int) E = some (LI A) := by
  unfold zAw.f
  rw [if_pos (by omega), Int.toNat_natCast, if_pos (by omega)]
  have e : (List.replicate n (0 : Int)) = LI (List.replicate n 0) := by unfold LI; rw [List.map_replicate]; rfl
  rw [e]
  exact hf
 exact up (fun k => zAw.mono (n : Int) E k) h0 k hk
end
end Go.Proofs.YtbghfbhlbfcloaaGreatDoor.PL
namespace Go.Proofs
section
set_option linter.unusedVariables false
set_option linter.unusedSimpArgs false
open Go.Shelf
def Tryz.contG_ren : Go.Shelf.Ren := ⟨fun | 8 => 66 | 6 => 101 | n => n, fun | 22 => 61 | 23 => 60 | 25 => 102 | 4 => 4 | 3 => 3 | 0 => 0 | n => n, fun | n => n⟩
theorem Tryz.contG : Go.Proofs.SlLaysH0.n8 Tryz.prog Tryz.contG_ren := {
 mixed := by kernel_rfl
 f6 := ⟨Tryz.f101.name, by decide, Tryz.func101.trans (congrArg some (by kernel_rfl))⟩
 f8 := ⟨Tryz.f66.name, by decide, Tryz.func66.trans (congrArg some (by kernel_rfl))⟩
 t0 := Tryz.underlying0
 a0 := Tryz.isAgg0
 z0 := Tryz.sizeOf0
 v0 := Tryz.zeroValue0
 t3 := Tryz.underlying3
 a3 := Tryz.isAgg3
 z3 := Tryz.sizeOf3
 v3 := Tryz.zeroValue3
 t4 := Tryz.underlying4
 a4 := Tryz.isAgg4
 z4 := Tryz.sizeOf4
 v4 := Tryz.zeroValue4
 t22 := Tryz.underlying61
 a22 := Tryz.isAgg61
 z22 := Tryz.sizeOf61
 v22 := Tryz.zeroValue61
 t25 := Tryz.underlying102
 a25 := Tryz.isAgg102
 z25 := Tryz.sizeOf102
 v25 := Tryz.zeroValue102 }
def Tryz.contS_ren : Go.Shelf.Ren := ⟨fun | 17 => 99 | 15 => 113 | 20 => 117 | n => n, fun | 9 => 9 | 23 => 123 | 4 => 4 | 3 => 3 | 0 => 0 | 21 => 21 | n => n, fun | n => n⟩
theorem Tryz.contS : Go.Proofs.LaysGw.n17 Tryz.prog Tryz.contS_ren := {
 mixed := by kernel_rfl
 f15 := Tryz.func113.trans (congrArg some (by kernel_rfl))
 f17 := Tryz.func99.trans (congrArg some (by kernel_rfl))
 f20 := Tryz.func117.trans (congrArg some (by kernel_rfl))
 t0 := Tryz.underlying0
 a0 := Tryz.isAgg0
 z0 := Tryz.sizeOf0
 v0 := Tryz.zeroValue0
 i0 := by kernel_rfl
 t3 := Tryz.underlying3
 a3 := Tryz.isAgg3
 z3 := Tryz.sizeOf3
 v3 := Tryz.zeroValue3
 i3 := by kernel_rfl
 t4 := Tryz.underlying4
 a4 := Tryz.isAgg4
 z4 := Tryz.sizeOf4
 v4 := Tryz.zeroValue4
 i4 := by kernel_rfl
 t9 := Tryz.underlying9
 a9 := Tryz.isAgg9
 z9 := Tryz.sizeOf9
 v9 := Tryz.zeroValue9
 i9 := by kernel_rfl
 t21 := Tryz.underlying21
 a21 := Tryz.isAgg21
 z21 := Tryz.sizeOf21
 v21 := Tryz.zeroValue21
 i21 := by kernel_rfl
 t23 := Tryz.underlying123
 a23 := Tryz.isAgg123
 z23 := Tryz.sizeOf123
 v23 := Tryz.zeroValue123
 i23 := by kernel_rfl }
end
end Go.Proofs
namespace Go.Proofs.YtbghfbhlbfcloaaGreatDoor.PL
section
open Go.RowKit Go.Proofs.YtbghfbhlbfcloaaGreatDoorW.PrintWords Go.Proofs.YtbghfbhlbfcloaaGreatDoorW.PrintLast Go.Proofs.YtbghfbhlbfcloaaGreatDoorW.PrintMore
attribute [local go_sem] zBu zBs zC3 zC2 zBn zBm zBt zBr   -- for this text's walks alone
set_option linter.unusedVariables false
set_option linter.unusedSimpArgs false
def zBd.l0 : Nat → List Int → List Int → Int → Int → Option (Bool)
 | 0, _, _, _, _ => none
 | k + 1, x0, x1, x12, x13 => if x13 < x12 then (if 0 ≤ x13 then (if x13 < (x0.length : Int) then (if x13 < (x1.length : Int) then (if (rd x0 x13) = (rd x1 x13) then (zBd.l0 k x0 x1 x12 (wrap64 (x13 + 1))) else (some false)) else (none)) else (none)) else (none)) else (some true)
def zBd.f (k : Nat) (l0 : List Int) (l1 : List Int) : Option (Bool) := if (l0.length : Int) = (l1.length : Int) then (zBd.l0 k l0 l1 (l0.length : Int) 0) else (some false)
theorem zBd.zBv : ∀ k, (∀ y0 y1 y2 y3, LeO (zBd.l0 k y0 y1 y2 y3) (zBd.l0 (k + 1) y0 y1 y2 y3))
 | 0 => fun _ _ _ _ r h => by simp [zBd.l0] at h
 | k + 1 => by
  have ih0 := zBd.zBv k
  ·intro y0 y1 y2 y3
   unfold zBd.l0
   repeat' first
   | (with_reducible exact ih0 _ _ _ _)
   | (with_reducible exact LeO.refl _)
   | (with_reducible exact LeO.none _)
   | (with_reducible refine LeO.ite ?_ ?_)
   | (with_reducible refine LeO.bind ?_ (fun _ => ?_))
theorem zBd.mono : ∀ a0 a1 k, LeO (zBd.f k a0 a1) (zBd.f (k + 1) a0 a1) := by
 intro a0 a1 k
 have ih0 := zBd.zBv k
 unfold zBd.f
 repeat' first
   | (with_reducible exact ih0 _ _ _ _)
   | (with_reducible exact LeO.refl _)
   | (with_reducible exact LeO.none _)
   | (with_reducible refine LeO.ite ?_ ?_)
   | (with_reducible refine LeO.bind ?_ (fun _ => ?_))
set_option maxHeartbeats 8000000 in
set_option maxRecDepth 100000 in
theorem zBd.calls (k : Nat) (A0 : Option Addr) (c0 : Nat) (l0 : List Int) (A1 : Option Addr) (c1 : Nat) (l1 : List Int) (r : Bool) (w : World) (hr0 : Kd.C (Kd.int .i64) w A0 l0.length l0) (hc0 : l0.length ≤ c0) (hr1 : Kd.C (Kd.int .i64) w A1 l1.length l1) (hc1 : l1.length ≤ c1) (h : zBd.f k l0 l1 = some r) :
  Calls Tryz.prog 69 #[.slice A0 l0.length c0, .slice A1 l1.length c1] w fun e w' => e = .returned (.bool r) ∧ zB0 w w' := by
 have HR0 := zA2.mk hr0
 have HC0 := zA2.mk hc0
 clear hr0 hc0
 have HR1 := zA2.mk hr1
 have HC1 := zA2.mk hc1
 clear hr1 hc1
 have H : (if (l0.length : Int) = (l1.length : Int) then (zBd.l0 k l0 l1 (l0.length : Int) 0) else (some false)) = some r := h
 clear h
 by_cases c3 : (l0.length : Int) = (l1.length : Int)
 ·rw [if_pos c3] at H
  have c3b0 : ((l0.length : Int) == (l1.length : Int)) = true := beq_iff_eq.mpr c3
  have c3b1 : ((l0.length : Int) != (l1.length : Int)) = false := bne_eq_false_iff_eq.mpr c3
  have c3b2 : (l0.length == l1.length) = true := by first | simpa using c3 | (simp at c3 ⊢; omega)
  clear c3
  have H' := zA2.mk H
  clear H
  go_enter Tryz.func69, Tryz.ntmps69
  go_wp2
  repeat (go_quiet (fail); try go_wp2)
  go_loopg [13] k (fun kq v13 w' => ∃ (x13_1 : Int), v13 = .int .i64 x13_1 ∧ zA2 (zBd.l0 kq l0 l1 (l0.length : Int) x13_1 = some r) ∧ zA2 (kq ≤ k) ∧ zB0 w w')
  case atStart => exact ⟨(0), (by first | rfl | (simp; done) | (simp [*]; done)), H', ⟨Nat.le_refl _⟩, by repeat (first | exact zB0.refl _ | apply zB0.step)⟩
  case round =>
   clear H'
   try clear c1
   try clear p2
   try clear c3
   try clear c3b0
   try clear c3b1
   try clear c3b2
   obtain ⟨x13_1, rfl, HA, HK1, ⟨m1, rfl⟩⟩ := hrel
   cases gk with
   | zero => exact absurd HA.out (by simp [zBd.l0])
   | succ k1 =>
    have H := HA.out
    clear HA
    simp only [zBd.l0] at H
    by_cases c4 : x13_1 < (l0.length : Int)
    ·rw [if_pos c4] at H
     have c4b0 : decide (x13_1 < (l0.length : Int)) = true := decide_eq_true c4
     clear c4
     by_cases c5 : 0 ≤ x13_1
     rotate_left
     ·rw [if_neg c5] at H
      exact absurd H (by simp)
     rw [if_pos c5] at H
     have c5b0 : decide (0 ≤ x13_1) = true := decide_eq_true c5
     clear c5
     by_cases c6 : x13_1 < (l0.length : Int)
     rotate_left
     ·rw [if_neg c6] at H
      exact absurd H (by simp)
     rw [if_pos c6] at H
     have c6b0 : decide (x13_1 < (l0.length : Int)) = true := decide_eq_true c6
     clear c6
     by_cases c7 : x13_1 < (l1.length : Int)
     rotate_left
     ·rw [if_neg c7] at H
      exact absurd H (by simp)
     rw [if_pos c7] at H
     have c7b0 : decide (x13_1 < (l1.length : Int)) = true := decide_eq_true c7
     clear c7
     by_cases c8 : (rd l0 x13_1) = (rd l1 x13_1)
     ·rw [if_pos c8] at H
      have c8b0 : ((rd l0 x13_1) == (rd l1 x13_1)) = true := beq_iff_eq.mpr c8
      have c8b1 : ((rd l0 x13_1) != (rd l1 x13_1)) = false := bne_eq_false_iff_eq.mpr c8
      clear c8
      have H' := zA2.mk H
      clear H
      have p197 : 0 ≤ (x13_1 : Int) := of_decide_eq_true (by first | (with_reducible assumption) | assumption)
      have q197 : x13_1 < (l0.length : Int) := of_decide_eq_true (by first | (with_reducible assumption) | assumption)
      obtain ⟨ad197, e197, hx197_0⟩ := Kd.zC6 HR0.out x13_1 p197 q197
      cases e197
      replace p197 := eq_true p197
      replace q197 := eq_true q197
      have p198 : 0 ≤ (x13_1 : Int) := of_decide_eq_true (by first | (with_reducible assumption) | assumption)
      have q198 : x13_1 < (l1.length : Int) := of_decide_eq_true (by first | (with_reducible assumption) | assumption)
      obtain ⟨ad198, e198, hx198_0⟩ := Kd.zC6 HR1.out x13_1 p198 q198
      cases e198
      replace p198 := eq_true p198
      replace q198 := eq_true q198
      go_wp2
      repeat (go_quiet (fail); try go_wp2)
      go_roundg k1
      case measure => have := HK1.out; omega
      case rel => exact ⟨(wrap64 (x13_1 + 1)), (by first | rfl | (simp; done) | (simp [*]; done)), H', ⟨by have := HK1.out; omega⟩, by repeat (first | exact zB0.refl _ | apply zB0.step)⟩
     ·rw [if_neg c8] at H
      have c8b0 : ((rd l0 x13_1) == (rd l1 x13_1)) = false := beq_eq_false_iff_ne.mpr c8
      have c8b1 : ((rd l0 x13_1) != (rd l1 x13_1)) = true := bne_iff_ne.mpr c8
      obtain rfl := Option.some.inj H
      have p197 : 0 ≤ (x13_1 : Int) := of_decide_eq_true (by first | (with_reducible assumption) | assumption)
      have q197 : x13_1 < (l0.length : Int) := of_decide_eq_true (by first | (with_reducible assumption) | assumption)
      obtain ⟨ad197, e197, hx197_0⟩ := Kd.zC6 HR0.out x13_1 p197 q197
      cases e197
      replace p197 := eq_true p197
      replace q197 := eq_true q197
      have p198 : 0 ≤ (x13_1 : Int) := of_decide_eq_true (by first | (with_reducible assumption) | assumption)
      have q198 : x13_1 < (l1.length : Int) := of_decide_eq_true (by first | (with_reducible assumption) | assumption)
      obtain ⟨ad198, e198, hx198_0⟩ := Kd.zC6 HR1.out x13_1 p198 q198
      cases e198
      replace p198 := eq_true p198
      replace q198 := eq_true q198
      go_wp2
      repeat (go_quiet (fail); try go_wp2)
      go_ret
      exact ⟨by first | rfl | (simp; done) | (simp [*]; done), by repeat (first | exact zB0.refl _ | apply zB0.step)⟩
    ·rw [if_neg c4] at H
     have c4b0 : decide (x13_1 < (l0.length : Int)) = false := decide_eq_false c4
     clear c4
     obtain rfl := Option.some.inj H
     go_wp2
     repeat (go_quiet (fail); try go_wp2)
     go_ret
     exact ⟨by first | rfl | (simp; done) | (simp [*]; done), by repeat (first | exact zB0.refl _ | apply zB0.step)⟩
 ·rw [if_neg c3] at H
  have c3b0 : ((l0.length : Int) == (l1.length : Int)) = false := beq_eq_false_iff_ne.mpr c3
  have c3b1 : ((l0.length : Int) != (l1.length : Int)) = true := bne_iff_ne.mpr c3
  have c3b2 : (l0.length == l1.length) = false := by first | simpa using c3 | (simp at c3 ⊢; omega)
  obtain rfl := Option.some.inj H
  go_enter Tryz.func69, Tryz.ntmps69
  go_wp2
  repeat (go_quiet (fail); try go_wp2)
  go_ret
  exact ⟨by first | rfl | (simp; done) | (simp [*]; done), by repeat (first | exact zB0.refl _ | apply zB0.step)⟩
end
end Go.Proofs.YtbghfbhlbfcloaaGreatDoor.PL
namespace Go.Proofs.YtbghfbhlbfcloaaGreatDoor.PL
section
open Go.RowKit Go.Proofs.YtbghfbhlbfcloaaGreatDoorW.PrintWords Go.Proofs.YtbghfbhlbfcloaaGreatDoorW.PrintLast Go.Proofs.YtbghfbhlbfcloaaGreatDoorW.PrintMore
set_option linter.unusedVariables false
set_option linter.unusedSimpArgs false
set_option maxHeartbeats 1000000 in
theorem clo57 (B : Nat) (s y0 : ByteArray) (v : Value) (W : World) (hc : W.cell? ⟨B, 0, none⟩ = some (.string s)) (A : Option Addr) (n c : Nat) (hv : v = .slice A n c) :
  Calls Tryz.prog 67 #[.agg #[.string y0, v], .pointer (some ⟨B, 0, none⟩)] W fun e w' => e = .returned (.bool (y0.toList == s.toList)) ∧ Below W.heap.size W w' := by
 subst hv
 have hu57 := Tryz.underlying60
 have hlt := World.block_lt_of_cell? W _ hc
 have hc2 := (zA1 (Below.refl W.heap.size W) (.cells #[.string y0, .slice A n c] 60)).cell (p := ⟨B, 0, none⟩) hlt
 rw [hc] at hc2
 go_enter Tryz.func67, Tryz.ntmps67
 go_wp2
 go_ret
 exact ⟨rfl, zA1 (Below.refl _ _) _⟩
set_option maxHeartbeats 1000000 in
theorem clo59 (k : Nat) (B : Nat) (y0 : ByteArray) (xs ys : List Int) (A A' : Option Addr) (c c' : Nat) (r : Bool) (W : World) (hc : W.cell? ⟨B, 1, none⟩ = some (.slice A xs.length c)) (hx : Kd.C (Kd.int .i64) W A xs.length xs) (hxc : xs.length ≤ c) (hy : Kd.C (Kd.int .i64) W A' ys.length ys) (hyc : ys.length ≤ c')
  (h : zBd.f k xs ys = some r) :
  Calls Tryz.prog 68 #[.agg #[.string y0, .slice A' ys.length c'], .pointer (some ⟨B, 0, none⟩)] W fun e w' => e = .returned (.bool r) ∧ Below W.heap.size W w' := by
 have hu57 := Tryz.underlying60
 have hlt := World.block_lt_of_cell? W _ hc
 have hc2 := (zA1 (Below.refl W.heap.size W) (.cells #[.string y0, .slice A' ys.length c'] 60)).cell (p := ⟨B, 1, none⟩) hlt
 rw [hc] at hc2
 have HE := zA2.mk (zBd.calls k A c xs A' c' ys r (W.alloc (.cells #[.string y0, .slice A' ys.length c'] 60)) (Kd.zAj hx _) hxc (Kd.zAj hy _) hyc h)
 clear hx hy hxc hyc h
 go_enter Tryz.func68, Tryz.ntmps68
 go_wp2_with (go_at_call 69; refine HE.out.mono ?_; rintro e w' ⟨rfl, ⟨nd, rfl⟩⟩)
 go_ret
 exact ⟨rfl, zA0 (zA1 (Below.refl _ _) _) _⟩
end
end Go.Proofs.YtbghfbhlbfcloaaGreatDoor.PL
namespace Go.Proofs.YtbghfbhlbfcloaaGreatDoor.PL
section
open Go.RowKit Go.Proofs Go.Proofs.YtbghfbhlbfcloaaGreatDoorW.PrintWords Go.Proofs.YtbghfbhlbfcloaaGreatDoorW.PrintLast Go.Proofs.YtbghfbhlbfcloaaGreatDoorW.PrintMore
set_option linter.unusedVariables false
set_option linter.unusedSimpArgs false
def badR (r : Nat) : Bool := decide (r < 33) || decide (126 < r)
def nameB (s : ByteArray) : Bool := decide (0 < s.size) && decide (s.size ≤ 40) && !(decide (0 ≤ Lib.idxFunc badR true s))
theorem pred76 (w : World) : PredAt Tryz.prog 100 #[] encR badR w := fun W r _ => by
 unfold FnGives
 by_cases h1 : (r : Int) < 33
 ·have h2 : r < 33 := by omega
  go_enter Tryz.func100, Tryz.ntmps100
  go_wp2
  go_ret
  exact ⟨by simp [badR, h2], 0, rfl⟩
 ·have h2 : ¬ r < 33 := by omega
  by_cases h3 : (126 : Int) < r
  ·have h4 : 126 < r := by omega
   go_enter Tryz.func100, Tryz.ntmps100
   go_wp2
   go_ret
   exact ⟨by simp [badR, h4], 0, rfl⟩
  ·have h4 : ¬ 126 < r := by omega
   go_enter Tryz.func100, Tryz.ntmps100
   go_wp2
   go_ret
   exact ⟨by simp [badR, h2, h4], 0, rfl⟩
theorem contS (s : ByteArray) (w : World) : Calls Tryz.prog 99 #[.string s, .func (.func 100) #[] #[]] w fun e w' => e = .returned (.bool (decide (0 ≤ Lib.idxFunc badR true s))) ∧ Below w.heap.size w w' :=
 Any.strings_ContainsFunc Tryz.contS 100 #[] (enters_of Tryz.func100 (by kernel_rfl) rfl) badR s w (pred76 w)
set_option maxHeartbeats 1000000 in
theorem nameC (s : ByteArray) (w : World) : Calls Tryz.prog 65 #[.string s] w fun e w' => e = .returned (.bool (nameB s)) ∧ Below w.heap.size w w' := by
 have HC := zA2.mk (fun w => contS s w)
 by_cases h1 : (0 : Int) < s.size
 ·by_cases h2 : (s.size : Int) ≤ 40
  ·go_enter Tryz.func65, Tryz.ntmps65
   go_wp2_with (go_at_call 99; refine (HC.out _).mono ?_; rintro e w' ⟨rfl, hb⟩)
   go_ret
   have e : nameB s = !decide (0 ≤ Lib.idxFunc badR true s) := by unfold nameB; rw [decide_eq_true (show 0 < s.size by omega), decide_eq_true (show s.size ≤ 40 by omega)]; rfl
   exact ⟨by rw [e]; rfl, hb⟩
  ·have e : nameB s = false := by unfold nameB; rw [decide_eq_false (show ¬ s.size ≤ 40 by omega), Bool.and_false]; rfl
   go_enter Tryz.func65, Tryz.ntmps65
   go_wp2
   go_ret
   exact ⟨rfl, Below.refl _ _⟩
 ·have e : nameB s = false := by unfold nameB; rw [decide_eq_false (show ¬ 0 < s.size by omega)]; rfl
  go_enter Tryz.func65, Tryz.ntmps65
  go_wp2
  go_ret
  exact ⟨rfl, Below.refl _ _⟩
theorem any_take_succ {l : List S60} {p : S60 → Bool} {x : Nat} (h : x < l.length) : (l.take (x + 1)).any p = ((l.take x).any p || p (zAo l (x : Int))) := by
 rw [List.take_succ_eq_append_getElem h, List.any_append]
 simp only [List.any_cons, List.any_nil, Bool.or_false]
 unfold zAo
 rw [Int.toNat_natCast, List.getD_eq_getElem?_getD, List.getElem?_eq_getElem h]
 rfl
theorem any_take_false {l : List S60} {p : S60 → Bool} {x i : Nat} (hx : x < i) (hi : i ≤ l.length) (h : p (zAo l (x : Int)) = true) : (l.take i).any p = true := by
 rw [List.any_eq_true]
 refine ⟨zAo l (x : Int), ?_, h⟩
 unfold zAo
 rw [Int.toNat_natCast, List.getD_eq_getElem?_getD, List.getElem?_eq_getElem (by omega)]
 rw [List.mem_iff_getElem?]
 exact ⟨x, by rw [List.getElem?_take_of_lt hx, List.getElem?_eq_getElem (by omega)]; rfl⟩
theorem rd_mem57 {l : List S60} {x : Nat} (h : x < l.length) : zAo l (x : Int) ∈ l := by
 unfold zAo
 rw [Int.toNat_natCast, List.getD_eq_getElem?_getD, List.getElem?_eq_getElem h]
 exact List.getElem_mem h
theorem idxG (A : Option Addr) (cc i : Nat) (l : List S60) (g : Nat) (lb : Array Value) (p : S60 → Bool) (w : World) (hr : Kd.C k60 w A l.length l) (hi : i ≤ l.length) (hl : l.length < 1000000) (eg : ∀ args w, (callFunc g args).run Tryz.prog w = .ok (.enter g args) w)
  (hp : ∀ (W : World) (y : S60) (cy : List Value), y ∈ l → Below w.heap.size w W → k60.K W y cy → Calls Tryz.prog g (#[.agg cy.toArray] ++ lb) W fun e w' => e = .returned (.bool (p y)) ∧ Below W.heap.size W w') :
  Calls Tryz.prog 101 #[.slice A i cc, .func (.func g) #[] lb] w fun e w' => ∃ r : Int, e = .returned (.int .i64 r) ∧ decide (0 ≤ r) = (l.take i).any p ∧ Below w.heap.size w w' := by
 have HP := zA2.mk hp
 have HR := zA2.mk hr
 have HL := zA2.mk hl
 clear hp hr hl
 have hu57 := Tryz.underlying60
 go_enter Tryz.func101, Tryz.ntmps101
 go_wp2
 go_loopw [8] (fun v8 wr => ∃ x : Int, v8 = .int .i64 x ∧ 0 ≤ x ∧ x ≤ i ∧ zA2 ((l.take x.toNat).any p = false) ∧ zA2 (Below w.heap.size w wr)) (fun v8 _ => i - (intOf v8).toNat)
 case atStart => exact ⟨0, rfl, by omega, by omega, ⟨rfl⟩, ⟨Below.refl _ _⟩⟩
 case round =>
  obtain ⟨x, rfl, hx0, hxi, HN, HB⟩ := hrel
  have hle : (i : Int) < 1000000 := by have := HL.out; omega
  by_cases hlt : x < i
  ·obtain ⟨y, hy⟩ : ∃ y : Nat, (y : Int) = x := ⟨x.toNat, by omega⟩
   obtain ⟨ad, A1, c1, rfl, ha0, ha1, hc1, hC1⟩ := at_T60 HR.out x (by omega) (by omega)
   have hb0 := (HB.out.cell (World.block_lt_of_cell? w _ ha0)).trans ha0
   have hb1 := (HB.out.cell (World.block_lt_of_cell? w _ ha1)).trans ha1
   have hmem : zAo l x ∈ l := by rw [← hy]; exact rd_mem57 (by omega)
   have HK := zA2.mk (HP.out wr (zAo l x) [.string (zAo l x).f0, .slice A1 (zAo l x).f1.length c1] hmem HB.out (k60_mk wr (zAo l x) hc1 (Kd.zAk hC1 HB.out)))
   clear ha0 ha1 hC1 hc1 hmem
   by_cases hpy : p (zAo l x) = true
   ·have HQ := zA2.mk (any_take_false (x := y) (i := i) (by omega) hi (by rw [hy]; exact hpy))
    rw [hpy] at HK
    clear hpy hy
    generalize (zAo l x).f0 = s0 at hb0 HK
    generalize (zAo l x).f1.length = n1 at hb1 HK
    go_wp2_with (go_at_fn g; refine HK.out.mono ?_; rintro e w2 ⟨rfl, hb2⟩)
    go_ret
    exact ⟨x, rfl, by rw [HQ.out]; exact decide_eq_true hx0, HB.out.trans (hb2.mono HB.out.size)⟩
   ·have HQ := zA2.mk (any_take_succ (x := y) (l := l) (p := p) (by omega))
    rw [hy] at HQ
    have hpf : p (zAo l x) = false := by simpa using hpy
    have e1 : (x + 1).toNat = y + 1 := by omega
    have e0 : x.toNat = y := by omega
    rw [hpf] at HK
    have HN2 : zA2 ((l.take (x + 1).toNat).any p = false) := ⟨by rw [e1, HQ.out, ← e0, HN.out, hpf]; rfl⟩
    clear hpy hy HQ hpf e1 e0
    generalize (zAo l x).f0 = s0 at hb0 HK
    generalize (zAo l x).f1.length = n1 at hb1 HK
    go_wp2_with (go_at_fn g; refine HK.out.mono ?_; rintro e w2 ⟨rfl, hb2⟩)
    go_roundw
    case rel => exact ⟨x + 1, by go_num, by omega, by omega, HN2, ⟨HB.out.trans (hb2.mono HB.out.size)⟩⟩
    case measure => simp [intOf]; omega
  ·go_wp2
   go_ret
   have e : x.toNat = i := by omega
   exact ⟨-1, rfl, by rw [← e, HN.out]; rfl, HB.out⟩
theorem contG (A : Option Addr) (cc i : Nat) (l : List S60) (g : Nat) (lb : Array Value) (p : S60 → Bool) (w : World) (hr : Kd.C k60 w A l.length l) (hi : i ≤ l.length) (hl : l.length < 1000000) (eg : ∀ args w, (callFunc g args).run Tryz.prog w = .ok (.enter g args) w)
  (hp : ∀ (W : World) (y : S60) (cy : List Value), y ∈ l → Below w.heap.size w W → k60.K W y cy → Calls Tryz.prog g (#[.agg cy.toArray] ++ lb) W fun e w' => e = .returned (.bool (p y)) ∧ Below W.heap.size W w') :
  Calls Tryz.prog 66 #[.slice A i cc, .func (.func g) #[] lb] w fun e w' => e = .returned (.bool ((l.take i).any p)) ∧ Below w.heap.size w w' := by
 have HI := zA2.mk (idxG A cc i l g lb p w hr hi hl eg hp)
 clear hp hr
 go_enter Tryz.func66, Tryz.ntmps66
 go_wp2_with (go_at_call 101; refine HI.out.mono ?_; rintro e w2 ⟨r, rfl, hd, hb⟩)
 go_ret
 exact ⟨rfl, hb⟩
end
end Go.Proofs.YtbghfbhlbfcloaaGreatDoor.PL
namespace Go.Proofs.YtbghfbhlbfcloaaGreatDoor.PL
section
open Go.RowKit Go.Proofs Go.Proofs.YtbghfbhlbfcloaaGreatDoorW.PrintWords Go.Proofs.YtbghfbhlbfcloaaGreatDoorW.PrintLast Go.Proofs.YtbghfbhlbfcloaaGreatDoorW.PrintMore
set_option linter.unusedVariables false
set_option linter.unusedSimpArgs false
def CG.k : Nat := 200
theorem equal_l (xs ys : List Int) (hxy : xs.length = ys.length) (hl : xs.length ≤ 150) : ∀ (k i : Nat), i ≤ xs.length → xs.length - i < k → zBd.l0 k xs ys (xs.length : Int) (i : Int) = some (decide (xs.drop i = ys.drop i))
 | 0, i, _, h => absurd h (Nat.not_lt_zero _)
 | k + 1, i, hi, h => by
  unfold zBd.l0
  by_cases hlt : i < xs.length
  ·have ih := equal_l xs ys hxy hl k (i + 1) (by omega) (by omega)
   have h2 : i < ys.length := by omega
   rw [if_pos (by omega), if_pos (by omega), if_pos (by omega), if_pos (by omega)]
   have ex : xs.drop i = (Go.Proofs.YtbghfbhlbfcloaaGreatDoorW.PrintWords.rd xs i) :: xs.drop (i + 1) := by
    rw [List.drop_eq_getElem_cons hlt]
    unfold Go.Proofs.YtbghfbhlbfcloaaGreatDoorW.PrintWords.rd
    rw [Int.toNat_natCast, List.getD_eq_getElem?_getD, List.getElem?_eq_getElem hlt]
    rfl
   have ey : ys.drop i = (Go.Proofs.YtbghfbhlbfcloaaGreatDoorW.PrintWords.rd ys i) :: ys.drop (i + 1) := by
    rw [List.drop_eq_getElem_cons h2]
    unfold Go.Proofs.YtbghfbhlbfcloaaGreatDoorW.PrintWords.rd
    rw [Int.toNat_natCast, List.getD_eq_getElem?_getD, List.getElem?_eq_getElem h2]
    rfl
   rw [ex, ey]
   by_cases he : Go.Proofs.YtbghfbhlbfcloaaGreatDoorW.PrintWords.rd xs (i : Int) = Go.Proofs.YtbghfbhlbfcloaaGreatDoorW.PrintWords.rd ys (i : Int)
   ·rw [if_pos he, he]
    have hw : wrap64 ((i : Int) + 1) = ((i + 1 : Nat) : Int) := by
     unfold wrap64
     omega
    rw [hw, ih]
    congr 1
    simp
   ·rw [if_neg he]
    rw [decide_eq_false (fun e => he (by injection e))]
  ·rw [if_neg (by omega)]
   have h1 : xs.drop i = [] := List.drop_eq_nil_of_le (by omega)
   have h2 : ys.drop i = [] := List.drop_eq_nil_of_le (by omega)
   rw [h1, h2]
   simp
theorem equal_f (xs ys : List Int) (hl : xs.length ≤ 150) : zBd.f CG.k xs ys = some (decide (xs = ys)) := by
 unfold zBd.f
 by_cases h : xs.length = ys.length
 ·rw [if_pos (by omega)]
  have := equal_l xs ys h hl CG.k 0 (Nat.zero_le _) (by unfold CG.k; omega)
  simpa using this
 ·rw [if_neg (by omega), decide_eq_false (fun e => h (by rw [e]))]
def CG.cross (m o : Int) : Bool := decide (Go.bits .and .u64 o m ≠ 0) && decide (Go.bits .and .u64 o m ≠ m) && decide (Go.bits .and .u64 o m ≠ o)
def CG.inn (m : Int) : List S60 → Option Bool
 | [] => some false
 | y :: r => (zAt.f CG.k y.f1).bind fun o => if CG.cross m o = true then some true else CG.inn m r
def CG.one (l : List S60) (n : Int) (i : Nat) (x : S60) : Option Int :=
 if nameB x.f0 = false then some 11 else
 if (l.take i).any (fun y => y.f0.toList == x.f0.toList) = true then some 9 else
 if (x.f1.length : Int) < 2 then some 7 else
 (zAn.f CG.k x.f1 n).bind fun e => if e ≠ 0 then some e else
 if (l.take i).any (fun y => decide (x.f1 = y.f1)) = true then some 9 else
 (zAt.f CG.k x.f1).bind fun m => (CG.inn m (l.take i)).bind fun b => if b = true then some 17 else some 0
def CG.go (l : List S60) (n : Int) : Nat → List S60 → Option Int
 | _, [] => some 0
 | i, x :: r => (CG.one l n i x).bind fun e => if e = 0 then CG.go l n (i + 1) r else some e
def CG.f (l : List S60) (n : Int) : Option Int :=
 if n < 0 ∨ 12 < n then some 2 else if 32 < (l.length : Int) then some 6 else if (l.all fun x => decide (x.f1.length ≤ 150)) = true then CG.go l n 0 l else none
theorem drop57 (l : List S60) (x : Int) (h0 : 0 ≤ x) (h1 : x < l.length) : l.drop x.toNat = zAo l x :: l.drop (x + 1).toNat := by
 rw [show (x + 1).toNat = x.toNat + 1 by omega, List.drop_eq_getElem_cons (show x.toNat < l.length by omega)]
 unfold zAo
 rw [List.getD_eq_getElem?_getD, List.getElem?_eq_getElem (show x.toNat < l.length by omega)]
 rfl
end
end Go.Proofs.YtbghfbhlbfcloaaGreatDoor.PL
namespace Go.Proofs.YtbghfbhlbfcloaaGreatDoor.PL
section
open Go.RowKit Go.Proofs Go.Proofs.YtbghfbhlbfcloaaGreatDoorW.PrintWords Go.Proofs.YtbghfbhlbfcloaaGreatDoorW.PrintLast Go.Proofs.YtbghfbhlbfcloaaGreatDoorW.PrintMore
set_option linter.unusedVariables false
set_option linter.unusedSimpArgs false
theorem e57 : ∀ args w, (callFunc 67 args).run Tryz.prog w = .ok (.enter 67 args) w := enters_of Tryz.func67 (by kernel_rfl) rfl
theorem e59 : ∀ args w, (callFunc 68 args).run Tryz.prog w = .ok (.enter 68 args) w := enters_of Tryz.func68 (by kernel_rfl) rfl
set_option maxRecDepth 100000 in
set_option maxHeartbeats 4000000 in
theorem CG.calls (A0 : Option Addr) (c0 : Nat) (l0 : List S60) (a1 : Int) (r : Int) (w : World) (hr0 : Kd.C k60 w A0 l0.length l0) (hc0 : l0.length ≤ c0) (h : CG.f l0 a1 = some r) :
  Calls Tryz.prog 47 #[.slice A0 l0.length c0, .int .i64 a1] w fun e w' => e = .returned (.int .i64 r) ∧ Below w.heap.size w w' := by
 have hu57 := Tryz.underlying60
 unfold CG.f at h
 by_cases hn : a1 < 0 ∨ 12 < a1
 ·rw [if_pos hn] at h
  injection h with h
  subst h
  by_cases hn0 : a1 < 0
  ·go_enter Tryz.func47, Tryz.ntmps47
   go_wp2
   go_ret
   exact ⟨rfl, Below.refl _ _⟩
  ·have hn1 : 12 < a1 := by omega
   go_enter Tryz.func47, Tryz.ntmps47
   go_wp2
   go_ret
   exact ⟨rfl, Below.refl _ _⟩
 ·rw [if_neg hn] at h
  have hn0 : ¬ a1 < 0 := by omega
  have hn1 : ¬ 12 < a1 := by omega
  by_cases hl : 32 < (l0.length : Int)
  ·rw [if_pos hl] at h
   injection h with h
   subst h
   go_enter Tryz.func47, Tryz.ntmps47
   go_wp2
   go_ret
   exact ⟨rfl, Below.refl _ _⟩
  ·rw [if_neg hl] at h
   split at h
   case isFalse => cases h
   rename_i hall
   have HALL := zA2.mk (List.all_eq_true.1 hall)
   have HR := zA2.mk hr0
   have HC := zA2.mk hc0
   have H' := zA2.mk h
   have HL := zA2.mk hl
   clear hall hr0 hc0 h hn
   go_enter Tryz.func47, Tryz.ntmps47
   go_wp2
   go_loopw [23] (fun v23 wr => ∃ x : Int, v23 = .int .i64 x ∧ 0 ≤ x ∧ x ≤ l0.length ∧ zA2 (CG.go l0 a1 x.toNat (l0.drop x.toNat) = some r) ∧ zA2 (Below w.heap.size w wr)) (fun v23 _ => l0.length - (intOf v23).toNat)
   case atStart => exact ⟨0, rfl, by omega, by omega, ⟨by rw [show (0 : Int).toNat = 0 from rfl, List.drop_zero]; exact H'.out⟩, ⟨Below.refl _ _⟩⟩
   case round =>
    clear H'
    obtain ⟨x, rfl, hx0, hx1, HG, HB⟩ := hrel
    have hle : (l0.length : Int) ≤ 32 := by have := HL.out; omega
    by_cases hlt : x < l0.length
    ·have hg := HG.out
     rw [drop57 l0 x hx0 hlt] at hg
     unfold CG.go at hg
     obtain ⟨e, he, hg⟩ := Option.bind_eq_some_iff.1 hg
     have HE := zA2.mk he
     have HG2 := zA2.mk hg
     clear he hg HG
     obtain ⟨ad, A1, c1, rfl, ha0, ha1, hc1, hC1⟩ := at_T60 HR.out x (by omega) (by omega)
     have hb0 := (HB.out.cell (World.block_lt_of_cell? w _ ha0)).trans ha0
     have hb1 := (HB.out.cell (World.block_lt_of_cell? w _ ha1)).trans ha1
     have HC1 := zA2.mk hC1
     have HCC1 := zA2.mk hc1
     have HXL := zA2.mk (show (zAo l0 x).f1.length ≤ 150 by
      have hm : zAo l0 x ∈ l0 := by
       have := rd_mem57 (l := l0) (x := x.toNat) (by omega)
       rwa [show ((x.toNat : Nat) : Int) = x by omega] at this
      have := HALL.out _ hm
      simpa using this)
     clear ha0 ha1 hC1 hc1
     generalize hX : zAo l0 x = X at hb0 hb1 HE HC1 HCC1 HXL
     have HXX := zA2.mk hX
     clear hX
     obtain ⟨s0, ms⟩ := X
     dsimp only at hb0 hb1 HC1 HCC1 HXL
     have K59 : ∀ (B : Nat) (W : World), W.heap[B]? = some (.cells #[.string s0, .slice A1 ms.length c1] 60 (0, 0)) → Below w.heap.size w W →
       ∀ (W2 : World) (y : S60) (cy : List Value), y ∈ l0 → Below W.heap.size W W2 → k60.K W2 y cy → Calls Tryz.prog 68 (#[.agg cy.toArray] ++ #[.pointer (some ⟨B, 0, none⟩)]) W2 fun e w' => e = .returned (.bool (decide (ms = y.f1))) ∧ Below W2.heap.size W2 w' := by
      intro B W hB hW W2 y cy hy hW2 hk
      obtain ⟨A, c, rfl, h1, h2⟩ := k60_open hk
      have hB2 := zAl hB hW2
      exact clo59 CG.k B y.f0 ms y.f1 A1 A c1 c _ W2 ((zA7 hB2 1).trans rfl) (Kd.zAk (Kd.zAk HC1.out hW) hW2) HCC1.out h2 h1 (equal_f ms y.f1 HXL.out)
     have K57 : ∀ (B : Nat) (W : World), W.heap[B]? = some (.cells #[.string s0, .slice A1 ms.length c1] 60 (0, 0)) →
       ∀ (W2 : World) (y : S60) (cy : List Value), y ∈ l0 → Below W.heap.size W W2 → k60.K W2 y cy → Calls Tryz.prog 67 (#[.agg cy.toArray] ++ #[.pointer (some ⟨B, 0, none⟩)]) W2 fun e w' => e = .returned (.bool (y.f0.toList == s0.toList)) ∧ Below W2.heap.size W2 w' := by
      intro B W hB W2 y cy hy hW2 hk
      obtain ⟨A, c, rfl, h1, h2⟩ := k60_open hk
      have hB2 := zAl hB hW2
      exact clo57 B s0 y.f0 (.slice A y.f1.length c) W2 ((zA7 hB2 0).trans rfl) A y.f1.length c rfl
     have HK57 := zA2.mk K57
     have HK59 := zA2.mk K59
     clear K57 K59
     have hxc : x ≤ (c0 : Int) := by have := HC.out; omega
     have hcz : (c0 = 0) = False := eq_false (by have := HC.out; omega)
     have he := HE.out
     unfold CG.one at he
     dsimp only at he
     cases q1 : nameB s0 with
     | false =>
      rw [q1, if_pos rfl] at he
      injection he with he
      subst he
      have hg := HG2.out
      rw [if_neg (by decide)] at hg
      injection hg with hg
      subst hg
      go_wp2_with (first | (go_at_call 65; refine (nameC s0 _).mono ?_; rintro e w2 ⟨rfl, hb2⟩; have hk2 := zAl (blk_new wr (.cells #[.string s0, .slice A1 ms.length c1] 60)) hb2; have HK2 := zA2.mk hk2; have hz2 : w2.cell? ⟨wr.heap.size, 1, none⟩ = some (.slice A1 ms.length c1) := (zA7 hk2 1).trans rfl; have HB2 := zA2.mk ((zA1 HB.out _).trans (hb2.mono (by have := HB.out.size; simp; omega))); clear hb2 hk2))
      go_ret
      exact ⟨rfl, HB2.out⟩
     | true =>
      rw [q1, if_neg (by decide)] at he
      cases q2 : (l0.take x.toNat).any (fun y => y.f0.toList == s0.toList) with
      | true =>
       rw [q2, if_pos rfl] at he
       injection he with he
       subst he
       have hg := HG2.out
       rw [if_neg (by decide)] at hg
       injection hg with hg
       subst hg
       go_wp2_with (first | (go_at_call 65; refine (nameC s0 _).mono ?_; rintro e w2 ⟨rfl, hb2⟩; have hk2 := zAl (blk_new wr (.cells #[.string s0, .slice A1 ms.length c1] 60)) hb2; have HK2 := zA2.mk hk2; have hz2 : w2.cell? ⟨wr.heap.size, 1, none⟩ = some (.slice A1 ms.length c1) := (zA7 hk2 1).trans rfl; have HB2 := zA2.mk ((zA1 HB.out _).trans (hb2.mono (by have := HB.out.size; simp; omega))); clear hb2 hk2) | (go_at_call 66; with_reducible refine (contG (some ad) c0 x.toNat l0 67 #[.pointer (some ⟨wr.heap.size, 0, none⟩)] (fun y => y.f0.toList == s0.toList) w2 (Kd.zAk HR.out HB2.out) (by omega) (by omega) e57 (HK57.out wr.heap.size w2 HK2.out)).mono ?_; rintro e w3 ⟨rfl, hb3⟩; have hk3 := zAl HK2.out hb3; have HK3 := zA2.mk hk3; have hz3 : w3.cell? ⟨wr.heap.size, 1, none⟩ = some (.slice A1 ms.length c1) := (zA7 hk3 1).trans rfl; have HB3 := zA2.mk (HB2.out.trans (hb3.mono HB2.out.size)); clear hb3 hk3))
       go_ret
       exact ⟨rfl, HB3.out⟩
      | false =>
       rw [q2, if_neg (by decide)] at he
       by_cases q3 : (ms.length : Int) < 2
       ·rw [if_pos q3] at he
        injection he with he
        subst he
        have hg := HG2.out
        rw [if_neg (by decide)] at hg
        injection hg with hg
        subst hg
        go_wp2_with (first | (go_at_call 65; refine (nameC s0 _).mono ?_; rintro e w2 ⟨rfl, hb2⟩; have hk2 := zAl (blk_new wr (.cells #[.string s0, .slice A1 ms.length c1] 60)) hb2; have HK2 := zA2.mk hk2; have hz2 : w2.cell? ⟨wr.heap.size, 1, none⟩ = some (.slice A1 ms.length c1) := (zA7 hk2 1).trans rfl; have HB2 := zA2.mk ((zA1 HB.out _).trans (hb2.mono (by have := HB.out.size; simp; omega))); clear hb2 hk2) | (go_at_call 66; with_reducible refine (contG (some ad) c0 x.toNat l0 67 #[.pointer (some ⟨wr.heap.size, 0, none⟩)] (fun y => y.f0.toList == s0.toList) w2 (Kd.zAk HR.out HB2.out) (by omega) (by omega) e57 (HK57.out wr.heap.size w2 HK2.out)).mono ?_; rintro e w3 ⟨rfl, hb3⟩; have hk3 := zAl HK2.out hb3; have HK3 := zA2.mk hk3; have hz3 : w3.cell? ⟨wr.heap.size, 1, none⟩ = some (.slice A1 ms.length c1) := (zA7 hk3 1).trans rfl; have HB3 := zA2.mk (HB2.out.trans (hb3.mono HB2.out.size)); clear hb3 hk3))
        go_ret
        exact ⟨rfl, HB3.out⟩
       ·rw [if_neg q3] at he
        obtain ⟨e58, he58, he⟩ := Option.bind_eq_some_iff.1 he
        have HE58 := zA2.mk he58
        clear he58
        by_cases h58 : e58 = 0
        case neg =>
         have q58 : (e58 != 0) = true := by simpa using h58
         rw [if_pos h58] at he
         injection he with he
         subst he
         have hg := HG2.out
         rw [if_neg (by exact h58)] at hg
         injection hg with hg
         subst hg
         go_wp2_with (first | (go_at_call 65; refine (nameC s0 _).mono ?_; rintro e w2 ⟨rfl, hb2⟩; have hk2 := zAl (blk_new wr (.cells #[.string s0, .slice A1 ms.length c1] 60)) hb2; have HK2 := zA2.mk hk2; have hz2 : w2.cell? ⟨wr.heap.size, 1, none⟩ = some (.slice A1 ms.length c1) := (zA7 hk2 1).trans rfl; have HB2 := zA2.mk ((zA1 HB.out _).trans (hb2.mono (by have := HB.out.size; simp; omega))); clear hb2 hk2) | (go_at_call 66; with_reducible refine (contG (some ad) c0 x.toNat l0 67 #[.pointer (some ⟨wr.heap.size, 0, none⟩)] (fun y => y.f0.toList == s0.toList) w2 (Kd.zAk HR.out HB2.out) (by omega) (by omega) e57 (HK57.out wr.heap.size w2 HK2.out)).mono ?_; rintro e w3 ⟨rfl, hb3⟩; have hk3 := zAl HK2.out hb3; have HK3 := zA2.mk hk3; have hz3 : w3.cell? ⟨wr.heap.size, 1, none⟩ = some (.slice A1 ms.length c1) := (zA7 hk3 1).trans rfl; have HB3 := zA2.mk (HB2.out.trans (hb3.mono HB2.out.size)); clear hb3 hk3) | (go_at_call 49; refine (zAn.calls CG.k A1 c1 ms a1 e58 w3 (Kd.zAk HC1.out HB3.out) HCC1.out HE58.out).mono ?_; rintro e w4 ⟨rfl, ⟨nd, rfl⟩⟩; have hk4 := zA6 HK3.out nd; have HK4 := zA2.mk hk4; have hz4 : (w3.drewN nd).cell? ⟨wr.heap.size, 1, none⟩ = some (.slice A1 ms.length c1) := (zA7 hk4 1).trans rfl; have HB4 := zA2.mk (zA0 HB3.out nd); clear hk4))
         go_ret
         exact ⟨rfl, HB4.out⟩
        case pos =>
         rw [if_neg (fun h => h h58)] at he
         subst h58
         cases q5 : (l0.take x.toNat).any (fun y => decide (ms = y.f1)) with
         | true =>
          rw [q5, if_pos rfl] at he
          injection he with he
          subst he
          have hg := HG2.out
          rw [if_neg (by decide)] at hg
          injection hg with hg
          subst hg
          go_wp2_with (first | (go_at_call 65; refine (nameC s0 _).mono ?_; rintro e w2 ⟨rfl, hb2⟩; have hk2 := zAl (blk_new wr (.cells #[.string s0, .slice A1 ms.length c1] 60)) hb2; have HK2 := zA2.mk hk2; have hz2 : w2.cell? ⟨wr.heap.size, 1, none⟩ = some (.slice A1 ms.length c1) := (zA7 hk2 1).trans rfl; have HB2 := zA2.mk ((zA1 HB.out _).trans (hb2.mono (by have := HB.out.size; simp; omega))); clear hb2 hk2) | (go_at_call 66; with_reducible refine (contG (some ad) c0 x.toNat l0 67 #[.pointer (some ⟨wr.heap.size, 0, none⟩)] (fun y => y.f0.toList == s0.toList) w2 (Kd.zAk HR.out HB2.out) (by omega) (by omega) e57 (HK57.out wr.heap.size w2 HK2.out)).mono ?_; rintro e w3 ⟨rfl, hb3⟩; have hk3 := zAl HK2.out hb3; have HK3 := zA2.mk hk3; have hz3 : w3.cell? ⟨wr.heap.size, 1, none⟩ = some (.slice A1 ms.length c1) := (zA7 hk3 1).trans rfl; have HB3 := zA2.mk (HB2.out.trans (hb3.mono HB2.out.size)); clear hb3 hk3) | (go_at_call 49; refine (zAn.calls CG.k A1 c1 ms a1 0 w3 (Kd.zAk HC1.out HB3.out) HCC1.out HE58.out).mono ?_; rintro e w4 ⟨rfl, ⟨nd, rfl⟩⟩; have hk4 := zA6 HK3.out nd; have HK4 := zA2.mk hk4; have hz4 : (w3.drewN nd).cell? ⟨wr.heap.size, 1, none⟩ = some (.slice A1 ms.length c1) := (zA7 hk4 1).trans rfl; have HB4 := zA2.mk (zA0 HB3.out nd); clear hk4) | (go_at_call 66; with_reducible refine (contG (some ad) c0 x.toNat l0 68 #[.pointer (some ⟨wr.heap.size, 0, none⟩)] (fun y => decide (ms = y.f1)) _ (Kd.zAk HR.out HB4.out) (by omega) (by omega) e59 (HK59.out wr.heap.size _ HK4.out HB4.out)).mono ?_; rintro e w5 ⟨rfl, hb5⟩; have hk5 := zAl HK4.out hb5; have HK5 := zA2.mk hk5; have hz5 : w5.cell? ⟨wr.heap.size, 1, none⟩ = some (.slice A1 ms.length c1) := (zA7 hk5 1).trans rfl; have HB5 := zA2.mk (HB4.out.trans (hb5.mono HB4.out.size)); clear hb5 hk5))
          go_ret
          exact ⟨rfl, HB5.out⟩
         | false =>
          rw [q5, if_neg (by decide)] at he
          obtain ⟨m, hm, he⟩ := Option.bind_eq_some_iff.1 he
          obtain ⟨b, hb, he⟩ := Option.bind_eq_some_iff.1 he
          have HM := zA2.mk hm
          have HI := zA2.mk hb
          have HEE := zA2.mk he
          clear hm hb he
          go_wp2_with (first | (go_at_call 65; refine (nameC s0 _).mono ?_; rintro e w2 ⟨rfl, hb2⟩; have hk2 := zAl (blk_new wr (.cells #[.string s0, .slice A1 ms.length c1] 60)) hb2; have HK2 := zA2.mk hk2; have hz2 : w2.cell? ⟨wr.heap.size, 1, none⟩ = some (.slice A1 ms.length c1) := (zA7 hk2 1).trans rfl; have HB2 := zA2.mk ((zA1 HB.out _).trans (hb2.mono (by have := HB.out.size; simp; omega))); clear hb2 hk2) | (go_at_call 66; with_reducible refine (contG (some ad) c0 x.toNat l0 67 #[.pointer (some ⟨wr.heap.size, 0, none⟩)] (fun y => y.f0.toList == s0.toList) w2 (Kd.zAk HR.out HB2.out) (by omega) (by omega) e57 (HK57.out wr.heap.size w2 HK2.out)).mono ?_; rintro e w3 ⟨rfl, hb3⟩; have hk3 := zAl HK2.out hb3; have HK3 := zA2.mk hk3; have hz3 : w3.cell? ⟨wr.heap.size, 1, none⟩ = some (.slice A1 ms.length c1) := (zA7 hk3 1).trans rfl; have HB3 := zA2.mk (HB2.out.trans (hb3.mono HB2.out.size)); clear hb3 hk3) | (go_at_call 49; refine (zAn.calls CG.k A1 c1 ms a1 0 w3 (Kd.zAk HC1.out HB3.out) HCC1.out HE58.out).mono ?_; rintro e w4 ⟨rfl, ⟨nd, rfl⟩⟩; have hk4 := zA6 HK3.out nd; have HK4 := zA2.mk hk4; have hz4 : (w3.drewN nd).cell? ⟨wr.heap.size, 1, none⟩ = some (.slice A1 ms.length c1) := (zA7 hk4 1).trans rfl; have HB4 := zA2.mk (zA0 HB3.out nd); clear hk4) | (go_at_call 66; with_reducible refine (contG (some ad) c0 x.toNat l0 68 #[.pointer (some ⟨wr.heap.size, 0, none⟩)] (fun y => decide (ms = y.f1)) _ (Kd.zAk HR.out HB4.out) (by omega) (by omega) e59 (HK59.out wr.heap.size _ HK4.out HB4.out)).mono ?_; rintro e w5 ⟨rfl, hb5⟩; have hk5 := zAl HK4.out hb5; have HK5 := zA2.mk hk5; have hz5 : w5.cell? ⟨wr.heap.size, 1, none⟩ = some (.slice A1 ms.length c1) := (zA7 hk5 1).trans rfl; have HB5 := zA2.mk (HB4.out.trans (hb5.mono HB4.out.size)); clear hb5 hk5) | (go_at_call 51; refine (zAt.calls CG.k A1 c1 ms m w5 (Kd.zAk HC1.out HB5.out) HCC1.out HM.out).mono ?_; rintro e w6 ⟨rfl, ⟨nd6, rfl⟩⟩; have HB6 := zA2.mk (zA0 HB5.out nd6)))
          go_loopw [60] (fun v60 wi => ∃ y : Int, v60 = .int .i64 y ∧ 0 ≤ y ∧ y ≤ x ∧ zA2 (CG.inn m ((l0.take x.toNat).drop y.toNat) = some b) ∧ zA2 (Below w.heap.size w wi)) (fun v60 _ => l0.length - (intOf v60).toNat)
          case atStart => exact ⟨0, rfl, by omega, by omega, ⟨by rw [show (0 : Int).toNat = 0 from rfl, List.drop_zero]; exact HI.out⟩, HB6⟩
          case round =>
           clear HI
           obtain ⟨y, rfl, hy0, hy1, HII, HBI⟩ := hrel
           have hlex : x ≤ 32 := by omega
           by_cases hlty : y < x
           ·have hi := HII.out
            have hd : (l0.take x.toNat).drop y.toNat = zAo l0 y :: (l0.take x.toNat).drop (y + 1).toNat := by
             have h1 := drop57 (l0.take x.toNat) y hy0 (by rw [List.length_take]; omega)
             rw [h1]
             congr 1
             unfold zAo
             rw [List.getD_eq_getElem?_getD, List.getD_eq_getElem?_getD, List.getElem?_take_of_lt (by omega)]
            rw [hd] at hi
            unfold CG.inn at hi
            obtain ⟨o, ho, hi⟩ := Option.bind_eq_some_iff.1 hi
            have HO := zA2.mk ho
            clear ho hd HII
            obtain ⟨ad2, A2, c2, hade, hd0, hd1, hc2, hC2⟩ := at_T60 HR.out y (by omega) (by omega)
            injection hade with hade
            subst hade
            have hb20 := (HBI.out.cell (World.block_lt_of_cell? w _ hd0)).trans hd0
            have hb21 := (HBI.out.cell (World.block_lt_of_cell? w _ hd1)).trans hd1
            have HC2 := zA2.mk hC2
            have HCC2 := zA2.mk hc2
            clear hd0 hd1 hc2 hC2
            generalize (zAo l0 y).f0 = s2 at hb20
            generalize (zAo l0 y).f1 = ms2 at hb21 HO HC2 HCC2
            have hyx : y < (x.toNat : Int) := by omega
            by_cases z1 : Go.bits .and .u64 o m = 0
            ·have zb1 : (Go.bits .and .u64 o m != 0) = false := by rw [z1]; rfl
             rw [if_neg (by unfold CG.cross; rw [decide_eq_false (fun h => h z1)]; simp)] at hi
             clear z1
             have HI2 := zA2.mk hi
             clear hi
             go_wp2_with (go_at_call 51; refine (zAt.calls CG.k A2 c2 ms2 o _ (Kd.zAj (Kd.zAk HC2.out HBI.out) _) HCC2.out HO.out).mono ?_; rintro e wj ⟨rfl, ⟨ndj, rfl⟩⟩)
             go_roundw
             case rel => exact ⟨y + 1, by go_num, by omega, by omega, HI2, ⟨zA0 (zA1 HBI.out _) _⟩⟩
             case measure => simp [intOf]; omega
            ·have zb1 : (Go.bits .and .u64 o m != 0) = true := by simpa using z1
             by_cases z2 : Go.bits .and .u64 o m = m
             ·have zb2 : (Go.bits .and .u64 o m != m) = false := by rw [z2]; simp
              rw [if_neg (by unfold CG.cross; rw [decide_eq_false (p := Go.bits .and .u64 o m ≠ m) (fun h => h z2)]; simp)] at hi
              clear z1 z2
              have HI2 := zA2.mk hi
              clear hi
              go_wp2_with (go_at_call 51; refine (zAt.calls CG.k A2 c2 ms2 o _ (Kd.zAj (Kd.zAk HC2.out HBI.out) _) HCC2.out HO.out).mono ?_; rintro e wj ⟨rfl, ⟨ndj, rfl⟩⟩)
              go_roundw
              case rel => exact ⟨y + 1, by go_num, by omega, by omega, HI2, ⟨zA0 (zA1 HBI.out _) _⟩⟩
              case measure => simp [intOf]; omega
             ·have zb2 : (Go.bits .and .u64 o m != m) = true := by simpa using z2
              by_cases z3 : Go.bits .and .u64 o m = o
              ·have zb3 : (Go.bits .and .u64 o m != o) = false := by rw [z3]; simp
               rw [if_neg (by unfold CG.cross; rw [decide_eq_false (p := Go.bits .and .u64 o m ≠ o) (fun h => h z3)]; simp)] at hi
               clear z1 z2 z3
               have HI2 := zA2.mk hi
               clear hi
               go_wp2_with (go_at_call 51; refine (zAt.calls CG.k A2 c2 ms2 o _ (Kd.zAj (Kd.zAk HC2.out HBI.out) _) HCC2.out HO.out).mono ?_; rintro e wj ⟨rfl, ⟨ndj, rfl⟩⟩)
               go_roundw
               case rel => exact ⟨y + 1, by go_num, by omega, by omega, HI2, ⟨zA0 (zA1 HBI.out _) _⟩⟩
               case measure => simp [intOf]; omega
              ·have zb3 : (Go.bits .and .u64 o m != o) = true := by simpa using z3
               rw [if_pos (by unfold CG.cross; rw [decide_eq_true z1, decide_eq_true z2, decide_eq_true z3]; rfl)] at hi
               injection hi with hi
               have he := HEE.out
               rw [← hi, if_pos rfl] at he
               injection he with he
               have hg := HG2.out
               rw [← he, if_neg (by decide)] at hg
               injection hg with hg
               subst hg
               clear z1 z2 z3 hi he
               go_wp2_with (go_at_call 51; refine (zAt.calls CG.k A2 c2 ms2 o _ (Kd.zAj (Kd.zAk HC2.out HBI.out) _) HCC2.out HO.out).mono ?_; rintro e wj ⟨rfl, ⟨ndj, rfl⟩⟩)
               go_ret
               exact ⟨rfl, zA0 (zA1 HBI.out _) _⟩
           ·have hxy : y = x := by omega
            subst hxy
            have hi := HII.out
            rw [List.drop_eq_nil_of_le (by rw [List.length_take]; omega)] at hi
            unfold CG.inn at hi
            injection hi with hi
            have he := HEE.out
            rw [← hi, if_neg (by decide)] at he
            injection he with he
            have hg := HG2.out
            rw [← he, if_pos rfl] at hg
            have HG3 : zA2 (CG.go l0 a1 (y + 1).toNat (l0.drop (y + 1).toNat) = some r) := ⟨by rw [show (y + 1).toNat = y.toNat + 1 by omega] at hg ⊢; exact hg⟩
            clear hi he hg
            go_wp2
            go_roundw
            case rel => exact ⟨y + 1, by go_num, by omega, by omega, HG3, HBI⟩
            case measure => simp [intOf]; omega
    ·go_wp2
     go_ret
     have hg := HG.out
     have e : x = l0.length := by omega
     rw [e, show ((l0.length : Int)).toNat = l0.length by omega, List.drop_length] at hg
     unfold CG.go at hg
     injection hg with hg
     subst hg
     exact ⟨rfl, HB.out⟩
end
end Go.Proofs.YtbghfbhlbfcloaaGreatDoor.PL
namespace Go.Proofs.YtbghfbhlbfcloaaGreatDoor.PL
section
open Go.RowKit Go.Proofs.YtbghfbhlbfcloaaGreatDoorW.PrintWords Go.Proofs.YtbghfbhlbfcloaaGreatDoorW.PrintLast Go.Proofs.YtbghfbhlbfcloaaGreatDoorW.PrintMore
attribute [local go_sem] zBu zBs zC3 zC2 zBn zBm zBt zBr   -- for this text's walks alone
set_option linter.unusedVariables false
set_option linter.unusedSimpArgs false
def liaison_CheckGroups.f (l0 : List (S60)) (a1 : Int) : Option (Int) := CG.f l0 a1
theorem liaison_CheckGroups.calls (A0 : Option Addr) (c0 : Nat) (l0 : List (S60)) (a1 : Int) (r : Int) (w : World) (hr0 : Kd.C k60 w A0 l0.length l0) (hc0 : l0.length ≤ c0) (h : liaison_CheckGroups.f l0 a1 = some r) :
  Calls Tryz.prog 47 #[.slice A0 l0.length c0, .int .i64 a1] w fun e w' => e = .returned (.int .i64 r) ∧ Below w.heap.size w w' :=
  CG.calls A0 c0 l0 a1 r w hr0 hc0 h
end
end Go.Proofs.YtbghfbhlbfcloaaGreatDoor.PL
namespace Go.Proofs.YtbghfbhlbfcloaaGreatDoor.PL
section
open Go.RowKit Go.Proofs.YtbghfbhlbfcloaaGreatDoorW.PrintWords Go.Proofs.YtbghfbhlbfcloaaGreatDoorW.PrintLast Go.Proofs.YtbghfbhlbfcloaaGreatDoorW.PrintMore
attribute [local go_sem] zBu zBs zC3 zC2 zBn zBm zBt zBr   -- for this text's walks alone
set_option linter.unusedVariables false
set_option linter.unusedSimpArgs false
def zC9.f (k : Nat) (a0_0 : ByteArray) (l0_1 : List Int) (a1_0 : ByteArray) (l1_1 : List Int) : Option (Bool) := (zAt.f k l0_1).bind fun t201 => ((zAt.f k l1_1).bind fun t202 => (if t201 = t202 then (some false) else (some ((Go.bits .and .u64 t201 t202) == t201))))
theorem zC9.mono : ∀ a0 a1 a2 a3 k, LeO (zC9.f k a0 a1 a2 a3) (zC9.f (k + 1) a0 a1 a2 a3) := by
 intro a0 a1 a2 a3 k
 unfold zC9.f
 repeat' first
   | (with_reducible exact zAt.mono _ _)
   | (with_reducible exact LeO.refl _)
   | (with_reducible exact LeO.none _)
   | (with_reducible refine LeO.ite ?_ ?_)
   | (with_reducible refine LeO.bind ?_ (fun _ => ?_))
set_option maxHeartbeats 8000000 in
set_option maxRecDepth 100000 in
theorem zC9.calls (k : Nat) (a0_0 : ByteArray) (A0_1 : Option Addr) (c0_1 : Nat) (l0_1 : List Int) (a1_0 : ByteArray) (A1_1 : Option Addr) (c1_1 : Nat) (l1_1 : List Int) (r : Bool) (w : World) (hr0_1 : Kd.C (Kd.int .i64) w A0_1 l0_1.length l0_1) (hc0_1 : l0_1.length ≤ c0_1) (hr1_1 : Kd.C (Kd.int .i64) w A1_1 l1_1.length l1_1) (hc1_1 : l1_1.length ≤ c1_1) (h : zC9.f k a0_0 l0_1 a1_0 l1_1 = some r) :
  Calls Tryz.prog 48 #[.agg #[.string a0_0, .slice A0_1 l0_1.length c0_1], .agg #[.string a1_0, .slice A1_1 l1_1.length c1_1]] w fun e w' => e = .returned (.bool r) ∧ Below w.heap.size w w' := by
 have hu60 := Tryz.underlying60
 have HR0_1 := zA2.mk hr0_1
 have HC0_1 := zA2.mk hc0_1
 clear hr0_1 hc0_1
 have HR1_1 := zA2.mk hr1_1
 have HC1_1 := zA2.mk hc1_1
 clear hr1_1 hc1_1
 have HB := zA2.mk (Below.refl w.heap.size w)
 have H : ((zAt.f k l0_1).bind fun t201 => ((zAt.f k l1_1).bind fun t202 => (if t201 = t202 then (some false) else (some ((Go.bits .and .u64 t201 t202) == t201))))) = some r := h
 clear h
 replace H := Option.bind_eq_some_iff.mp H
 obtain ⟨t201, A30, H⟩ := H
 replace H : ((zAt.f k l1_1).bind fun t202 => (if t201 = t202 then (some false) else (some ((Go.bits .and .u64 t201 t202) == t201)))) = some r := H
 have A3 := zA2.mk A30
 clear A30
 replace H := Option.bind_eq_some_iff.mp H
 obtain ⟨t202, A40, H⟩ := H
 replace H : (if t201 = t202 then (some false) else (some ((Go.bits .and .u64 t201 t202) == t201))) = some r := H
 have A4 := zA2.mk A40
 clear A40
 by_cases c5 : t201 = t202
 ·rw [if_pos c5] at H
  have c5b0 : (t201 == t202) = true := beq_iff_eq.mpr c5
  have c5b1 : (t201 != t202) = false := bne_eq_false_iff_eq.mpr c5
  clear c5
  obtain rfl := Option.some.inj H
  go_enter Tryz.func48, Tryz.ntmps48
  go_wp2_with (first | ((with_reducible refine zBl (N := 2) rfl ?_); refine zBj ?hg (N := 2) ?hd (cs := #[.string a0_0, .slice A0_1 l0_1.length c0_1]) (t := 60) ?hr ?_; (case hd => rfl); (case hg => rfl); (case hr => first | (go_simp; done) | (go_simp; rfl)); intro gb199 hg w6 hbox hb; have n0_ := zA2.mk (zAe (by repeat (first | (with_reducible first | exact HB.out | apply zA1 | apply zA0 | apply zA3) | exact HB.out)) hb); have n1_ := zA2.mk (hbox); have n2_ := zA2.mk ((by rw [hg]; exact (zAb (by repeat (first | (with_reducible first | exact HB.out | apply zA1 | apply zA0 | apply zA3) | exact HB.out))) : w.heap.size ≤ gb199)); have n3_ := zA2.mk ((by rw [hg]; exact (zAb (by repeat (first | (with_reducible first | exact HB.out | apply zA1 | apply zA0 | apply zA3) | exact HB.out))) : w.heap.size ≤ gb199)); clear HB; have HB := n0_; have BK199 := n1_; have GW199 := n2_; have GE199 := n3_; clear n0_ n1_ n2_ n3_; clear hb hbox hg) | ((with_reducible refine zBl (N := 3) rfl ?_); refine zBj ?hg (N := 3) ?hd (cs := #[.string a1_0, .slice A1_1 l1_1.length c1_1]) (t := 60) ?hr ?_; (case hd => rfl); (case hg => rfl); (case hr => first | (go_simp; done) | (go_simp; rfl)); intro gb200 hg w7 hbox hb; have n0_ := zA2.mk (zAl (g := gb199) (o := .cells #[.string a0_0, .slice A0_1 l0_1.length c0_1] 60 (0, 0)) (by (with_reducible repeat (first | refine zA6 ?_ _ | refine zA8 ?_ | refine zA5 ?_ _)); exact BK199.out) hb); have n1_ := zA2.mk (zAe (by repeat (first | (with_reducible first | exact HB.out | apply zA1 | apply zA0 | apply zA3 | refine zA4 ?_ GE199.out) | exact HB.out)) hb); have n2_ := zA2.mk (hbox); have n3_ := zA2.mk ((by rw [hg]; exact (zAb (by repeat (first | (with_reducible first | exact HB.out | apply zA1 | apply zA0 | apply zA3 | refine zA4 ?_ GE199.out) | exact HB.out))) : w.heap.size ≤ gb200)); have n4_ := zA2.mk ((by rw [hg]; exact (zAb (by repeat (first | (with_reducible first | exact HB.out | apply zA1 | apply zA0 | apply zA3 | refine zA4 ?_ GE199.out) | exact HB.out))) : w.heap.size ≤ gb200)); have n5_ := zA2.mk ((by rw [hg]; exact Nat.ne_of_lt (zC8 (g := gb199) (o := .cells #[.string a0_0, .slice A0_1 l0_1.length c0_1] 60 (0, 0)) (by (with_reducible repeat (first | refine zA6 ?_ _ | refine zA8 ?_ | refine zA5 ?_ _)); exact BK199.out)) : gb199 ≠ gb200)); have n6_ := zA2.mk ((by rw [hg]; exact Nat.ne_of_gt (zC8 (g := gb199) (o := .cells #[.string a0_0, .slice A0_1 l0_1.length c0_1] 60 (0, 0)) (by (with_reducible repeat (first | refine zA6 ?_ _ | refine zA8 ?_ | refine zA5 ?_ _)); exact BK199.out)) : gb200 ≠ gb199)); clear BK199; clear HB; have BK199 := n0_; have HB := n1_; have BK200 := n2_; have GW200 := n3_; have GE200 := n4_; have NB199_200 := n5_; have NB200_199 := n6_; clear n0_ n1_ n2_ n3_ n4_ n5_ n6_; clear hb hbox hg; have hnb8 := NB199_200.out; have hnc8 := NB200_199.out; have hcz9_0 : w7.cell? ⟨gb199, 0, none⟩ = some (.string a0_0) := (zA7 BK199.out 0).trans rfl; have hcz9_1 : w7.cell? ⟨gb199, 1, none⟩ = some (.slice A0_1 l0_1.length c0_1) := (zA7 BK199.out 1).trans rfl; have hfz9_0 := zA9 BK199.out 0; have hfz9_1 := zA9 BK199.out 1) | (go_at_call 51; (with_reducible refine (zAt.calls k _ _ l0_1 t201 _ ?side1 ?side2 A3.out).mono ?_); (case side1 => repeat (first | exact (Kd.zAk HR0_1.out HB.out) | (with_reducible refine Kd.zAj ?_ _) | (with_reducible refine Kd.zAs ?_ _) | (with_reducible refine Kd.zB2 ?_))); (case side2 => exact HC0_1.out); rintro e w' ⟨rfl, ⟨nd, rfl⟩⟩; (try first | exact ⟨rfl, _, World.drewN_drewN _ _ _⟩ | exact ⟨rfl, _, Eq.trans (World.drewN_drewN _ _ _) (congrArg (World.drewN _) (Nat.add_assoc _ _ _))⟩); have hcz10_0 : w7.cell? ⟨gb200, 0, none⟩ = some (.string a1_0) := (zA7 BK200.out 0).trans rfl; have hcz10_1 : w7.cell? ⟨gb200, 1, none⟩ = some (.slice A1_1 l1_1.length c1_1) := (zA7 BK200.out 1).trans rfl; have hfz10_0 := zA9 BK200.out 0; have hfz10_1 := zA9 BK200.out 1) | (go_at_call 51; (with_reducible refine (zAt.calls k _ _ l1_1 t202 _ ?side1 ?side2 A4.out).mono ?_); (case side1 => repeat (first | exact (Kd.zAk HR1_1.out (by repeat (first | (with_reducible first | exact HB.out | apply zA1 | apply zA0 | apply zA3 | refine zA4 ?_ GE199.out | refine zA4 ?_ GE200.out) | exact HB.out))) | (with_reducible refine Kd.zAj ?_ _) | (with_reducible refine Kd.zAs ?_ _) | (with_reducible refine Kd.zB2 ?_))); (case side2 => exact HC1_1.out); rintro e w' ⟨rfl, ⟨nd, rfl⟩⟩; (try first | exact ⟨rfl, _, World.drewN_drewN _ _ _⟩ | exact ⟨rfl, _, Eq.trans (World.drewN_drewN _ _ _) (congrArg (World.drewN _) (Nat.add_assoc _ _ _))⟩)))
  repeat (go_quiet (first | ((with_reducible refine zBl (N := 2) rfl ?_); refine zBj ?hg (N := 2) ?hd (cs := #[.string a0_0, .slice A0_1 l0_1.length c0_1]) (t := 60) ?hr ?_; (case hd => rfl); (case hg => rfl); (case hr => first | (go_simp; done) | (go_simp; rfl)); intro gb199 hg w6 hbox hb; have n0_ := zA2.mk (zAe (by repeat (first | (with_reducible first | exact HB.out | apply zA1 | apply zA0 | apply zA3) | exact HB.out)) hb); have n1_ := zA2.mk (hbox); have n2_ := zA2.mk ((by rw [hg]; exact (zAb (by repeat (first | (with_reducible first | exact HB.out | apply zA1 | apply zA0 | apply zA3) | exact HB.out))) : w.heap.size ≤ gb199)); have n3_ := zA2.mk ((by rw [hg]; exact (zAb (by repeat (first | (with_reducible first | exact HB.out | apply zA1 | apply zA0 | apply zA3) | exact HB.out))) : w.heap.size ≤ gb199)); clear HB; have HB := n0_; have BK199 := n1_; have GW199 := n2_; have GE199 := n3_; clear n0_ n1_ n2_ n3_; clear hb hbox hg) | ((with_reducible refine zBl (N := 3) rfl ?_); refine zBj ?hg (N := 3) ?hd (cs := #[.string a1_0, .slice A1_1 l1_1.length c1_1]) (t := 60) ?hr ?_; (case hd => rfl); (case hg => rfl); (case hr => first | (go_simp; done) | (go_simp; rfl)); intro gb200 hg w7 hbox hb; have n0_ := zA2.mk (zAl (g := gb199) (o := .cells #[.string a0_0, .slice A0_1 l0_1.length c0_1] 60 (0, 0)) (by (with_reducible repeat (first | refine zA6 ?_ _ | refine zA8 ?_ | refine zA5 ?_ _)); exact BK199.out) hb); have n1_ := zA2.mk (zAe (by repeat (first | (with_reducible first | exact HB.out | apply zA1 | apply zA0 | apply zA3 | refine zA4 ?_ GE199.out) | exact HB.out)) hb); have n2_ := zA2.mk (hbox); have n3_ := zA2.mk ((by rw [hg]; exact (zAb (by repeat (first | (with_reducible first | exact HB.out | apply zA1 | apply zA0 | apply zA3 | refine zA4 ?_ GE199.out) | exact HB.out))) : w.heap.size ≤ gb200)); have n4_ := zA2.mk ((by rw [hg]; exact (zAb (by repeat (first | (with_reducible first | exact HB.out | apply zA1 | apply zA0 | apply zA3 | refine zA4 ?_ GE199.out) | exact HB.out))) : w.heap.size ≤ gb200)); have n5_ := zA2.mk ((by rw [hg]; exact Nat.ne_of_lt (zC8 (g := gb199) (o := .cells #[.string a0_0, .slice A0_1 l0_1.length c0_1] 60 (0, 0)) (by (with_reducible repeat (first | refine zA6 ?_ _ | refine zA8 ?_ | refine zA5 ?_ _)); exact BK199.out)) : gb199 ≠ gb200)); have n6_ := zA2.mk ((by rw [hg]; exact Nat.ne_of_gt (zC8 (g := gb199) (o := .cells #[.string a0_0, .slice A0_1 l0_1.length c0_1] 60 (0, 0)) (by (with_reducible repeat (first | refine zA6 ?_ _ | refine zA8 ?_ | refine zA5 ?_ _)); exact BK199.out)) : gb200 ≠ gb199)); clear BK199; clear HB; have BK199 := n0_; have HB := n1_; have BK200 := n2_; have GW200 := n3_; have GE200 := n4_; have NB199_200 := n5_; have NB200_199 := n6_; clear n0_ n1_ n2_ n3_ n4_ n5_ n6_; clear hb hbox hg; have hnb8 := NB199_200.out; have hnc8 := NB200_199.out; have hcz9_0 : w7.cell? ⟨gb199, 0, none⟩ = some (.string a0_0) := (zA7 BK199.out 0).trans rfl; have hcz9_1 : w7.cell? ⟨gb199, 1, none⟩ = some (.slice A0_1 l0_1.length c0_1) := (zA7 BK199.out 1).trans rfl; have hfz9_0 := zA9 BK199.out 0; have hfz9_1 := zA9 BK199.out 1) | (go_at_call 51; (with_reducible refine (zAt.calls k _ _ l0_1 t201 _ ?side1 ?side2 A3.out).mono ?_); (case side1 => repeat (first | exact (Kd.zAk HR0_1.out HB.out) | (with_reducible refine Kd.zAj ?_ _) | (with_reducible refine Kd.zAs ?_ _) | (with_reducible refine Kd.zB2 ?_))); (case side2 => exact HC0_1.out); rintro e w' ⟨rfl, ⟨nd, rfl⟩⟩; (try first | exact ⟨rfl, _, World.drewN_drewN _ _ _⟩ | exact ⟨rfl, _, Eq.trans (World.drewN_drewN _ _ _) (congrArg (World.drewN _) (Nat.add_assoc _ _ _))⟩); have hcz10_0 : w7.cell? ⟨gb200, 0, none⟩ = some (.string a1_0) := (zA7 BK200.out 0).trans rfl; have hcz10_1 : w7.cell? ⟨gb200, 1, none⟩ = some (.slice A1_1 l1_1.length c1_1) := (zA7 BK200.out 1).trans rfl; have hfz10_0 := zA9 BK200.out 0; have hfz10_1 := zA9 BK200.out 1) | (go_at_call 51; (with_reducible refine (zAt.calls k _ _ l1_1 t202 _ ?side1 ?side2 A4.out).mono ?_); (case side1 => repeat (first | exact (Kd.zAk HR1_1.out (by repeat (first | (with_reducible first | exact HB.out | apply zA1 | apply zA0 | apply zA3 | refine zA4 ?_ GE199.out | refine zA4 ?_ GE200.out) | exact HB.out))) | (with_reducible refine Kd.zAj ?_ _) | (with_reducible refine Kd.zAs ?_ _) | (with_reducible refine Kd.zB2 ?_))); (case side2 => exact HC1_1.out); rintro e w' ⟨rfl, ⟨nd, rfl⟩⟩; (try first | exact ⟨rfl, _, World.drewN_drewN _ _ _⟩ | exact ⟨rfl, _, Eq.trans (World.drewN_drewN _ _ _) (congrArg (World.drewN _) (Nat.add_assoc _ _ _))⟩))); try go_wp2_with (first | ((with_reducible refine zBl (N := 2) rfl ?_); refine zBj ?hg (N := 2) ?hd (cs := #[.string a0_0, .slice A0_1 l0_1.length c0_1]) (t := 60) ?hr ?_; (case hd => rfl); (case hg => rfl); (case hr => first | (go_simp; done) | (go_simp; rfl)); intro gb199 hg w6 hbox hb; have n0_ := zA2.mk (zAe (by repeat (first | (with_reducible first | exact HB.out | apply zA1 | apply zA0 | apply zA3) | exact HB.out)) hb); have n1_ := zA2.mk (hbox); have n2_ := zA2.mk ((by rw [hg]; exact (zAb (by repeat (first | (with_reducible first | exact HB.out | apply zA1 | apply zA0 | apply zA3) | exact HB.out))) : w.heap.size ≤ gb199)); have n3_ := zA2.mk ((by rw [hg]; exact (zAb (by repeat (first | (with_reducible first | exact HB.out | apply zA1 | apply zA0 | apply zA3) | exact HB.out))) : w.heap.size ≤ gb199)); clear HB; have HB := n0_; have BK199 := n1_; have GW199 := n2_; have GE199 := n3_; clear n0_ n1_ n2_ n3_; clear hb hbox hg) | ((with_reducible refine zBl (N := 3) rfl ?_); refine zBj ?hg (N := 3) ?hd (cs := #[.string a1_0, .slice A1_1 l1_1.length c1_1]) (t := 60) ?hr ?_; (case hd => rfl); (case hg => rfl); (case hr => first | (go_simp; done) | (go_simp; rfl)); intro gb200 hg w7 hbox hb; have n0_ := zA2.mk (zAl (g := gb199) (o := .cells #[.string a0_0, .slice A0_1 l0_1.length c0_1] 60 (0, 0)) (by (with_reducible repeat (first | refine zA6 ?_ _ | refine zA8 ?_ | refine zA5 ?_ _)); exact BK199.out) hb); have n1_ := zA2.mk (zAe (by repeat (first | (with_reducible first | exact HB.out | apply zA1 | apply zA0 | apply zA3 | refine zA4 ?_ GE199.out) | exact HB.out)) hb); have n2_ := zA2.mk (hbox); have n3_ := zA2.mk ((by rw [hg]; exact (zAb (by repeat (first | (with_reducible first | exact HB.out | apply zA1 | apply zA0 | apply zA3 | refine zA4 ?_ GE199.out) | exact HB.out))) : w.heap.size ≤ gb200)); have n4_ := zA2.mk ((by rw [hg]; exact (zAb (by repeat (first | (with_reducible first | exact HB.out | apply zA1 | apply zA0 | apply zA3 | refine zA4 ?_ GE199.out) | exact HB.out))) : w.heap.size ≤ gb200)); have n5_ := zA2.mk ((by rw [hg]; exact Nat.ne_of_lt (zC8 (g := gb199) (o := .cells #[.string a0_0, .slice A0_1 l0_1.length c0_1] 60 (0, 0)) (by (with_reducible repeat (first | refine zA6 ?_ _ | refine zA8 ?_ | refine zA5 ?_ _)); exact BK199.out)) : gb199 ≠ gb200)); have n6_ := zA2.mk ((by rw [hg]; exact Nat.ne_of_gt (zC8 (g := gb199) (o := .cells #[.string a0_0, .slice A0_1 l0_1.length c0_1] 60 (0, 0)) (by (with_reducible repeat (first | refine zA6 ?_ _ | refine zA8 ?_ | refine zA5 ?_ _)); exact BK199.out)) : gb200 ≠ gb199)); clear BK199; clear HB; have BK199 := n0_; have HB := n1_; have BK200 := n2_; have GW200 := n3_; have GE200 := n4_; have NB199_200 := n5_; have NB200_199 := n6_; clear n0_ n1_ n2_ n3_ n4_ n5_ n6_; clear hb hbox hg; have hnb8 := NB199_200.out; have hnc8 := NB200_199.out; have hcz9_0 : w7.cell? ⟨gb199, 0, none⟩ = some (.string a0_0) := (zA7 BK199.out 0).trans rfl; have hcz9_1 : w7.cell? ⟨gb199, 1, none⟩ = some (.slice A0_1 l0_1.length c0_1) := (zA7 BK199.out 1).trans rfl; have hfz9_0 := zA9 BK199.out 0; have hfz9_1 := zA9 BK199.out 1) | (go_at_call 51; (with_reducible refine (zAt.calls k _ _ l0_1 t201 _ ?side1 ?side2 A3.out).mono ?_); (case side1 => repeat (first | exact (Kd.zAk HR0_1.out HB.out) | (with_reducible refine Kd.zAj ?_ _) | (with_reducible refine Kd.zAs ?_ _) | (with_reducible refine Kd.zB2 ?_))); (case side2 => exact HC0_1.out); rintro e w' ⟨rfl, ⟨nd, rfl⟩⟩; (try first | exact ⟨rfl, _, World.drewN_drewN _ _ _⟩ | exact ⟨rfl, _, Eq.trans (World.drewN_drewN _ _ _) (congrArg (World.drewN _) (Nat.add_assoc _ _ _))⟩); have hcz10_0 : w7.cell? ⟨gb200, 0, none⟩ = some (.string a1_0) := (zA7 BK200.out 0).trans rfl; have hcz10_1 : w7.cell? ⟨gb200, 1, none⟩ = some (.slice A1_1 l1_1.length c1_1) := (zA7 BK200.out 1).trans rfl; have hfz10_0 := zA9 BK200.out 0; have hfz10_1 := zA9 BK200.out 1) | (go_at_call 51; (with_reducible refine (zAt.calls k _ _ l1_1 t202 _ ?side1 ?side2 A4.out).mono ?_); (case side1 => repeat (first | exact (Kd.zAk HR1_1.out (by repeat (first | (with_reducible first | exact HB.out | apply zA1 | apply zA0 | apply zA3 | refine zA4 ?_ GE199.out | refine zA4 ?_ GE200.out) | exact HB.out))) | (with_reducible refine Kd.zAj ?_ _) | (with_reducible refine Kd.zAs ?_ _) | (with_reducible refine Kd.zB2 ?_))); (case side2 => exact HC1_1.out); rintro e w' ⟨rfl, ⟨nd, rfl⟩⟩; (try first | exact ⟨rfl, _, World.drewN_drewN _ _ _⟩ | exact ⟨rfl, _, Eq.trans (World.drewN_drewN _ _ _) (congrArg (World.drewN _) (Nat.add_assoc _ _ _))⟩))))
  go_ret
  exact ⟨by first | rfl | (simp [zAr, zAq] <;> rfl) | (simp [*, zAr, zAq] <;> rfl), by repeat (first | (with_reducible first | exact HB.out | apply zA1 | apply zA0 | apply zA3 | refine zA4 ?_ GE199.out | refine zA4 ?_ GE200.out) | exact HB.out)⟩
 ·rw [if_neg c5] at H
  have c5b0 : (t201 == t202) = false := beq_eq_false_iff_ne.mpr c5
  have c5b1 : (t201 != t202) = true := bne_iff_ne.mpr c5
  obtain rfl := Option.some.inj H
  go_enter Tryz.func48, Tryz.ntmps48
  go_wp2_with (first | ((with_reducible refine zBl (N := 2) rfl ?_); refine zBj ?hg (N := 2) ?hd (cs := #[.string a0_0, .slice A0_1 l0_1.length c0_1]) (t := 60) ?hr ?_; (case hd => rfl); (case hg => rfl); (case hr => first | (go_simp; done) | (go_simp; rfl)); intro gb199 hg w11 hbox hb; have n0_ := zA2.mk (zAe (by repeat (first | (with_reducible first | exact HB.out | apply zA1 | apply zA0 | apply zA3) | exact HB.out)) hb); have n1_ := zA2.mk (hbox); have n2_ := zA2.mk ((by rw [hg]; exact (zAb (by repeat (first | (with_reducible first | exact HB.out | apply zA1 | apply zA0 | apply zA3) | exact HB.out))) : w.heap.size ≤ gb199)); have n3_ := zA2.mk ((by rw [hg]; exact (zAb (by repeat (first | (with_reducible first | exact HB.out | apply zA1 | apply zA0 | apply zA3) | exact HB.out))) : w.heap.size ≤ gb199)); clear HB; have HB := n0_; have BK199 := n1_; have GW199 := n2_; have GE199 := n3_; clear n0_ n1_ n2_ n3_; clear hb hbox hg) | ((with_reducible refine zBl (N := 3) rfl ?_); refine zBj ?hg (N := 3) ?hd (cs := #[.string a1_0, .slice A1_1 l1_1.length c1_1]) (t := 60) ?hr ?_; (case hd => rfl); (case hg => rfl); (case hr => first | (go_simp; done) | (go_simp; rfl)); intro gb200 hg w12 hbox hb; have n0_ := zA2.mk (zAl (g := gb199) (o := .cells #[.string a0_0, .slice A0_1 l0_1.length c0_1] 60 (0, 0)) (by (with_reducible repeat (first | refine zA6 ?_ _ | refine zA8 ?_ | refine zA5 ?_ _)); exact BK199.out) hb); have n1_ := zA2.mk (zAe (by repeat (first | (with_reducible first | exact HB.out | apply zA1 | apply zA0 | apply zA3 | refine zA4 ?_ GE199.out) | exact HB.out)) hb); have n2_ := zA2.mk (hbox); have n3_ := zA2.mk ((by rw [hg]; exact (zAb (by repeat (first | (with_reducible first | exact HB.out | apply zA1 | apply zA0 | apply zA3 | refine zA4 ?_ GE199.out) | exact HB.out))) : w.heap.size ≤ gb200)); have n4_ := zA2.mk ((by rw [hg]; exact (zAb (by repeat (first | (with_reducible first | exact HB.out | apply zA1 | apply zA0 | apply zA3 | refine zA4 ?_ GE199.out) | exact HB.out))) : w.heap.size ≤ gb200)); have n5_ := zA2.mk ((by rw [hg]; exact Nat.ne_of_lt (zC8 (g := gb199) (o := .cells #[.string a0_0, .slice A0_1 l0_1.length c0_1] 60 (0, 0)) (by (with_reducible repeat (first | refine zA6 ?_ _ | refine zA8 ?_ | refine zA5 ?_ _)); exact BK199.out)) : gb199 ≠ gb200)); have n6_ := zA2.mk ((by rw [hg]; exact Nat.ne_of_gt (zC8 (g := gb199) (o := .cells #[.string a0_0, .slice A0_1 l0_1.length c0_1] 60 (0, 0)) (by (with_reducible repeat (first | refine zA6 ?_ _ | refine zA8 ?_ | refine zA5 ?_ _)); exact BK199.out)) : gb200 ≠ gb199)); clear BK199; clear HB; have BK199 := n0_; have HB := n1_; have BK200 := n2_; have GW200 := n3_; have GE200 := n4_; have NB199_200 := n5_; have NB200_199 := n6_; clear n0_ n1_ n2_ n3_ n4_ n5_ n6_; clear hb hbox hg; have hnb13 := NB199_200.out; have hnc13 := NB200_199.out; have hcz14_0 : w12.cell? ⟨gb199, 0, none⟩ = some (.string a0_0) := (zA7 BK199.out 0).trans rfl; have hcz14_1 : w12.cell? ⟨gb199, 1, none⟩ = some (.slice A0_1 l0_1.length c0_1) := (zA7 BK199.out 1).trans rfl; have hfz14_0 := zA9 BK199.out 0; have hfz14_1 := zA9 BK199.out 1) | (go_at_call 51; (with_reducible refine (zAt.calls k _ _ l0_1 t201 _ ?side1 ?side2 A3.out).mono ?_); (case side1 => repeat (first | exact (Kd.zAk HR0_1.out HB.out) | (with_reducible refine Kd.zAj ?_ _) | (with_reducible refine Kd.zAs ?_ _) | (with_reducible refine Kd.zB2 ?_))); (case side2 => exact HC0_1.out); rintro e w' ⟨rfl, ⟨nd, rfl⟩⟩; (try first | exact ⟨rfl, _, World.drewN_drewN _ _ _⟩ | exact ⟨rfl, _, Eq.trans (World.drewN_drewN _ _ _) (congrArg (World.drewN _) (Nat.add_assoc _ _ _))⟩); have hcz15_0 : w12.cell? ⟨gb200, 0, none⟩ = some (.string a1_0) := (zA7 BK200.out 0).trans rfl; have hcz15_1 : w12.cell? ⟨gb200, 1, none⟩ = some (.slice A1_1 l1_1.length c1_1) := (zA7 BK200.out 1).trans rfl; have hfz15_0 := zA9 BK200.out 0; have hfz15_1 := zA9 BK200.out 1) | (go_at_call 51; (with_reducible refine (zAt.calls k _ _ l1_1 t202 _ ?side1 ?side2 A4.out).mono ?_); (case side1 => repeat (first | exact (Kd.zAk HR1_1.out (by repeat (first | (with_reducible first | exact HB.out | apply zA1 | apply zA0 | apply zA3 | refine zA4 ?_ GE199.out | refine zA4 ?_ GE200.out) | exact HB.out))) | (with_reducible refine Kd.zAj ?_ _) | (with_reducible refine Kd.zAs ?_ _) | (with_reducible refine Kd.zB2 ?_))); (case side2 => exact HC1_1.out); rintro e w' ⟨rfl, ⟨nd, rfl⟩⟩; (try first | exact ⟨rfl, _, World.drewN_drewN _ _ _⟩ | exact ⟨rfl, _, Eq.trans (World.drewN_drewN _ _ _) (congrArg (World.drewN _) (Nat.add_assoc _ _ _))⟩)))
  repeat (go_quiet (first | ((with_reducible refine zBl (N := 2) rfl ?_); refine zBj ?hg (N := 2) ?hd (cs := #[.string a0_0, .slice A0_1 l0_1.length c0_1]) (t := 60) ?hr ?_; (case hd => rfl); (case hg => rfl); (case hr => first | (go_simp; done) | (go_simp; rfl)); intro gb199 hg w11 hbox hb; have n0_ := zA2.mk (zAe (by repeat (first | (with_reducible first | exact HB.out | apply zA1 | apply zA0 | apply zA3) | exact HB.out)) hb); have n1_ := zA2.mk (hbox); have n2_ := zA2.mk ((by rw [hg]; exact (zAb (by repeat (first | (with_reducible first | exact HB.out | apply zA1 | apply zA0 | apply zA3) | exact HB.out))) : w.heap.size ≤ gb199)); have n3_ := zA2.mk ((by rw [hg]; exact (zAb (by repeat (first | (with_reducible first | exact HB.out | apply zA1 | apply zA0 | apply zA3) | exact HB.out))) : w.heap.size ≤ gb199)); clear HB; have HB := n0_; have BK199 := n1_; have GW199 := n2_; have GE199 := n3_; clear n0_ n1_ n2_ n3_; clear hb hbox hg) | ((with_reducible refine zBl (N := 3) rfl ?_); refine zBj ?hg (N := 3) ?hd (cs := #[.string a1_0, .slice A1_1 l1_1.length c1_1]) (t := 60) ?hr ?_; (case hd => rfl); (case hg => rfl); (case hr => first | (go_simp; done) | (go_simp; rfl)); intro gb200 hg w12 hbox hb; have n0_ := zA2.mk (zAl (g := gb199) (o := .cells #[.string a0_0, .slice A0_1 l0_1.length c0_1] 60 (0, 0)) (by (with_reducible repeat (first | refine zA6 ?_ _ | refine zA8 ?_ | refine zA5 ?_ _)); exact BK199.out) hb); have n1_ := zA2.mk (zAe (by repeat (first | (with_reducible first | exact HB.out | apply zA1 | apply zA0 | apply zA3 | refine zA4 ?_ GE199.out) | exact HB.out)) hb); have n2_ := zA2.mk (hbox); have n3_ := zA2.mk ((by rw [hg]; exact (zAb (by repeat (first | (with_reducible first | exact HB.out | apply zA1 | apply zA0 | apply zA3 | refine zA4 ?_ GE199.out) | exact HB.out))) : w.heap.size ≤ gb200)); have n4_ := zA2.mk ((by rw [hg]; exact (zAb (by repeat (first | (with_reducible first | exact HB.out | apply zA1 | apply zA0 | apply zA3 | refine zA4 ?_ GE199.out) | exact HB.out))) : w.heap.size ≤ gb200)); have n5_ := zA2.mk ((by rw [hg]; exact Nat.ne_of_lt (zC8 (g := gb199) (o := .cells #[.string a0_0, .slice A0_1 l0_1.length c0_1] 60 (0, 0)) (by (with_reducible repeat (first | refine zA6 ?_ _ | refine zA8 ?_ | refine zA5 ?_ _)); exact BK199.out)) : gb199 ≠ gb200)); have n6_ := zA2.mk ((by rw [hg]; exact Nat.ne_of_gt (zC8 (g := gb199) (o := .cells #[.string a0_0, .slice A0_1 l0_1.length c0_1] 60 (0, 0)) (by (with_reducible repeat (first | refine zA6 ?_ _ | refine zA8 ?_ | refine zA5 ?_ _)); exact BK199.out)) : gb200 ≠ gb199)); clear BK199; clear HB; have BK199 := n0_; have HB := n1_; have BK200 := n2_; have GW200 := n3_; have GE200 := n4_; have NB199_200 := n5_; have NB200_199 := n6_; clear n0_ n1_ n2_ n3_ n4_ n5_ n6_; clear hb hbox hg; have hnb13 := NB199_200.out; have hnc13 := NB200_199.out; have hcz14_0 : w12.cell? ⟨gb199, 0, none⟩ = some (.string a0_0) := (zA7 BK199.out 0).trans rfl; have hcz14_1 : w12.cell? ⟨gb199, 1, none⟩ = some (.slice A0_1 l0_1.length c0_1) := (zA7 BK199.out 1).trans rfl; have hfz14_0 := zA9 BK199.out 0; have hfz14_1 := zA9 BK199.out 1) | (go_at_call 51; (with_reducible refine (zAt.calls k _ _ l0_1 t201 _ ?side1 ?side2 A3.out).mono ?_); (case side1 => repeat (first | exact (Kd.zAk HR0_1.out HB.out) | (with_reducible refine Kd.zAj ?_ _) | (with_reducible refine Kd.zAs ?_ _) | (with_reducible refine Kd.zB2 ?_))); (case side2 => exact HC0_1.out); rintro e w' ⟨rfl, ⟨nd, rfl⟩⟩; (try first | exact ⟨rfl, _, World.drewN_drewN _ _ _⟩ | exact ⟨rfl, _, Eq.trans (World.drewN_drewN _ _ _) (congrArg (World.drewN _) (Nat.add_assoc _ _ _))⟩); have hcz15_0 : w12.cell? ⟨gb200, 0, none⟩ = some (.string a1_0) := (zA7 BK200.out 0).trans rfl; have hcz15_1 : w12.cell? ⟨gb200, 1, none⟩ = some (.slice A1_1 l1_1.length c1_1) := (zA7 BK200.out 1).trans rfl; have hfz15_0 := zA9 BK200.out 0; have hfz15_1 := zA9 BK200.out 1) | (go_at_call 51; (with_reducible refine (zAt.calls k _ _ l1_1 t202 _ ?side1 ?side2 A4.out).mono ?_); (case side1 => repeat (first | exact (Kd.zAk HR1_1.out (by repeat (first | (with_reducible first | exact HB.out | apply zA1 | apply zA0 | apply zA3 | refine zA4 ?_ GE199.out | refine zA4 ?_ GE200.out) | exact HB.out))) | (with_reducible refine Kd.zAj ?_ _) | (with_reducible refine Kd.zAs ?_ _) | (with_reducible refine Kd.zB2 ?_))); (case side2 => exact HC1_1.out); rintro e w' ⟨rfl, ⟨nd, rfl⟩⟩; (try first | exact ⟨rfl, _, World.drewN_drewN _ _ _⟩ | exact ⟨rfl, _, Eq.trans (World.drewN_drewN _ _ _) (congrArg (World.drewN _) (Nat.add_assoc _ _ _))⟩))); try go_wp2_with (first | ((with_reducible refine zBl (N := 2) rfl ?_); refine zBj ?hg (N := 2) ?hd (cs := #[.string a0_0, .slice A0_1 l0_1.length c0_1]) (t := 60) ?hr ?_; (case hd => rfl); (case hg => rfl); (case hr => first | (go_simp; done) | (go_simp; rfl)); intro gb199 hg w11 hbox hb; have n0_ := zA2.mk (zAe (by repeat (first | (with_reducible first | exact HB.out | apply zA1 | apply zA0 | apply zA3) | exact HB.out)) hb); have n1_ := zA2.mk (hbox); have n2_ := zA2.mk ((by rw [hg]; exact (zAb (by repeat (first | (with_reducible first | exact HB.out | apply zA1 | apply zA0 | apply zA3) | exact HB.out))) : w.heap.size ≤ gb199)); have n3_ := zA2.mk ((by rw [hg]; exact (zAb (by repeat (first | (with_reducible first | exact HB.out | apply zA1 | apply zA0 | apply zA3) | exact HB.out))) : w.heap.size ≤ gb199)); clear HB; have HB := n0_; have BK199 := n1_; have GW199 := n2_; have GE199 := n3_; clear n0_ n1_ n2_ n3_; clear hb hbox hg) | ((with_reducible refine zBl (N := 3) rfl ?_); refine zBj ?hg (N := 3) ?hd (cs := #[.string a1_0, .slice A1_1 l1_1.length c1_1]) (t := 60) ?hr ?_; (case hd => rfl); (case hg => rfl); (case hr => first | (go_simp; done) | (go_simp; rfl)); intro gb200 hg w12 hbox hb; have n0_ := zA2.mk (zAl (g := gb199) (o := .cells #[.string a0_0, .slice A0_1 l0_1.length c0_1] 60 (0, 0)) (by (with_reducible repeat (first | refine zA6 ?_ _ | refine zA8 ?_ | refine zA5 ?_ _)); exact BK199.out) hb); have n1_ := zA2.mk (zAe (by repeat (first | (with_reducible first | exact HB.out | apply zA1 | apply zA0 | apply zA3 | refine zA4 ?_ GE199.out) | exact HB.out)) hb); have n2_ := zA2.mk (hbox); have n3_ := zA2.mk ((by rw [hg]; exact (zAb (by repeat (first | (with_reducible first | exact HB.out | apply zA1 | apply zA0 | apply zA3 | refine zA4 ?_ GE199.out) | exact HB.out))) : w.heap.size ≤ gb200)); have n4_ := zA2.mk ((by rw [hg]; exact (zAb (by repeat (first | (with_reducible first | exact HB.out | apply zA1 | apply zA0 | apply zA3 | refine zA4 ?_ GE199.out) | exact HB.out))) : w.heap.size ≤ gb200)); have n5_ := zA2.mk ((by rw [hg]; exact Nat.ne_of_lt (zC8 (g := gb199) (o := .cells #[.string a0_0, .slice A0_1 l0_1.length c0_1] 60 (0, 0)) (by (with_reducible repeat (first | refine zA6 ?_ _ | refine zA8 ?_ | refine zA5 ?_ _)); exact BK199.out)) : gb199 ≠ gb200)); have n6_ := zA2.mk ((by rw [hg]; exact Nat.ne_of_gt (zC8 (g := gb199) (o := .cells #[.string a0_0, .slice A0_1 l0_1.length c0_1] 60 (0, 0)) (by (with_reducible repeat (first | refine zA6 ?_ _ | refine zA8 ?_ | refine zA5 ?_ _)); exact BK199.out)) : gb200 ≠ gb199)); clear BK199; clear HB; have BK199 := n0_; have HB := n1_; have BK200 := n2_; have GW200 := n3_; have GE200 := n4_; have NB199_200 := n5_; have NB200_199 := n6_; clear n0_ n1_ n2_ n3_ n4_ n5_ n6_; clear hb hbox hg; have hnb13 := NB199_200.out; have hnc13 := NB200_199.out; have hcz14_0 : w12.cell? ⟨gb199, 0, none⟩ = some (.string a0_0) := (zA7 BK199.out 0).trans rfl; have hcz14_1 : w12.cell? ⟨gb199, 1, none⟩ = some (.slice A0_1 l0_1.length c0_1) := (zA7 BK199.out 1).trans rfl; have hfz14_0 := zA9 BK199.out 0; have hfz14_1 := zA9 BK199.out 1) | (go_at_call 51; (with_reducible refine (zAt.calls k _ _ l0_1 t201 _ ?side1 ?side2 A3.out).mono ?_); (case side1 => repeat (first | exact (Kd.zAk HR0_1.out HB.out) | (with_reducible refine Kd.zAj ?_ _) | (with_reducible refine Kd.zAs ?_ _) | (with_reducible refine Kd.zB2 ?_))); (case side2 => exact HC0_1.out); rintro e w' ⟨rfl, ⟨nd, rfl⟩⟩; (try first | exact ⟨rfl, _, World.drewN_drewN _ _ _⟩ | exact ⟨rfl, _, Eq.trans (World.drewN_drewN _ _ _) (congrArg (World.drewN _) (Nat.add_assoc _ _ _))⟩); have hcz15_0 : w12.cell? ⟨gb200, 0, none⟩ = some (.string a1_0) := (zA7 BK200.out 0).trans rfl; have hcz15_1 : w12.cell? ⟨gb200, 1, none⟩ = some (.slice A1_1 l1_1.length c1_1) := (zA7 BK200.out 1).trans rfl; have hfz15_0 := zA9 BK200.out 0; have hfz15_1 := zA9 BK200.out 1) | (go_at_call 51; (with_reducible refine (zAt.calls k _ _ l1_1 t202 _ ?side1 ?side2 A4.out).mono ?_); (case side1 => repeat (first | exact (Kd.zAk HR1_1.out (by repeat (first | (with_reducible first | exact HB.out | apply zA1 | apply zA0 | apply zA3 | refine zA4 ?_ GE199.out | refine zA4 ?_ GE200.out) | exact HB.out))) | (with_reducible refine Kd.zAj ?_ _) | (with_reducible refine Kd.zAs ?_ _) | (with_reducible refine Kd.zB2 ?_))); (case side2 => exact HC1_1.out); rintro e w' ⟨rfl, ⟨nd, rfl⟩⟩; (try first | exact ⟨rfl, _, World.drewN_drewN _ _ _⟩ | exact ⟨rfl, _, Eq.trans (World.drewN_drewN _ _ _) (congrArg (World.drewN _) (Nat.add_assoc _ _ _))⟩))))
  go_ret
  exact ⟨by first | rfl | (simp [zAr, zAq] <;> rfl) | (simp [*, zAr, zAq] <;> rfl), by repeat (first | (with_reducible first | exact HB.out | apply zA1 | apply zA0 | apply zA3 | refine zA4 ?_ GE199.out | refine zA4 ?_ GE200.out) | exact HB.out)⟩
end
end Go.Proofs.YtbghfbhlbfcloaaGreatDoor.PL
