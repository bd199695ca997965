/- Put together by this session's program pack.py. -/
import Derived.Below
import Derived.Deep.Draws
import Derived.Deep.AppendLies
import Derived.Maps.AppendAt
import Derived.OwnWalk
import Derived.Laws.BytesArg
import Derived.Laws.MakeOwn
import Derived.Laws.OwnMore
import Derived.Deep.OwnRows
import Derived.Tactics
import Derived.Lib.ConvBytes
import Derived.Laws.Slices
import Derived.WalkKit
import Derived.KernelRfl
import Derived.RowKit3
import Derived.Deep.LoopGhost
import Derived.Deep.QuietTactic
import Derived.BigQuiet
import Derived.WideLaws
import Derived.Deep.DeepCutAuto
import Derived.Deep.CutBlock
import Derived.Deep.RegionHeld3
import Derived.Laws.Rows
import Derived.Lib.AppendStr
import Derived.ArgAppend
import Derived.Laws.IdiomCopy
import Derived.OrdersHeld
import Derived.Laws.BitsLemmas
import Derived.RowKit
import Derived.Sort.Grow
import Derived.Shelf.SlSortCmp.InsertionK
import Derived.WalkSpells
import Derived.Shelf.SlSortCmp.NoneTotal
import Derived.Shelf.SlGeneric
import Derived.Ground.SlsfProg
import Derived.RangeFuncNested
import Derived.RangeFuncBound
import Derived.RangeFuncCalls
import Derived.RangeFuncLeaves
import Derived.Shelf.Abstract
import Derived.Shelf.RegionOpen
import Derived.OwnWalkIn
import Derived.TacticsInMore
import Derived.LoopNIn
import Derived.LoopIn
import Derived.OrdersIn
import Derived.RangeFuncKeeps
import Derived.RangeFuncWrites
import Derived.Shelf.SlicesQ.IndexFunc
import Derived.Shelf.GgClosure.StringsIndexFuncTop
import Derived.Ground.SlgfProg
import Derived.Ground.GgwProg
import Derived.Test.YtbghfbhlbfcloaaDoorKw0
import Derived.Test.YtbghfbhlbfcloaaDoorKp0
import Derived.Test.YtbghfbhlbfcloaaDoorKp1
namespace Go.Proofs.YtbghfbhlbfcloaaDoor.PL
section
open Go.RowKit Go.Proofs.YtbghfbhlbfcloaaDoorW.PrintWords Go.Proofs.YtbghfbhlbfcloaaDoorW.PrintLast Go.Proofs.YtbghfbhlbfcloaaDoorW.PrintMore
set_option linter.unusedVariables false
set_option linter.unusedSimpArgs false
section
variable {P : Program} {ops : Array Oper} {Q : Exit → Act → World → Prop}

theorem uponIn_of {o : Oper} {a : Act} {K : Act → World → Prop} {n l : Nat} {r : Result Next} (h : o.upon P a K Q r) : o.uponIn (Fence.wide.inRound l) n P a K Q r := by
 cases r with
 | ok x w =>
  cases x <;> simp only [Oper.upon, Oper.uponIn] at h ⊢ <;> first | exact h | skip
  ·refine ⟨by simp [Fence.wide], CallsIn.inRound l (callsIn_wide.2 (Calls.mono h (fun e w'' he => ?_)))⟩
   cases e <;> exact he
  ·refine ⟨by simp [Fence.wide], fun c cs _ => ?_⟩
   obtain ⟨v, w', hr, hs⟩ := h c cs
   exact ⟨v, w', hr, stepsIn_wide.2 hs⟩
 | halt x w => cases x <;> simp only [Oper.upon, Oper.uponIn] at h ⊢ <;> exact h

theorem wpAnyIn_of (hL : ¬ LetsOut Q) (hnd : ∀ (i : Nat) (o : Oper), ops[i]? = some o → ∀ c, o.op ≠ .defer c) {n l : Nat} : ∀ (fuel : Nat) (listed : Array Bool) (a : Act) (w : World), wpAny P .any ops Q fuel listed a w → wpAnyIn (Fence.wide.inRound l) n P .any ops Q fuel listed a w
 | 0, listed, a, w, h => h
 | fuel + 1, listed, a, w, h => by
  refine ⟨h.1, fun i hi => ?_⟩
  have h1 := h.2 i hi
  unfold wpOp at h1
  unfold wpOpIn
  cases ho : ops[i]? with
  | none =>
   rw [ho] at h1
   exact wpAnyIn_of hL hnd fuel _ a w h1
  | some o =>
   rw [ho] at h1
   simp only at h1 ⊢
   split
   ·rename_i hw
    rw [if_pos hw] at h1
    rcases h1 with h1 | h1
    ·refine ⟨fun _ _ => trivial, ?_⟩
     rw [Oper.semAt_eq _ _ _ (hnd i o ho)]
     exact uponIn_of (Oper.wp_mono (fun a w hh => wpAnyIn_of hL hnd fuel _ a w hh) h1)
    ·exact absurd h1.2 hL
   ·rename_i hw
    rw [if_neg hw] at h1
    exact ⟨fun _ _ => trivial, wpAnyIn_of hL hnd fuel _ _ w h1⟩

/-- A drawn region in a round. -/
theorem start_in {id n l m : Nat} {a : Act} {w : World} {S : World → Prop} {ds : List Nat} (L : Array Bool) (hm : P.follows .mixedOrders = true) (hn : ops.size = n) (hl : Array.replicate n false = L) (hL : ¬ LetsOut Q) (hnd : ∀ (i : Nat) (o : Oper), ops[i]? = some o → ∀ c, o.op ≠ .defer c)
  (hS : S w.drew) (h : S w.drew → zC6 P .any ops Q S ds n L a w.drew) : (Code.region id ops true).wpIn (Fence.wide.inRound l) m P Q a w := by
 subst hn
 subst hl
 exact wpIn_region_any hm (wpAnyIn_of hL hnd _ _ a _ (wpAny_of_last _ _ _ _ (h hS)))
end
end
end Go.Proofs.YtbghfbhlbfcloaaDoor.PL
namespace Go.Proofs.YtbghfbhlbfcloaaDoor.PL
section
open Go.RowKit Go.Proofs.YtbghfbhlbfcloaaDoorW.PrintWords Go.Proofs.YtbghfbhlbfcloaaDoorW.PrintLast Go.Proofs.YtbghfbhlbfcloaaDoorW.PrintMore
attribute [local go_sem] Oper.semAt_some
set_option linter.unusedVariables false
set_option linter.unusedSimpArgs false

def nextS (m s : Int) : Int := Go.bits .and .u64 (IntKind.u64.wrap (s - 1)) m
/-- The numbers that 's = (s - 1) & m' passes through, from s on, down to 0. -/
def Chain (m : Int) : Int → List Int → Prop
 | s, [] => s = 0
 | s, a :: r => a = s ∧ 0 < s ∧ 0 ≤ nextS m s ∧ nextS m s < s ∧ Chain m (nextS m s) r

theorem grown_of_below {W W' : World} (h : Below W.heap.size W W') : W.grownBy W' none := ⟨h.os, h.tape, h.output, h.size, fun k hk _ => h.block k hk⟩
theorem wide_depth : ¬ Fence.wide.depth.isSome = true := by simp [Fence.wide]

/-- What a round keeps: all below n₁, and the iterator's two boxes. -/
structure Kq (n₁ mB lB : Nat) (W W' : World) : Prop where mk ::
 b : Below n₁ W W'
 m : W'.heap[mB]? = W.heap[mB]?
 l : W'.heap[lB]? = W.heap[lB]?
theorem Kq.refl (n₁ mB lB : Nat) (W : World) : Kq n₁ mB lB W W := ⟨Below.refl _ _, rfl, rfl⟩
theorem Kq.trans {n₁ mB lB : Nat} {A B C : World} (h : Kq n₁ mB lB A B) (k : Kq n₁ mB lB B C) : Kq n₁ mB lB A C := ⟨h.b.trans k.b, k.m.trans h.m, k.l.trans h.l⟩
theorem Kq.of {n n₁ mB lB : Nat} {A B : World} (h : Below n A B) (h1 : n₁ ≤ n) (hm : mB < n) (hl : lB < n) : Kq n₁ mB lB A B := ⟨h.mono h1, h.block _ hm, h.block _ hl⟩
theorem cell_of_heap {W W' : World} {k : Nat} (h : W'.heap[k]? = W.heap[k]?) (o : Nat) : W'.cell? ⟨k, o, none⟩ = W.cell? ⟨k, o, none⟩ := by simp only [World.cell?, h]

set_option maxRecDepth 100000 in
set_option maxHeartbeats 2000000 in
theorem subsets_in (k : Nat) (AL : Option Addr) (cL : Nat) (L : List Int) (m : Int) (ms : List Int) (cn : Int → Bool) (mB lB n₀ : Nat) (n l : Nat) (J Jx : List Int → World → Prop) (W : World) (hn0 : n₀ ≤ W.heap.size)
  (hJ : AbidesFrom W.heap.size J)
  (hm : W.cell? ⟨mB, 0, none⟩ = some (.int .u64 m)) (hl : W.cell? ⟨lB, 0, none⟩ = some (.slice AL L.length cL))
  (hC : ∀ W', Kq n₀ mB lB W W' → Kd.C (Kd.int .u64) W' AL L.length L) (hcL : L.length ≤ cL) (hG : ∀ W', Kq n₀ mB lB W W' → Kd.C (Kd.int .u8) W' (some tabA) tabL.length tabL)
  (hch : Chain m m ms) (hcn : ∀ s ∈ ms, zAr.f k L s = some (cn s))
  (hY : ∀ pre x W1, x ∈ ms.filter cn → J pre W1 → pre.length < (ms.filter cn).length → YieldAt Fence.wide (n - 1) Tryd.prog l #[.int .u64 x] W1 fun e W' =>
   (e = .returned (.bool true) ∧ J (pre ++ [x]) W' ∧ Kq n₀ mB lB W1 W') ∨ (e = .returned (.bool false) ∧ Jx (pre ++ [x]) W'))
  (h0 : J [] W) :
  CallsIn Fence.wide n Tryd.prog 66 #[.func (.yield l) #[] #[], .pointer (some ⟨mB, 0, none⟩), .pointer (some ⟨lB, 0, none⟩)] W fun e W' => (∃ v, e = .returned v) ∧
   ((∃ xs, xs = ms.filter cn ∧ J xs W') ∨ (∃ pre, True ∧ Jx pre W')) := by
 have HC := zA1.mk hC
 have HCL := zA1.mk hcL
 have HG := zA1.mk hG
 have HCN := zA1.mk hcn
 have HY := zA1.mk hY
 have HJ := zA1.mk hJ
 have HN := zA1.mk hn0
 have hB0 : Kq n₀ mB lB W W := Kq.refl _ _ _ _
 clear hC hcL hG hcn hY hJ hn0
 refine callsIn_of_wp Tryd.func66 rfl trivial ?_ rfl
 simp only [Tryd.ntmps66, List.size_toArray, List.length_cons, List.length_nil, Nat.reduceAdd, Nat.reduceSub, Array.replicate_succ, Array.replicate_zero, List.push_toArray, List.append_toArray, List.nil_append, List.cons_append]
 gi_wp2
 gi_loopw [4] (fun v4 wr => ∃ (s : Int) (pre rest : List Int), v4 = .int .u64 s ∧ zA1 (ms = pre ++ rest) ∧ zA1 (Chain m s rest) ∧ zA1 (J (pre.filter cn) wr) ∧ zA1 (Kq n₀ mB lB W wr) ∧ zA1 (W.heap.size ≤ wr.heap.size)) (fun v4 _ => (intOf v4).toNat)
 case atStart => exact ⟨m, [], ms, rfl, ⟨rfl⟩, ⟨hch⟩, ⟨h0⟩, ⟨Kq.refl _ _ _ _⟩, ⟨Nat.le_refl _⟩⟩
 case round =>
  obtain ⟨s, pre, rest, rfl, HM, HCH, HJs, HB, HSZ⟩ := hrel
  have hmr := (cell_of_heap HB.out.m 0).trans hm
  have hlr := (cell_of_heap HB.out.l 0).trans hl
  cases rest with
  | nil =>
   obtain rfl : s = 0 := HCH.out
   gi_wp2
   go_end0
   have e := HM.out
   rw [List.append_nil] at e
   exact ⟨⟨_, rfl⟩, .inl ⟨_, rfl, by rw [e]; exact HJs.out⟩⟩
  | cons a r =>
   obtain ⟨rfl, hs0, hs1, hs2, hch2⟩ := HCH.out
   have HCH2 := zA1.mk hch2
   clear hch2
   have hmem : a ∈ ms := by rw [HM.out]; simp
   have hf := HCN.out a hmem
   have hne : (a != 0) = true := by simp; omega
   have CC := callsIn_wide (n := n - 1) |>.2 (zAr.calls k AL cL L a (cn a) wr (HC.out wr HB.out) HCL.out (HG.out wr HB.out) hf)
   have HCC := zA1.mk CC
   clear CC hf
   cases hc : cn a with
   | false =>
    have Hc := zA1.mk hc
    rw [hc] at HCC
    clear hc
    gi_wp2_with (refine ⟨trivial, (fun h => absurd h wide_depth), ?_⟩; gi_at_call 35; refine HCC.out.mono ?_; rintro e w2 ⟨rfl, hb2⟩; have hm2 := (hb2.cell (World.block_lt_of_cell? wr _ hmr)).trans hmr; have HB2 := zA1.mk hb2; clear hb2)
    refine ⟨fun _ h => (by cases h), ?_⟩
    gi_wp2
    go_roundw
    case rel => exact ⟨nextS m a, pre ++ [a], r, rfl, ⟨by rw [HM.out]; simp⟩, HCH2, ⟨by rw [List.filter_append, List.filter_cons_of_neg (by rw [Hc.out]; simp), List.filter_nil, List.append_nil]; exact HJ.out _ _ _ none HJs.out (grown_of_below HB2.out) (fun r h => by cases h)⟩, ⟨HB.out.trans (Kq.of HB2.out (Nat.le_trans HN.out HSZ.out) (World.block_lt_of_cell? wr _ hmr) (World.block_lt_of_cell? wr _ hlr))⟩, ⟨Nat.le_trans HSZ.out HB2.out.size⟩⟩
    case measure => show (nextS m a).toNat < a.toNat; omega
   | true =>
    have hmem2 : (pre.filter cn).length < (ms.filter cn).length := by rw [HM.out, List.filter_append, List.filter_cons_of_pos hc]; simp
    rw [hc] at HCC
    have Hc := zA1.mk hc
    clear hc
    gi_wp2_with (refine ⟨trivial, (fun h => absurd h wide_depth), ?_⟩; gi_at_call 35; refine HCC.out.mono ?_; rintro e w2 ⟨rfl, hb2⟩; have hm2 := (hb2.cell (World.block_lt_of_cell? wr _ hmr)).trans hmr; have HB2 := zA1.mk hb2; clear hb2; obtain ⟨fn, tmps, assign, body, hy, hR⟩ := HY.out _ a w2 (List.mem_filter.2 ⟨hmem, Hc.out⟩) (HJ.out _ _ _ none HJs.out (grown_of_below HB2.out) (fun r h => by cases h)) hmem2; have HRR := zA1.mk hR; clear hR)
    refine ⟨fun h => absurd h wide_depth, HRR.out.mono ?_⟩
    rintro e W3 (⟨rfl, hJ3, hk3⟩ | ⟨rfl, hJx3⟩)
    ·have hm3 := (cell_of_heap hk3.m 0).trans hm2
     have HJ3 := zA1.mk hJ3
     have HK3 := zA1.mk hk3
     clear hJ3 hk3
     gi_wp2
     go_roundw
     case rel => exact ⟨nextS m a, pre ++ [a], r, rfl, ⟨by rw [HM.out]; simp⟩, HCH2, ⟨by rw [List.filter_append, List.filter_cons_of_pos Hc.out, List.filter_nil]; exact HJ3.out⟩, ⟨(HB.out.trans (Kq.of HB2.out (Nat.le_trans HN.out HSZ.out) (World.block_lt_of_cell? wr _ hmr) (World.block_lt_of_cell? wr _ hlr))).trans HK3.out⟩, ⟨Nat.le_trans HSZ.out (Nat.le_trans HB2.out.size HK3.out.b.size)⟩⟩
     case measure => show (nextS m a).toNat < a.toNat; omega
    ·have HJX := zA1.mk hJx3
     clear hJx3
     gi_wp2
     refine bodyPost_ret (results_none rfl _ _ _) rfl ?_
     exact ⟨⟨_, rfl⟩, .inr ⟨_, trivial, HJX.out⟩⟩

/-- The iterator's contract as' the loop's law wants it. -/
theorem subsets_stops (k : Nat) (AL : Option Addr) (cL : Nat) (L : List Int) (m : Int) (ms : List Int) (cn : Int → Bool) (mB lB n₀ : Nat) (n : Nat) (w0 : World) (hn0 : n₀ ≤ w0.heap.size)
  (hm : w0.cell? ⟨mB, 0, none⟩ = some (.int .u64 m)) (hl : w0.cell? ⟨lB, 0, none⟩ = some (.slice AL L.length cL))
  (hCb : ∀ W', Kq n₀ mB lB w0 W' → Kd.C (Kd.int .u64) W' AL L.length L) (hcL : L.length ≤ cL) (hGb : ∀ W', Kq n₀ mB lB w0 W' → Kd.C (Kd.int .u8) W' (some tabA) tabL.length tabL)
  (hch : Chain m m ms) (hcn : ∀ s ∈ ms, zAr.f k L s = some (cn s)) :
  SeqStopsK Fence.wide n Tryd.prog 66 #[.pointer (some ⟨mB, 0, none⟩), .pointer (some ⟨lB, 0, none⟩)] (fun x : { x : Int // x ∈ ms.filter cn } => #[.int .u64 x.1]) (Kq n₀ mB lB) (fun xs => xs.map (fun x => x.1) = ms.filter cn) (fun _ => True) (ms.filter cn).length w0 := by
 intro l J Jx W hW hJ _ hY h0
 have hB : Kq n₀ mB lB w0 W := Kq.of hW hn0 (World.block_lt_of_cell? w0 _ hm) (World.block_lt_of_cell? w0 _ hl)
 refine (subsets_in k AL cL L m ms cn mB lB n₀ n l (fun pre W' => ∃ xs : List { x : Int // x ∈ ms.filter cn }, xs.map (fun x => x.1) = pre ∧ J xs W') (fun _ W' => ∃ xs : List { x : Int // x ∈ ms.filter cn }, Jx xs W') W (Nat.le_trans hn0 hW.size) ?_ ((cell_of_heap hB.m 0).trans hm) ((cell_of_heap hB.l 0).trans hl) (fun W' h => hCb W' (hB.trans h)) hcL (fun W' h => hGb W' (hB.trans h)) hch hcn ?_ ⟨[], rfl, h0⟩).mono ?_
 ·rintro s A B row ⟨xs, e, hj⟩ hg hr
  exact ⟨xs, e, hJ xs A B row hj hg hr⟩
 ·rintro pre x W1 hx ⟨xs, rfl, hj⟩ hlen
  obtain ⟨fn, tmps, assign, body, hy, hR⟩ := hY xs ⟨x, hx⟩ W1 hj (by simpa using hlen)
  refine ⟨fn, tmps, assign, body, hy, hR.mono ?_⟩
  rintro e W' (⟨rfl, h1, h2⟩ | ⟨rfl, h1⟩)
  ·exact .inl ⟨rfl, ⟨_, by simp, h1⟩, h2⟩
  ·exact .inr ⟨rfl, _, h1⟩
 ·rintro e W' ⟨hv, ⟨xs, rfl, xs', he, hj⟩ | ⟨pre, _, xs', hj⟩⟩
  ·exact ⟨hv, .inl ⟨xs', he, hj⟩⟩
  ·exact ⟨hv, .inr ⟨xs', trivial, hj⟩⟩
end
end Go.Proofs.YtbghfbhlbfcloaaDoor.PL
namespace Go.Proofs.YtbghfbhlbfcloaaDoor.PL
section
open Go.RowKit Go.Proofs.YtbghfbhlbfcloaaDoorW.PrintWords Go.Proofs.YtbghfbhlbfcloaaDoorW.PrintLast Go.Proofs.YtbghfbhlbfcloaaDoorW.PrintMore
attribute [local go_sem] zC2 zC0 zC9 zC8 zBs zBr zC1 zBz   -- for this text's walks alone
set_option linter.unusedVariables false
set_option linter.unusedSimpArgs false
/-! ### zB7: function 70 -/
def zB7.l0 : Nat → List Int → List Int → List Int → Int → Int → Option (Int)
 | 0, _, _, _, _, _ => none
 | k + 1, x0, x1, x9, x10, x11 => if x11 < x10 then (if 0 ≤ x11 then (if x11 < (x9.length : Int) then (if x11 ≥ (x1.length : Int) then (some 1) else (if x11 < (x1.length : Int) then ((zC7.f (rd x9 x11) (rd x1 x11)).bind fun t175 => (if t175 = 0 then (zB7.l0 k x0 x1 x9 x10 (wrap64 (x11 + 1))) else (some t175))) else (none))) else (none)) else (none)) else (if (x0.length : Int) < (x1.length : Int) then (some (-1)) else (some 0))
def zB7.f (k : Nat) (l0 : List Int) (l1 : List Int) : Option (Int) := zB7.l0 k l0 l1 l0 (l0.length : Int) 0
theorem zB7.zBx : ∀ k, (∀ y0 y1 y2 y3 y4, LeO (zB7.l0 k y0 y1 y2 y3 y4) (zB7.l0 (k + 1) y0 y1 y2 y3 y4))
 | 0 => fun _ _ _ _ _ r h => by simp [zB7.l0] at h
 | k + 1 => by
  have ih0 := zB7.zBx k
  ·intro y0 y1 y2 y3 y4
   unfold zB7.l0
   repeat' first
   | (with_reducible exact ih0 _ _ _ _ _)
   | (with_reducible exact LeO.refl _)
   | (with_reducible exact LeO.none _)
   | (with_reducible refine LeO.ite ?_ ?_)
   | (with_reducible refine LeO.bind ?_ (fun _ => ?_))
theorem zB7.mono : ∀ a0 a1 k, LeO (zB7.f k a0 a1) (zB7.f (k + 1) a0 a1) := by
 intro a0 a1 k
 have ih0 := zB7.zBx k
 unfold zB7.f
 repeat' first
   | (with_reducible exact ih0 _ _ _ _ _)
   | (with_reducible exact LeO.refl _)
   | (with_reducible exact LeO.none _)
   | (with_reducible refine LeO.ite ?_ ?_)
   | (with_reducible refine LeO.bind ?_ (fun _ => ?_))
set_option maxHeartbeats 8000000 in
set_option maxRecDepth 100000 in
theorem zB7.calls (k : Nat) (A0 : Option Addr) (c0 : Nat) (l0 : List Int) (A1 : Option Addr) (c1 : Nat) (l1 : List Int) (r : Int) (w : World) (hr0 : Kd.C (Kd.int .i64) w A0 l0.length l0) (hc0 : l0.length ≤ c0) (hr1 : Kd.C (Kd.int .i64) w A1 l1.length l1) (hc1 : l1.length ≤ c1) (h : zB7.f k l0 l1 = some r) :
  Calls Tryd.prog 70 #[.slice A0 l0.length c0, .slice A1 l1.length c1] w fun e w' => e = .returned (.int .i64 r) ∧ zBd w w' := by
 have HR0 := zA1.mk hr0
 have HC0 := zA1.mk hc0
 clear hr0 hc0
 have HR1 := zA1.mk hr1
 have HC1 := zA1.mk hc1
 clear hr1 hc1
 have H : (zB7.l0 k l0 l1 l0 (l0.length : Int) 0) = some r := h
 clear h
 have H' := zA1.mk H
 clear H
 go_enter Tryd.func70, Tryd.ntmps70
 go_wp2
 go_loopg [11] k (fun kq v11 w' => ∃ (x11_1 : Int), v11 = .int .i64 x11_1 ∧ zA1 (zB7.l0 kq l0 l1 l0 (l0.length : Int) x11_1 = some r) ∧ zA1 (kq ≤ k) ∧ zBd w w')
 case atStart => exact ⟨(0), (by first | rfl | (simp; done) | (simp [*]; done)), H', ⟨Nat.le_refl _⟩, by repeat (first | exact zBd.refl _ | apply zBd.step)⟩
 case round =>
  clear H'
  try clear c1
  try clear p2
  obtain ⟨x11_1, rfl, HA, HK1, ⟨m1, rfl⟩⟩ := hrel
  cases gk with
  | zero => exact absurd HA.out (by simp [zB7.l0])
  | succ k1 =>
   have H := HA.out
   clear HA
   simp only [zB7.l0] at H
   by_cases c3 : x11_1 < (l0.length : Int)
   ·rw [if_pos c3] at H
    have c3b0 : decide (x11_1 < (l0.length : Int)) = true := decide_eq_true c3
    clear c3
    by_cases c4 : 0 ≤ x11_1
    ·rw [if_pos c4] at H
     have c4b0 : decide (0 ≤ x11_1) = true := decide_eq_true c4
     clear c4
     by_cases c5 : x11_1 < (l0.length : Int)
     ·rw [if_pos c5] at H
      have c5b0 : decide (x11_1 < (l0.length : Int)) = true := decide_eq_true c5
      clear c5
      by_cases c6 : x11_1 ≥ (l1.length : Int)
      ·rw [if_pos c6] at H
       have c6b0 : decide ((l1.length : Int) ≤ x11_1) = true := decide_eq_true c6
       clear c6
       obtain rfl := Option.some.inj H
       have p173 : 0 ≤ (x11_1 : Int) := of_decide_eq_true (by first | (with_reducible assumption) | assumption)
       have q173 : x11_1 < (l0.length : Int) := of_decide_eq_true (by first | (with_reducible assumption) | assumption)
       obtain ⟨ad173, e173, hx173_0⟩ := Kd.zCb HR0.out x11_1 p173 q173
       cases e173
       replace p173 := eq_true p173
       replace q173 := eq_true q173
       go_wp2
       go_ret
       exact ⟨by first | rfl | (simp; done) | (simp [*]; done), by repeat (first | exact zBd.refl _ | apply zBd.step)⟩
      ·rw [if_neg c6] at H
       have c6b0 : decide ((l1.length : Int) ≤ x11_1) = false := decide_eq_false c6
       clear c6
       by_cases c7 : x11_1 < (l1.length : Int)
       ·rw [if_pos c7] at H
        have c7b0 : decide (x11_1 < (l1.length : Int)) = true := decide_eq_true c7
        clear c7
        replace H := Option.bind_eq_some_iff.mp H
        obtain ⟨t175, A80, H⟩ := H
        replace H : (if t175 = 0 then (zB7.l0 k1 l0 l1 l0 (l0.length : Int) (wrap64 (x11_1 + 1))) else (some t175)) = some r := H
        have A8 := zA1.mk A80
        clear A80
        by_cases c9 : t175 = 0
        ·rw [if_pos c9] at H
         have c9b0 : (t175 == 0) = true := beq_iff_eq.mpr c9
         have c9b1 : (t175 != 0) = false := bne_eq_false_iff_eq.mpr c9
         clear c9
         have H' := zA1.mk H
         clear H
         have p173 : 0 ≤ (x11_1 : Int) := of_decide_eq_true (by first | (with_reducible assumption) | assumption)
         have q173 : x11_1 < (l0.length : Int) := of_decide_eq_true (by first | (with_reducible assumption) | assumption)
         obtain ⟨ad173, e173, hx173_0⟩ := Kd.zCb HR0.out x11_1 p173 q173
         cases e173
         replace p173 := eq_true p173
         replace q173 := eq_true q173
         have p174 : 0 ≤ (x11_1 : Int) := of_decide_eq_true (by first | (with_reducible assumption) | assumption)
         have q174 : x11_1 < (l1.length : Int) := of_decide_eq_true (by first | (with_reducible assumption) | assumption)
         obtain ⟨ad174, e174, hx174_0⟩ := Kd.zCb HR1.out x11_1 p174 q174
         cases e174
         replace p174 := eq_true p174
         replace q174 := eq_true q174
         go_wp2_with (first | ((with_reducible refine zBc (f := 80) rfl ?_); refine zCf (some 26) rfl rfl Tryd.func80 (by kernel_rfl) rfl #[.int .i64 (rd l0 x11_1), .int .i64 (rd l1 x11_1)] rfl (by (try simp only [List.map_toArray, List.map_cons, List.map_nil]); first | done | rfl | (simp only [List.length_drop, List.length_take]; rfl)) ?_; (with_reducible refine (zC7.calls (rd l0 x11_1) (rd l1 x11_1) t175 _ A8.out).mono ?_); rintro e w' ⟨rfl, ⟨nd, rfl⟩⟩; refine ⟨_, rfl, ?_⟩))
         go_roundg k1
         case measure => have := HK1.out; omega
         case rel => exact ⟨(wrap64 (x11_1 + 1)), (by first | rfl | (simp; done) | (simp [*]; done)), H', ⟨by have := HK1.out; omega⟩, by repeat (first | exact zBd.refl _ | apply zBd.step)⟩
        ·rw [if_neg c9] at H
         have c9b0 : (t175 == 0) = false := beq_eq_false_iff_ne.mpr c9
         have c9b1 : (t175 != 0) = true := bne_iff_ne.mpr c9
         obtain rfl := Option.some.inj H
         have p173 : 0 ≤ (x11_1 : Int) := of_decide_eq_true (by first | (with_reducible assumption) | assumption)
         have q173 : x11_1 < (l0.length : Int) := of_decide_eq_true (by first | (with_reducible assumption) | assumption)
         obtain ⟨ad173, e173, hx173_0⟩ := Kd.zCb HR0.out x11_1 p173 q173
         cases e173
         replace p173 := eq_true p173
         replace q173 := eq_true q173
         have p174 : 0 ≤ (x11_1 : Int) := of_decide_eq_true (by first | (with_reducible assumption) | assumption)
         have q174 : x11_1 < (l1.length : Int) := of_decide_eq_true (by first | (with_reducible assumption) | assumption)
         obtain ⟨ad174, e174, hx174_0⟩ := Kd.zCb HR1.out x11_1 p174 q174
         cases e174
         replace p174 := eq_true p174
         replace q174 := eq_true q174
         go_wp2_with (first | ((with_reducible refine zBc (f := 80) rfl ?_); refine zCf (some 26) rfl rfl Tryd.func80 (by kernel_rfl) rfl #[.int .i64 (rd l0 x11_1), .int .i64 (rd l1 x11_1)] rfl (by (try simp only [List.map_toArray, List.map_cons, List.map_nil]); first | done | rfl | (simp only [List.length_drop, List.length_take]; rfl)) ?_; (with_reducible refine (zC7.calls (rd l0 x11_1) (rd l1 x11_1) t175 _ A8.out).mono ?_); rintro e w' ⟨rfl, ⟨nd, rfl⟩⟩; refine ⟨_, rfl, ?_⟩))
         go_ret
         exact ⟨by first | rfl | (simp; done) | (simp [*]; done), by repeat (first | exact zBd.refl _ | apply zBd.step)⟩
       ·rw [if_neg c7] at H
        exact absurd H (by simp)
     ·rw [if_neg c5] at H
      exact absurd H (by simp)
    ·rw [if_neg c4] at H
     exact absurd H (by simp)
   ·rw [if_neg c3] at H
    have c3b0 : decide (x11_1 < (l0.length : Int)) = false := decide_eq_false c3
    clear c3
    by_cases c10 : (l0.length : Int) < (l1.length : Int)
    ·rw [if_pos c10] at H
     have c10b0 : decide ((l0.length : Int) < (l1.length : Int)) = true := decide_eq_true c10
     have c10b1 : decide (l0.length < l1.length) = true := decide_eq_true (Int.ofNat_lt.mp c10)
     clear c10
     obtain rfl := Option.some.inj H
     go_wp2
     go_ret
     exact ⟨by first | rfl | (simp; done) | (simp [*]; done), by repeat (first | exact zBd.refl _ | apply zBd.step)⟩
    ·rw [if_neg c10] at H
     have c10b0 : decide ((l0.length : Int) < (l1.length : Int)) = false := decide_eq_false c10
     have c10b1 : decide (l0.length < l1.length) = false := decide_eq_false (fun h => c10 (Int.ofNat_lt.mpr h))
     clear c10
     obtain rfl := Option.some.inj H
     go_wp2
     go_ret
     exact ⟨by first | rfl | (simp; done) | (simp [*]; done), by repeat (first | exact zBd.refl _ | apply zBd.step)⟩
end
end Go.Proofs.YtbghfbhlbfcloaaDoor.PL
namespace Go.Proofs.YtbghfbhlbfcloaaDoor.PL
section
open Go.RowKit Go.Proofs.YtbghfbhlbfcloaaDoorW.PrintWords Go.Proofs.YtbghfbhlbfcloaaDoorW.PrintLast Go.Proofs.YtbghfbhlbfcloaaDoorW.PrintMore
attribute [local go_sem] zC2 zC0 zC9 zC8 zBs zBr zC1 zBz   -- for this text's walks alone
set_option linter.unusedVariables false
set_option linter.unusedSimpArgs false
/-! ### zCe: function 40 -/
def zCe.f (k : Nat) (l0 : List Int) (l1 : List Int) : Option (Int) := if (l0.length : Int) = (l1.length : Int) then ((zB7.f k l0 l1).bind fun t176 => (some t176)) else (some (wrap64 ((l0.length : Int) - (l1.length : Int))))
theorem zCe.mono : ∀ a0 a1 k, LeO (zCe.f k a0 a1) (zCe.f (k + 1) a0 a1) := by
 intro a0 a1 k
 unfold zCe.f
 repeat' first
   | (with_reducible exact zB7.mono _ _ _)
   | (with_reducible exact LeO.refl _)
   | (with_reducible exact LeO.none _)
   | (with_reducible refine LeO.ite ?_ ?_)
   | (with_reducible refine LeO.bind ?_ (fun _ => ?_))
set_option maxHeartbeats 8000000 in
set_option maxRecDepth 100000 in
theorem zCe.calls (k : Nat) (A0 : Option Addr) (c0 : Nat) (l0 : List Int) (A1 : Option Addr) (c1 : Nat) (l1 : List Int) (r : Int) (w : World) (hr0 : Kd.C (Kd.int .i64) w A0 l0.length l0) (hc0 : l0.length ≤ c0) (hr1 : Kd.C (Kd.int .i64) w A1 l1.length l1) (hc1 : l1.length ≤ c1) (h : zCe.f k l0 l1 = some r) :
  Calls Tryd.prog 40 #[.slice A0 l0.length c0, .slice A1 l1.length c1] w fun e w' => e = .returned (.int .i64 r) ∧ zBd w w' := by
 have HR0 := zA1.mk hr0
 have HC0 := zA1.mk hc0
 clear hr0 hc0
 have HR1 := zA1.mk hr1
 have HC1 := zA1.mk hc1
 clear hr1 hc1
 have H : (if (l0.length : Int) = (l1.length : Int) then ((zB7.f k l0 l1).bind fun t176 => (some t176)) else (some (wrap64 ((l0.length : Int) - (l1.length : Int))))) = some r := h
 clear h
 by_cases c3 : (l0.length : Int) = (l1.length : Int)
 ·rw [if_pos c3] at H
  have c3b0 : ((l0.length : Int) == (l1.length : Int)) = true := beq_iff_eq.mpr c3
  have c3b1 : ((l0.length : Int) != (l1.length : Int)) = false := bne_eq_false_iff_eq.mpr c3
  have c3b2 : (l0.length == l1.length) = true := by first | simpa using c3 | (simp at c3 ⊢; omega)
  clear c3
  replace H := Option.bind_eq_some_iff.mp H
  obtain ⟨t176, A40, H⟩ := H
  replace H : (some t176) = some r := H
  have A4 := zA1.mk A40
  clear A40
  obtain rfl := Option.some.inj H
  go_enter Tryd.func40, Tryd.ntmps40
  go_wp2_with (first | ((with_reducible refine zBc (f := 70) rfl ?_); refine zCf (some 17) rfl rfl Tryd.func70 (by kernel_rfl) rfl #[.slice A0 l0.length c0, .slice A1 l1.length c1] rfl (by (try simp only [List.map_toArray, List.map_cons, List.map_nil]); first | done | rfl | (simp only [List.length_drop, List.length_take]; rfl)) ?_; (with_reducible refine (zB7.calls k _ _ l0 _ _ l1 t176 _ ?side1 ?side2 ?side3 ?side4 A4.out).mono ?_); (case side1 => repeat (first | exact HR0.out | (with_reducible refine Kd.zAf ?_ _) | (with_reducible refine Kd.zAk ?_ _) | (with_reducible refine Kd.zAv ?_))); (case side2 => exact HC0.out); (case side3 => repeat (first | exact HR1.out | (with_reducible refine Kd.zAf ?_ _) | (with_reducible refine Kd.zAk ?_ _) | (with_reducible refine Kd.zAv ?_))); (case side4 => exact HC1.out); rintro e w' ⟨rfl, ⟨nd, rfl⟩⟩; refine ⟨_, rfl, ?_⟩))
  go_ret
  exact ⟨by first | rfl | (simp; done) | (simp [*]; done), by repeat (first | exact zBd.refl _ | apply zBd.step)⟩
 ·rw [if_neg c3] at H
  have c3b0 : ((l0.length : Int) == (l1.length : Int)) = false := beq_eq_false_iff_ne.mpr c3
  have c3b1 : ((l0.length : Int) != (l1.length : Int)) = true := bne_iff_ne.mpr c3
  have c3b2 : (l0.length == l1.length) = false := by first | simpa using c3 | (simp at c3 ⊢; omega)
  obtain rfl := Option.some.inj H
  go_enter Tryd.func40, Tryd.ntmps40
  go_wp2
  go_ret
  exact ⟨by first | rfl | (simp; done) | (simp [*]; done), by repeat (first | exact zBd.refl _ | apply zBd.step)⟩
end
end Go.Proofs.YtbghfbhlbfcloaaDoor.PL
namespace Go.Proofs.YtbghfbhlbfcloaaDoor.PL
section
open Go.RowKit Go.Proofs.YtbghfbhlbfcloaaDoorW.PrintWords Go.Proofs.YtbghfbhlbfcloaaDoorW.PrintLast Go.Proofs.YtbghfbhlbfcloaaDoorW.PrintMore
attribute [local go_sem] zC2 zC0 zC9 zC8 zBs zBr zC1 zBz   -- for this text's walks alone
set_option linter.unusedVariables false
set_option linter.unusedSimpArgs false
attribute [local go_sem high] eqA68
/-! ### zCi: function 39 -/
def zCi.f (k : Nat) (l0_0 : List Int) (l0_1 : List Int) (l1_0 : List Int) (l1_1 : List Int) : Option (Int) := (zCe.f k l0_0 l1_0).bind fun t179 => (some t179)
theorem zCi.mono : ∀ a0 a1 a2 a3 k, LeO (zCi.f k a0 a1 a2 a3) (zCi.f (k + 1) a0 a1 a2 a3) := by
 intro a0 a1 a2 a3 k
 unfold zCi.f
 repeat' first
   | (with_reducible exact zCe.mono _ _ _)
   | (with_reducible exact LeO.refl _)
   | (with_reducible exact LeO.none _)
   | (with_reducible refine LeO.ite ?_ ?_)
   | (with_reducible refine LeO.bind ?_ (fun _ => ?_))
set_option maxHeartbeats 8000000 in
set_option maxRecDepth 100000 in
theorem zCi.exact (k : Nat) (A0_0 : Option Addr) (c0_0 : Nat) (l0_0 : List Int) (A0_1 : Option Addr) (c0_1 : Nat) (l0_1 : List Int) (A1_0 : Option Addr) (c1_0 : Nat) (l1_0 : List Int) (A1_1 : Option Addr) (c1_1 : Nat) (l1_1 : List Int) (r : Int) (w : World) (hr0_0 : Kd.C (Kd.int .i64) w A0_0 l0_0.length l0_0) (hc0_0 : l0_0.length ≤ c0_0) (hr0_1 : Kd.C (Kd.int .i64) w A0_1 l0_1.length l0_1) (hc0_1 : l0_1.length ≤ c0_1) (hr1_0 : Kd.C (Kd.int .i64) w A1_0 l1_0.length l1_0) (hc1_0 : l1_0.length ≤ c1_0) (hr1_1 : Kd.C (Kd.int .i64) w A1_1 l1_1.length l1_1) (hc1_1 : l1_1.length ≤ c1_1) (h : zCi.f k l0_0 l0_1 l1_0 l1_1 = some r) :
  Calls Tryd.prog 39 #[.agg #[.slice A0_0 l0_0.length c0_0, .slice A0_1 l0_1.length c0_1], .agg #[.slice A1_0 l1_0.length c1_0, .slice A1_1 l1_1.length c1_1]] w fun e w' => e = .returned (.int .i64 r) ∧ Below w.heap.size w w' ∧ Gr w w' := by
 have hu41 := Tryd.underlying41
 have HR0_0 := zA1.mk hr0_0
 have HC0_0 := zA1.mk hc0_0
 clear hr0_0 hc0_0
 have HR0_1 := zA1.mk hr0_1
 have HC0_1 := zA1.mk hc0_1
 clear hr0_1 hc0_1
 have HR1_0 := zA1.mk hr1_0
 have HC1_0 := zA1.mk hc1_0
 clear hr1_0 hc1_0
 have HR1_1 := zA1.mk hr1_1
 have HC1_1 := zA1.mk hc1_1
 clear hr1_1 hc1_1
 have HB := zA1.mk (Below.refl w.heap.size w)
 have HX := zA1.mk (Gr.refl w)
 have H : ((zCe.f k l0_0 l1_0).bind fun t179 => (some t179)) = some r := h
 clear h
 replace H := Option.bind_eq_some_iff.mp H
 obtain ⟨t179, A30, H⟩ := H
 replace H : (some t179) = some r := H
 have A3 := zA1.mk A30
 clear A30
 obtain rfl := Option.some.inj H
 go_enter Tryd.func39, Tryd.ntmps39
 go_wp2_with (first | ((with_reducible refine zBk (N := 2) rfl ?_); refine box_eventG ?hg (N := 2) ?hd (cs := #[.slice A0_0 l0_0.length c0_0, .slice A0_1 l0_1.length c0_1]) (t := 41) ?hr ?_; (case hd => rfl); (case hg => rfl); (case hr => first | (go_simp; done) | (go_simp; rfl)); intro gb177 hg w4 hbox hb hgr; have HX0 := zA1.mk (Gr.trans (by repeat (first | (with_reducible first | exact HX.out | apply Gr.alloc | apply Gr.drewN | apply Gr.drew) | exact HX.out)) hgr); clear hgr; clear HX; have HX := HX0; clear HX0; have n0_ := zA1.mk (zAe (by repeat (first | (with_reducible first | exact HB.out | apply zA2 | apply zA0 | apply zA3) | exact HB.out)) hb); have n1_ := zA1.mk (hbox); have n2_ := zA1.mk ((by rw [hg]; exact (zAb (by repeat (first | (with_reducible first | exact HB.out | apply zA2 | apply zA0 | apply zA3) | exact HB.out))) : w.heap.size ≤ gb177)); have n3_ := zA1.mk ((by rw [hg]; exact (zAb (by repeat (first | (with_reducible first | exact HB.out | apply zA2 | apply zA0 | apply zA3) | exact HB.out))) : w.heap.size ≤ gb177)); clear HB; have HB := n0_; have BK177 := n1_; have GW177 := n2_; have GE177 := n3_; clear n0_ n1_ n2_ n3_; clear hb hbox hg) | ((with_reducible refine zBk (N := 3) rfl ?_); refine box_eventG ?hg (N := 3) ?hd (cs := #[.slice A1_0 l1_0.length c1_0, .slice A1_1 l1_1.length c1_1]) (t := 41) ?hr ?_; (case hd => rfl); (case hg => rfl); (case hr => first | (go_simp; done) | (go_simp; rfl)); intro gb178 hg w5 hbox hb hgr; have HX0 := zA1.mk (Gr.trans (by repeat (first | (with_reducible first | exact HX.out | apply Gr.alloc | apply Gr.drewN | apply Gr.drew) | exact HX.out)) hgr); clear hgr; clear HX; have HX := HX0; clear HX0; have n0_ := zA1.mk (zAt (g := gb177) (o := .cells #[.slice A0_0 l0_0.length c0_0, .slice A0_1 l0_1.length c0_1] 41 (0, 0)) (by (with_reducible repeat (first | refine zA6 ?_ _ | refine zA8 ?_ | refine zA5 ?_ _)); exact BK177.out) hb); have n1_ := zA1.mk (zAe (by repeat (first | (with_reducible first | exact HB.out | apply zA2 | apply zA0 | apply zA3 | refine zA4 ?_ GE177.out) | exact HB.out)) hb); have n2_ := zA1.mk (hbox); have n3_ := zA1.mk ((by rw [hg]; exact (zAb (by repeat (first | (with_reducible first | exact HB.out | apply zA2 | apply zA0 | apply zA3 | refine zA4 ?_ GE177.out) | exact HB.out))) : w.heap.size ≤ gb178)); have n4_ := zA1.mk ((by rw [hg]; exact (zAb (by repeat (first | (with_reducible first | exact HB.out | apply zA2 | apply zA0 | apply zA3 | refine zA4 ?_ GE177.out) | exact HB.out))) : w.heap.size ≤ gb178)); have n5_ := zA1.mk ((by rw [hg]; exact Nat.ne_of_lt (zCm (g := gb177) (o := .cells #[.slice A0_0 l0_0.length c0_0, .slice A0_1 l0_1.length c0_1] 41 (0, 0)) (by (with_reducible repeat (first | refine zA6 ?_ _ | refine zA8 ?_ | refine zA5 ?_ _)); exact BK177.out)) : gb177 ≠ gb178)); have n6_ := zA1.mk ((by rw [hg]; exact Nat.ne_of_gt (zCm (g := gb177) (o := .cells #[.slice A0_0 l0_0.length c0_0, .slice A0_1 l0_1.length c0_1] 41 (0, 0)) (by (with_reducible repeat (first | refine zA6 ?_ _ | refine zA8 ?_ | refine zA5 ?_ _)); exact BK177.out)) : gb178 ≠ gb177)); clear BK177; clear HB; have BK177 := n0_; have HB := n1_; have BK178 := n2_; have GW178 := n3_; have GE178 := n4_; have NB177_178 := n5_; have NB178_177 := n6_; clear n0_ n1_ n2_ n3_ n4_ n5_ n6_; clear hb hbox hg; have hnb6 := NB177_178.out; have hnc6 := NB178_177.out; have hcz7_0 : w5.cell? ⟨gb177, 0, none⟩ = some (.slice A0_0 l0_0.length c0_0) := (zA9 BK177.out 0).trans rfl; have hcz7_1 : w5.cell? ⟨gb177, 1, none⟩ = some (.slice A0_1 l0_1.length c0_1) := (zA9 BK177.out 1).trans rfl; have hfz7_0 := zAd BK177.out 0; have hfz7_1 := zAd BK177.out 1; have hcz8_0 : w5.cell? ⟨gb178, 0, none⟩ = some (.slice A1_0 l1_0.length c1_0) := (zA9 BK178.out 0).trans rfl; have hcz8_1 : w5.cell? ⟨gb178, 1, none⟩ = some (.slice A1_1 l1_1.length c1_1) := (zA9 BK178.out 1).trans rfl; have hfz8_0 := zAd BK178.out 0; have hfz8_1 := zAd BK178.out 1) | ((with_reducible refine zBc (f := 40) rfl ?_); refine zCf (some 9) rfl rfl Tryd.func40 (by kernel_rfl) rfl #[.slice A0_0 l0_0.length c0_0, .slice A1_0 l1_0.length c1_0] rfl (by (try simp only [List.map_toArray, List.map_cons, List.map_nil]); first | done | rfl | (simp only [List.length_drop, List.length_take]; rfl)) ?_; (with_reducible refine (zCe.calls k _ _ l0_0 _ _ l1_0 t179 _ ?side1 ?side2 ?side3 ?side4 A3.out).mono ?_); (case side1 => repeat (first | exact (Kd.zB1 HR0_0.out HB.out) | (with_reducible refine Kd.zAf ?_ _) | (with_reducible refine Kd.zAk ?_ _) | (with_reducible refine Kd.zAv ?_))); (case side2 => exact HC0_0.out); (case side3 => repeat (first | exact (Kd.zB1 HR1_0.out HB.out) | (with_reducible refine Kd.zAf ?_ _) | (with_reducible refine Kd.zAk ?_ _) | (with_reducible refine Kd.zAv ?_))); (case side4 => exact HC1_0.out); rintro e w' ⟨rfl, ⟨nd, rfl⟩⟩; refine ⟨_, rfl, ?_⟩))
 go_ret
 exact ⟨by first | rfl | (simp [zAy, zAx] <;> rfl) | (simp [*, zAy, zAx] <;> rfl), by repeat (first | (with_reducible first | exact HB.out | apply zA2 | apply zA0 | apply zA3 | refine zA4 ?_ GE177.out | refine zA4 ?_ GE178.out) | exact HB.out), (by repeat (first | (with_reducible first | exact HX.out | apply Gr.alloc | apply Gr.drewN | apply Gr.drew) | exact HX.out))⟩
theorem zCi.calls (k : Nat) (A0_0 : Option Addr) (c0_0 : Nat) (l0_0 : List Int) (A0_1 : Option Addr) (c0_1 : Nat) (l0_1 : List Int) (A1_0 : Option Addr) (c1_0 : Nat) (l1_0 : List Int) (A1_1 : Option Addr) (c1_1 : Nat) (l1_1 : List Int) (r : Int) (w : World) (hr0_0 : Kd.C (Kd.int .i64) w A0_0 l0_0.length l0_0) (hc0_0 : l0_0.length ≤ c0_0) (hr0_1 : Kd.C (Kd.int .i64) w A0_1 l0_1.length l0_1) (hc0_1 : l0_1.length ≤ c0_1) (hr1_0 : Kd.C (Kd.int .i64) w A1_0 l1_0.length l1_0) (hc1_0 : l1_0.length ≤ c1_0) (hr1_1 : Kd.C (Kd.int .i64) w A1_1 l1_1.length l1_1) (hc1_1 : l1_1.length ≤ c1_1) (h : zCi.f k l0_0 l0_1 l1_0 l1_1 = some r) :
  Calls Tryd.prog 39 #[.agg #[.slice A0_0 l0_0.length c0_0, .slice A0_1 l0_1.length c0_1], .agg #[.slice A1_0 l1_0.length c1_0, .slice A1_1 l1_1.length c1_1]] w fun e w' => e = .returned (.int .i64 r) ∧ Below w.heap.size w w' :=
 (zCi.exact k A0_0 c0_0 l0_0 A0_1 c0_1 l0_1 A1_0 c1_0 l1_0 A1_1 c1_1 l1_1 r w hr0_0 hc0_0 hr0_1 hc0_1 hr1_0 hc1_0 hr1_1 hc1_1 h).mono fun _ _ h_ => ⟨h_.1, h_.2.1⟩
end
end Go.Proofs.YtbghfbhlbfcloaaDoor.PL
namespace Go.Proofs.YtbghfbhlbfcloaaDoor.PL
section
open Go.RowKit Go.Proofs.YtbghfbhlbfcloaaDoorW.PrintWords Go.Proofs.YtbghfbhlbfcloaaDoorW.PrintLast Go.Proofs.YtbghfbhlbfcloaaDoorW.PrintMore
attribute [local go_sem] Oper.semAt_some
set_option linter.unusedVariables false
set_option linter.unusedSimpArgs false

/-! ### the order of sets -/
def cmpL : List Int → List Int → Int
 | [], [] => 0
 | [], _ :: _ => -1
 | _ :: _, [] => 1
 | a :: r, b :: t => if a < b then -1 else if b < a then 1 else cmpL r t
def befL (a b : List Int) : Int := if (a.length : Int) = (b.length : Int) then cmpL a b else (a.length : Int) - (b.length : Int)
theorem cmpL_neg : ∀ a b, cmpL b a = - cmpL a b
 | [], [] => rfl
 | [], _ :: _ => rfl
 | _ :: _, [] => rfl
 | a :: r, b :: t => by
  unfold cmpL
  by_cases h1 : a < b
  ·simp only [if_pos h1, if_neg (show ¬ b < a by omega)]; rfl
  ·by_cases h2 : b < a
   ·simp only [if_neg h1, if_pos h2]
   ·simp only [if_neg h1, if_neg h2]
    exact cmpL_neg r t
theorem cmpL_eq : ∀ a b, cmpL a b = 0 → a = b
 | [], [], _ => rfl
 | [], _ :: _, h => by simp [cmpL] at h
 | _ :: _, [], h => by simp [cmpL] at h
 | a :: r, b :: t, h => by
  unfold cmpL at h
  by_cases h1 : a < b
  ·rw [if_pos h1] at h; omega
  ·by_cases h2 : b < a
   ·rw [if_neg h1, if_pos h2] at h; omega
   ·rw [if_neg h1, if_neg h2] at h
    rw [cmpL_eq r t h, show a = b by omega]
theorem cmpL_le : ∀ a b c, cmpL a b ≤ 0 → cmpL b c ≤ 0 → cmpL a c ≤ 0
 | [], _, [], _, _ => by simp [cmpL]
 | [], _, _ :: _, _, _ => by simp [cmpL]
 | _ :: _, [], _, h, _ => by simp [cmpL] at h
 | _ :: _, _ :: _, [], _, h => by simp [cmpL] at h
 | a :: r, b :: t, c :: u, h, k => by
  have ih := cmpL_le r t u
  unfold cmpL at h k ⊢
  split at h <;> split at k <;> (try split at h) <;> (try split at k) <;> split <;> (try split) <;> first | omega | exact ih h k
theorem befL_neg (a b : List Int) : befL b a = - befL a b := by
 unfold befL
 by_cases h : (a.length : Int) = b.length
 ·rw [if_pos h, if_pos h.symm, cmpL_neg]
 ·rw [if_neg h, if_neg (fun e => h e.symm)]; omega
theorem befL_eq (a b : List Int) (h : befL a b = 0) : a = b := by
 unfold befL at h
 split at h
 ·exact cmpL_eq a b h
 ·omega
theorem befL_le (a b c : List Int) (h : befL a b ≤ 0) (k : befL b c ≤ 0) : befL a c ≤ 0 := by
 have ih := cmpL_le a b c
 unfold befL at *
 split at h <;> split at k <;> split <;> first | omega | exact ih h k
def befC (x y : S41) : Int := befL x.f0 y.f0
theorem befL_swo {α : Type} (f : α → List Int) : Go.Sort.SWO (Go.Proofs.ltOf fun x y => befL (f x) (f y)) where
 irrefl x := by
  have h := befL_neg (f x) (f x)
  simp only [Go.Proofs.ltOf, decide_eq_false_iff_not]; omega
 trans x y z h1 h2 := by
  simp only [Go.Proofs.ltOf, decide_eq_true_eq] at *
  have h3 := befL_le (f x) (f y) (f z) (by omega) (by omega)
  rcases Int.lt_or_eq_of_le h3 with h | h
  ·exact h
  ·have e := befL_eq _ _ h
   rw [e] at h1
   have h4 := befL_neg (f y) (f z)
   omega
 ntrans x y z h1 h2 := by
  simp only [Go.Proofs.ltOf, decide_eq_false_iff_not] at *
  have h4 := befL_neg (f x) (f y)
  have h5 := befL_neg (f y) (f z)
  have h6 := befL_neg (f x) (f z)
  have h3 := befL_le (f z) (f y) (f x) (by omega) (by omega)
  omega

/-! ### what Cuts computes -/
def CU.k : Nat := 1000
def subs (m : Int) : Nat → Int → Option (List Int)
 | 0, _ => none
 | q + 1, s => if s = 0 then some [] else if 0 < s ∧ 0 ≤ nextS m s ∧ nextS m s < s then (subs m q (nextS m s)).bind fun r => some (s :: r) else none
theorem subs_chain (m : Int) : ∀ (q : Nat) (s : Int) (ms : List Int), subs m q s = some ms → Chain m s ms
 | 0, _, _, h => by simp [subs] at h
 | q + 1, s, ms, h => by
  unfold subs at h
  split at h
  ·rename_i h0
   injection h with h
   subst h
   exact h0
  ·split at h
   ·rename_i h1
    obtain ⟨r, hr, h⟩ := Option.bind_eq_some_iff.1 h
    injection h with h
    subst h
    exact ⟨rfl, h1.1, h1.2.1, h1.2.2, subs_chain m q _ r hr⟩
   ·cases h
def cnB (L : List Int) (s : Int) : Bool := (zAr.f CU.k L s).getD false
/-- What a round does at the subset x of m. -/
def ctO (L : List Int) (m x : Int) : Option (List S41) :=
 if Go.bits .and .u64 x (Go.bits .and .u64 m (IntKind.u64.wrap (-m))) = 0 then some [] else
 if Go.bits .andNot .u64 m x = 0 then some [] else
 (zAr.f CU.k L (Go.bits .andNot .u64 m x)).bind fun c => if c = true then
  (zBe.f CU.k x).bind fun a => (zBe.f CU.k (Go.bits .andNot .u64 m x)).bind fun b => some [⟨a, b⟩]
 else some []
def allO (L : List Int) (m : Int) : List Int → Option (List S41)
 | [] => some []
 | x :: r => (ctO L m x).bind fun a => (allO L m r).bind fun b => some (a ++ b)
def sortC (l : List S41) : List S41 := isort (leC befC) l
def okC (l : List S41) : Bool := decide (l.length ≤ 1000) && (l.all fun x => l.all fun y => zCi.f CU.k x.f0 x.f1 y.f0 y.f1 == some (befC x y)) && decide ((l.map fun x => x.f0).Nodup)
def CU.f (a0 : Int) (l0 : List S68) (l1 : List Int) : Option (List S41 × Int) :=
 (zBq.f CU.k a0 l0 l1).bind fun t => if t.2.2 = 0 then (zAr.f CU.k t.1 t.2.1).bind fun c => if c = true then
  (subs t.2.1 1000 t.2.1).bind fun ms => if ms.all (fun s => (zAr.f CU.k t.1 s).isSome) = true then (allO t.1 t.2.1 (ms.filter (cnB t.1))).bind fun out => if okC out = true then some (sortC out, 0) else none else none
 else some ([], 17) else some ([], t.2.2)

theorem allO_at {L : List Int} {m : Int} : ∀ {l : List Int} {out : List S41}, allO L m l = some out → ∀ x ∈ l, ∃ a, ctO L m x = some a
 | [], _, _, x, hx => by simp at hx
 | y :: r, out, h, x, hx => by
  unfold allO at h
  obtain ⟨a, ha, h⟩ := Option.bind_eq_some_iff.1 h
  obtain ⟨b, hb, h⟩ := Option.bind_eq_some_iff.1 h
  rcases List.mem_cons.1 hx with rfl | hx
  ·exact ⟨a, ha⟩
  ·exact allO_at hb x hx
theorem allO_snoc {L : List Int} {m : Int} : ∀ {l : List Int} {out a : List S41} {x : Int}, allO L m l = some out → ctO L m x = some a → allO L m (l ++ [x]) = some (out ++ a)
 | [], out, a, x, h, hx => by
  simp only [allO, Option.some.injEq] at h
  subst h
  simp [allO, hx]
 | y :: r, out, a, x, h, hx => by
  unfold allO at h
  obtain ⟨p, hp, h⟩ := Option.bind_eq_some_iff.1 h
  obtain ⟨b, hb, h⟩ := Option.bind_eq_some_iff.1 h
  injection h with h
  subst h
  simp only [List.cons_append, allO, hp, Option.bind_some, allO_snoc hb hx, List.append_assoc]
theorem ctO_len {L : List Int} {m x : Int} {a : List S41} (h : ctO L m x = some a) : a.length ≤ 1 := by
 unfold ctO at h
 split at h
 ·injection h with h; subst h; simp
 ·split at h
  ·injection h with h; subst h; simp
  ·obtain ⟨c, _, h⟩ := Option.bind_eq_some_iff.1 h
   split at h
   ·obtain ⟨p, _, h⟩ := Option.bind_eq_some_iff.1 h
    obtain ⟨q, _, h⟩ := Option.bind_eq_some_iff.1 h
    injection h with h; subst h; simp
   ·injection h with h; subst h; simp
theorem allO_len {L : List Int} {m : Int} : ∀ {l : List Int} {out : List S41}, allO L m l = some out → out.length ≤ l.length
 | [], out, h => by
  simp only [allO, Option.some.injEq] at h
  subst h
  simp
 | y :: r, out, h => by
  unfold allO at h
  obtain ⟨p, hp, h⟩ := Option.bind_eq_some_iff.1 h
  obtain ⟨b, hb, h⟩ := Option.bind_eq_some_iff.1 h
  injection h with h
  subst h
  have h1 := ctO_len hp
  have h2 := allO_len hb
  simp only [List.length_append, List.length_cons]
  omega
theorem subs_len (m : Int) : ∀ (q : Nat) (s : Int) (ms : List Int), subs m q s = some ms → ms.length ≤ q
 | 0, _, _, h => by simp [subs] at h
 | q + 1, s, ms, h => by
  unfold subs at h
  split at h
  ·injection h with h; subst h; simp
  ·split at h
   ·obtain ⟨r, hr, h⟩ := Option.bind_eq_some_iff.1 h
    injection h with h
    subst h
    have := subs_len m q _ r hr
    simp; omega
   ·cases h
end
end Go.Proofs.YtbghfbhlbfcloaaDoor.PL
namespace Go.Proofs.YtbghfbhlbfcloaaDoor.PL
section
set_option linter.unusedVariables false
set_option linter.unusedSimpArgs false
open Go.RowKit Go.Proofs.YtbghfbhlbfcloaaDoorW.PrintWords Go.Proofs.YtbghfbhlbfcloaaDoorW.PrintLast Go.Proofs.YtbghfbhlbfcloaaDoorW.PrintMore

theorem EI_wo {m p : Nat} : ((EI m).filter fun x => !decide (x ∈ EI p)) = EI (wo m p) := by
 unfold EI El
 rw [List.filter_map, List.filter_filter]
 congr 1
 refine List.filter_congr fun i hi => ?_
 have hi6 := List.mem_range.1 hi
 rw [wo_bit m p i hi6]
 have e : decide (((i : Nat) : Int) ∈ List.map (fun i : Nat => (i : Int)) (List.filter (fun i => p.testBit i) (List.range 6))) = p.testBit i := by
  cases e : p.testBit i with
  | true => exact decide_eq_true (List.mem_map.2 ⟨i, List.mem_filter.2 ⟨hi, e⟩, rfl⟩)
  | false =>
   refine decide_eq_false fun h => ?_
   obtain ⟨j, hj, he⟩ := List.mem_map.1 h
   obtain rfl : j = i := by omega
   rw [(List.mem_filter.1 hj).2] at e
   cases e
 simp only [Function.comp, e]
 exact Bool.and_comm _ _
theorem piece_ex {A : List Nat} (hA : Gd A) (m : Nat) (hm : m < 64) (h0 : m ≠ 0) : ∃ p, IsP A m p := by
 obtain ⟨p, _, h⟩ := piece_f hA m hm h0 700 (Nat.le_refl _)
 exact ⟨p, h⟩
/-! ### connected masks -/
def cB (A : List Nat) (x : Nat) : Bool := cnB (LI A) (x : Int)
theorem cB_f {A : List Nat} (hA : Gd A) {x : Nat} (hx : x < 64) (h0 : x ≠ 0) (k : Nat) (hk : 700 ≤ k) : zAr.f k (LI A) (x : Int) = some (cB A x) := by
 obtain ⟨p, hp⟩ := piece_ex hA x hx h0
 unfold cB cnB
 rw [connected_f hA x p hx h0 hp k hk, connected_f hA x p hx h0 hp CU.k (by decide)]
 rfl
theorem rcB_f {A : List Nat} {E : List S68} (hA : Gd A) (hE : Ed A E) (n : Int) {x : Nat} (hx : x < 64) (h0 : x ≠ 0) (k : Nat) (hk : 200 ≤ k) : zAm.f k n E (EI x) = some (cB A x) := by
 obtain ⟨p, hp⟩ := piece_ex hA x hx h0
 rw [rc_f hE n hx h0 hp k hk]
 unfold cB cnB
 rw [connected_f hA x p hx h0 hp CU.k (by decide)]
 rfl
end
end Go.Proofs.YtbghfbhlbfcloaaDoor.PL
namespace Go.Proofs.YtbghfbhlbfcloaaDoor.PL
section
set_option linter.unusedVariables false
set_option linter.unusedSimpArgs false
open Go.RowKit Go.Proofs.YtbghfbhlbfcloaaDoorW.PrintWords Go.Proofs.YtbghfbhlbfcloaaDoorW.PrintLast Go.Proofs.YtbghfbhlbfcloaaDoorW.PrintMore

/-! ### the subsets of a mask -/
def SB (m : Nat) : List Nat := ((List.range 64).filter fun x => x != 0 && (x &&& m == x)).reverse
theorem SB_mem {m x : Nat} : x ∈ SB m ↔ x < 64 ∧ x ≠ 0 ∧ x &&& m = x := by
 unfold SB
 rw [List.mem_reverse, List.mem_filter, List.mem_range]
 simp
theorem SB_nodup (m : Nat) : (SB m).Nodup := by
 unfold SB
 exact (List.reverse_perm _).nodup_iff.2 (List.Pairwise.filter _ List.nodup_range)
theorem SB_len (m : Nat) : (SB m).length ≤ 64 := by
 unfold SB
 rw [List.length_reverse]
 have := List.length_filter_le (fun x => x != 0 && (x &&& m == x)) (List.range 64)
 simpa using this
theorem subs_tab : ((List.range 64).all fun m => subs (m : Int) 1000 (m : Int) == some ((SB m).map fun x : Nat => (x : Int))) = true := by kernel_rfl
theorem subs_f (m : Nat) (hm : m < 64) : subs (m : Int) 1000 (m : Int) = some ((SB m).map fun x : Nat => (x : Int)) := by
 have h := List.all_eq_true.1 subs_tab m (List.mem_range.2 hm)
 simpa using h
def cutQ (A : List Nat) (m x : Nat) : Bool := x.testBit (lo m) && (wo m x != 0) && cB A (wo m x)
def cutOf (m x : Nat) : S41 := ⟨EI x, EI (wo m x)⟩
theorem pow_tab : ((List.range 64).all fun x => (List.range 6).all fun i => x &&& 2 ^ i == (x.testBit i).toNat * 2 ^ i) = true := by kernel_rfl
theorem pow_f (x i : Nat) (hx : x < 64) (hi : i < 6) : x &&& 2 ^ i = (x.testBit i).toNat * 2 ^ i := by
 have h := List.all_eq_true.1 (List.all_eq_true.1 pow_tab x (List.mem_range.2 hx)) i (List.mem_range.2 hi)
 exact eq_of_beq h
theorem ctO_f {A : List Nat} (hA : Gd A) {m x : Nat} (hm : m < 64) (h0 : m ≠ 0) (hx : x < 64) : ctO (LI A) (m : Int) (x : Int) = some (if cutQ A m x = true then [cutOf m x] else []) := by
 obtain ⟨l1, l2, l3, l4⟩ := lo_f m hm h0
 have h2 : 2 ^ lo m < 64 := Nat.pow_lt_pow_right (by decide) l3
 have hb : x &&& 2 ^ lo m = (x.testBit (lo m)).toNat * 2 ^ lo m := pow_f x (lo m) hx l3
 have hp : 0 < 2 ^ lo m := Nat.pow_pos (by decide)
 unfold ctO
 rw [l1, andI x _ hx h2, andNotI m x hm hx, hb]
 cases e : x.testBit (lo m) with
 | false =>
  have : cutQ A m x = false := by unfold cutQ; rw [e]; rfl
  rw [this]
  simp
 | true =>
  rw [if_neg (by simp only [Bool.toNat_true, Nat.one_mul]; omega)]
  by_cases hw : wo m x = 0
  ·have : cutQ A m x = false := by unfold cutQ; rw [e, hw]; rfl
   rw [if_pos (by omega), this]
   rfl
  ·have hq : cutQ A m x = cB A (wo m x) := by
    unfold cutQ
    rw [e, bne_iff_ne.2 hw]
    rfl
   rw [if_neg (by omega), cB_f hA (wo_lt m x hm) hw CU.k (by decide), Option.bind_some, hq]
   cases cB A (wo m x) with
   | false => rfl
   | true => 
    rw [if_pos rfl, listed_f CU.k (by decide) x hx, Option.bind_some, listed_f CU.k (by decide) _ (wo_lt m x hm), Option.bind_some]
    rfl
theorem allO_f {A : List Nat} (hA : Gd A) {m : Nat} (hm : m < 64) (h0 : m ≠ 0) : ∀ l : List Nat, (∀ x ∈ l, x < 64) → allO (LI A) (m : Int) (l.map fun x : Nat => (x : Int)) = some ((l.filter (cutQ A m)).map (cutOf m))
 | [], _ => rfl
 | x :: r, h => by
  rw [List.map_cons, allO, ctO_f hA hm h0 (h x (by simp)), Option.bind_some, allO_f hA hm h0 r (fun y hy => h y (by simp [hy])), Option.bind_some]
  by_cases hq : cutQ A m x = true
  ·rw [if_pos hq, List.filter_cons_of_pos hq]
   rfl
  ·rw [if_neg hq, List.filter_cons_of_neg hq]
   rfl

/-! ### the order -/
theorem EI_inj {a b : Nat} (ha : a < 64) (hb : b < 64) (h : EI a = EI b) : a = b := bit_ext ha hb fun i hi => by
 have h1 : ((i : Nat) : Int) ∈ EI a ↔ (i : Int) ∈ EI b := by rw [h]
 have key : ∀ m : Nat, ((i : Nat) : Int) ∈ EI m ↔ m.testBit i = true := fun m => by
  rw [EI_mem]
  constructor
  ·rintro ⟨j, hj, _, hb⟩
   obtain rfl : i = j := by omega
   exact hb
  ·exact fun h => ⟨i, rfl, hi, h⟩
 rw [key, key] at h1
 cases e : a.testBit i with
 | true => exact (h1.1 e).symm
 | false =>
  cases e2 : b.testBit i with
  | false => rfl
  | true => rw [h1.2 e2] at e; cases e
def leM (x y : Nat) : Bool := leC befL (EI x) (EI y)
theorem leM_trans (a b c : Nat) (h : leM a b = true) (k : leM b c = true) : leM a c = true := by
 simp only [leM, leC, Bool.not_eq_true', decide_eq_false_iff_not] at *
 have h1 := befL_neg (EI a) (EI b)
 have h2 := befL_neg (EI b) (EI c)
 have h3 := befL_neg (EI a) (EI c)
 have := befL_le (EI a) (EI b) (EI c) (by omega) (by omega)
 omega
theorem leM_tot (a b : Nat) : (leM a b || leM b a) = true := by
 have h1 := befL_neg (EI a) (EI b)
 unfold leM leC
 by_cases h : befL (EI b) (EI a) < 0
 ·rw [decide_eq_false (show ¬ befL (EI a) (EI b) < 0 by omega)]
  simp
 ·rw [decide_eq_false h]
  rfl
theorem leM_anti {a b : Nat} (ha : a < 64) (hb : b < 64) (h : leM a b = true) (k : leM b a = true) : a = b := by
 simp only [leM, leC, Bool.not_eq_true', decide_eq_false_iff_not] at *
 have h1 := befL_neg (EI a) (EI b)
 exact EI_inj ha hb (befL_eq _ _ (by omega))
/-- The subsets in the order. -/
def SO (m : Nat) : List Nat := isort leM (SB m)
theorem SO_filter (m : Nat) (q : Nat → Bool) : isort leM ((SB m).filter q) = (SO m).filter q :=
 isort_filter leM leM_trans leM_tot q (SB m) fun _ _ ha hb h k => leM_anti (SB_mem.1 ha).1 (SB_mem.1 hb).1 h k
theorem SO_mem {m x : Nat} : x ∈ SO m ↔ x < 64 ∧ x ≠ 0 ∧ x &&& m = x := ((isort_perm leM (SB m)).mem_iff).trans SB_mem
theorem SO_len (m : Nat) : (SO m).length ≤ 64 := by
 unfold SO
 rw [(isort_perm leM (SB m)).length_eq]
 exact SB_len m
/-! ### what the program's Cuts returns -/
theorem bef_tab : ((List.range 64).all fun x => (List.range 64).all fun y => zCe.f 20 (EI x) (EI y) == some (befL (EI x) (EI y))) = true := by kernel_rfl
theorem bef_f (k : Nat) (hk : 20 ≤ k) (x y : Nat) (hx : x < 64) (hy : y < 64) : zCe.f k (EI x) (EI y) = some (befL (EI x) (EI y)) := by
 have h := List.all_eq_true.1 (List.all_eq_true.1 bef_tab x (List.mem_range.2 hx)) y (List.mem_range.2 hy)
 exact up (fun k => zCe.mono (EI x) (EI y) k) (by simpa using h) k hk
theorem sortC_map (m : Nat) (l : List Nat) : sortC (l.map (cutOf m)) = (isort leM l).map (cutOf m) := isort_map (cutOf m) (leC befC) l
theorem okC_f {m : Nat} (l : List Nat) (hl : l.length ≤ 64) (hlt : ∀ x ∈ l, x < 64) (hn : l.Nodup) : okC (l.map (cutOf m)) = true := by
 unfold okC
 rw [Bool.and_eq_true, Bool.and_eq_true]
 refine ⟨⟨decide_eq_true (by rw [List.length_map]; omega), ?_⟩, decide_eq_true ?_⟩
 ·rw [List.all_eq_true]
  intro p hp
  obtain ⟨x, hx, rfl⟩ := List.mem_map.1 hp
  rw [List.all_eq_true]
  intro q hq
  obtain ⟨y, hy, rfl⟩ := List.mem_map.1 hq
  have e : zCi.f CU.k (cutOf m x).f0 (cutOf m x).f1 (cutOf m y).f0 (cutOf m y).f1 = some (befC (cutOf m x) (cutOf m y)) := by
   unfold zCi.f
   have := bef_f CU.k (by decide) x y (hlt x hx) (hlt y hy)
   show (zCe.f CU.k (EI x) (EI y)).bind _ = _
   rw [this]
   rfl
  rw [e]
  exact beq_self_eq_true _
 ·rw [List.map_map]
  refine List.pairwise_map.2 (hn.imp_of_mem fun {a b} ha hb hne h => hne ?_)
  exact EI_inj (hlt a ha) (hlt b hb) h
/-- The masks of the cuts' left parts, in the order. -/
def cutsM (A : List Nat) (m : Nat) : List Nat := (SO m).filter fun x => cutQ A m x && cB A x
theorem CU_plain (t : Nat → Bool) {A : List Nat} (hA : Gd A) {m : Nat} (hm : m < 64) (h0 : m ≠ 0) (hop : zBq.f CU.k 6 (Eg t) (EI m) = some (LI A, (m : Int), 0)) :
  CU.f 6 (Eg t) (EI m) = some (if cB A m = true then ((cutsM A m).map (cutOf m), 0) else ([], 17)) := by
 unfold CU.f
 rw [hop, Option.bind_some, if_pos rfl, cB_f hA hm h0 CU.k (by decide), Option.bind_some]
 cases cB A m with
 | false => rfl
 | true =>
  rw [if_pos rfl, if_pos rfl, subs_f m hm, Option.bind_some, if_pos ?_]
  ·have e1 : ((SB m).map fun x : Nat => (x : Int)).filter (cnB (LI A)) = ((SB m).filter (cB A)).map fun x : Nat => (x : Int) := by
    rw [List.filter_map]
    rfl
   have hlt : ∀ x ∈ (SB m).filter (cB A), x < 64 := fun x hx => (SB_mem.1 (List.mem_filter.1 hx).1).1
   rw [e1, allO_f hA hm h0 _ hlt, Option.bind_some, okC_f, if_pos rfl, sortC_map, List.filter_filter, SO_filter]
   ·rfl
   ·have h1 := List.length_filter_le (cutQ A m) ((SB m).filter (cB A))
    have h2 := List.length_filter_le (cB A) (SB m)
    have h3 := SB_len m
    omega
   ·exact fun x hx => hlt x (List.mem_filter.1 hx).1
   ·exact ((SB_nodup m).filter _).filter _
  ·rw [List.all_map, List.all_eq_true]
   intro x hx
   have hx' := SB_mem.1 hx
   show (zAr.f CU.k (LI A) (x : Int)).isSome = true
   rw [cB_f hA hx'.1 hx'.2.1 CU.k (by decide)]
   rfl
end
end Go.Proofs.YtbghfbhlbfcloaaDoor.PL
namespace Go.Proofs.YtbghfbhlbfcloaaDoor.PL
section
open Go.RowKit Go.Proofs.YtbghfbhlbfcloaaDoorW.PrintWords Go.Proofs.YtbghfbhlbfcloaaDoorW.PrintLast Go.Proofs.YtbghfbhlbfcloaaDoorW.PrintMore
attribute [local go_sem] zC2 zC0 zC9 zC8 zBs zBr zC1 zBz   -- for this text's walks alone
set_option linter.unusedVariables false
set_option linter.unusedSimpArgs false
/-! ### zBg: function 71 -/
def zBg.l0 : Nat → List Int → List Int → Int → Option (Bool)
 | 0, _, _, _ => none
 | k + 1, x0, x1, x5 => if x5 < (x0.length : Int) then (if 0 ≤ x5 then (if x5 < (x1.length : Int) then (if (rd x0 x5) = (rd x1 x5) then (zBg.l0 k x0 x1 (wrap64 (x5 + 1))) else (some (decide ((rd x0 x5) < (rd x1 x5))))) else (none)) else (none)) else (some false)
def zBg.f (k : Nat) (l0 : List Int) (l1 : List Int) : Option (Bool) := if (l0.length : Int) = (l1.length : Int) then (zBg.l0 k l0 l1 0) else (some (decide ((l0.length : Int) < (l1.length : Int))))
theorem zBg.zBx : ∀ k, (∀ y0 y1 y2, LeO (zBg.l0 k y0 y1 y2) (zBg.l0 (k + 1) y0 y1 y2))
 | 0 => fun _ _ _ r h => by simp [zBg.l0] at h
 | k + 1 => by
  have ih0 := zBg.zBx k
  ·intro y0 y1 y2
   unfold zBg.l0
   repeat' first
   | (with_reducible exact ih0 _ _ _)
   | (with_reducible exact LeO.refl _)
   | (with_reducible exact LeO.none _)
   | (with_reducible refine LeO.ite ?_ ?_)
   | (with_reducible refine LeO.bind ?_ (fun _ => ?_))
theorem zBg.mono : ∀ a0 a1 k, LeO (zBg.f k a0 a1) (zBg.f (k + 1) a0 a1) := by
 intro a0 a1 k
 have ih0 := zBg.zBx k
 unfold zBg.f
 repeat' first
   | (with_reducible exact ih0 _ _ _)
   | (with_reducible exact LeO.refl _)
   | (with_reducible exact LeO.none _)
   | (with_reducible refine LeO.ite ?_ ?_)
   | (with_reducible refine LeO.bind ?_ (fun _ => ?_))
set_option maxHeartbeats 8000000 in
set_option maxRecDepth 100000 in
theorem zBg.calls (k : Nat) (A0 : Option Addr) (c0 : Nat) (l0 : List Int) (A1 : Option Addr) (c1 : Nat) (l1 : List Int) (r : Bool) (w : World) (hr0 : Kd.C (Kd.int .i64) w A0 l0.length l0) (hc0 : l0.length ≤ c0) (hr1 : Kd.C (Kd.int .i64) w A1 l1.length l1) (hc1 : l1.length ≤ c1) (h : zBg.f k l0 l1 = some r) :
  Calls Tryd.prog 71 #[.slice A0 l0.length c0, .slice A1 l1.length c1] w fun e w' => e = .returned (.bool r) ∧ zBd w w' := by
 have HR0 := zA1.mk hr0
 have HC0 := zA1.mk hc0
 clear hr0 hc0
 have HR1 := zA1.mk hr1
 have HC1 := zA1.mk hc1
 clear hr1 hc1
 have H : (if (l0.length : Int) = (l1.length : Int) then (zBg.l0 k l0 l1 0) else (some (decide ((l0.length : Int) < (l1.length : Int))))) = some r := h
 clear h
 by_cases c3 : (l0.length : Int) = (l1.length : Int)
 ·rw [if_pos c3] at H
  have c3b0 : ((l0.length : Int) == (l1.length : Int)) = true := beq_iff_eq.mpr c3
  have c3b1 : ((l0.length : Int) != (l1.length : Int)) = false := bne_eq_false_iff_eq.mpr c3
  have c3b2 : (l0.length == l1.length) = true := by first | simpa using c3 | (simp at c3 ⊢; omega)
  clear c3
  have H' := zA1.mk H
  clear H
  go_enter Tryd.func71, Tryd.ntmps71
  go_wp2
  repeat (go_quiet (fail); try go_wp2)
  go_loopg [5] k (fun kq v5 w' => ∃ (x5_1 : Int), v5 = .int .i64 x5_1 ∧ zA1 (zBg.l0 kq l0 l1 x5_1 = some r) ∧ zA1 (kq ≤ k) ∧ zBd w w')
  case atStart => exact ⟨(0), (by first | rfl | (simp; done) | (simp [*]; done)), H', ⟨Nat.le_refl _⟩, by repeat (first | exact zBd.refl _ | apply zBd.step)⟩
  case round =>
   clear H'
   try clear c1
   try clear p2
   try clear c3
   try clear c3b0
   try clear c3b1
   try clear c3b2
   obtain ⟨x5_1, rfl, HA, HK1, ⟨m1, rfl⟩⟩ := hrel
   cases gk with
   | zero => exact absurd HA.out (by simp [zBg.l0])
   | succ k1 =>
    have H := HA.out
    clear HA
    simp only [zBg.l0] at H
    by_cases c4 : x5_1 < (l0.length : Int)
    ·rw [if_pos c4] at H
     have c4b0 : decide (x5_1 < (l0.length : Int)) = true := decide_eq_true c4
     clear c4
     by_cases c5 : 0 ≤ x5_1
     ·rw [if_pos c5] at H
      have c5b0 : decide (0 ≤ x5_1) = true := decide_eq_true c5
      clear c5
      by_cases c6 : x5_1 < (l1.length : Int)
      ·rw [if_pos c6] at H
       have c6b0 : decide (x5_1 < (l1.length : Int)) = true := decide_eq_true c6
       clear c6
       by_cases c7 : (rd l0 x5_1) = (rd l1 x5_1)
       ·rw [if_pos c7] at H
        have c7b0 : ((rd l0 x5_1) == (rd l1 x5_1)) = true := beq_iff_eq.mpr c7
        have c7b1 : ((rd l0 x5_1) != (rd l1 x5_1)) = false := bne_eq_false_iff_eq.mpr c7
        clear c7
        have H' := zA1.mk H
        clear H
        have p219 : 0 ≤ (x5_1 : Int) := of_decide_eq_true (by first | (with_reducible assumption) | assumption)
        have q219 : x5_1 < (l0.length : Int) := of_decide_eq_true (by first | (with_reducible assumption) | assumption)
        obtain ⟨ad219, e219, hx219_0⟩ := Kd.zCb HR0.out x5_1 p219 q219
        cases e219
        replace p219 := eq_true p219
        replace q219 := eq_true q219
        have p220 : 0 ≤ (x5_1 : Int) := of_decide_eq_true (by first | (with_reducible assumption) | assumption)
        have q220 : x5_1 < (l1.length : Int) := of_decide_eq_true (by first | (with_reducible assumption) | assumption)
        obtain ⟨ad220, e220, hx220_0⟩ := Kd.zCb HR1.out x5_1 p220 q220
        cases e220
        replace p220 := eq_true p220
        replace q220 := eq_true q220
        go_wp2
        repeat (go_quiet (fail); try go_wp2)
        go_roundg k1
        case measure => have := HK1.out; omega
        case rel => exact ⟨(wrap64 (x5_1 + 1)), (by first | rfl | (simp; done) | (simp [*]; done)), H', ⟨by have := HK1.out; omega⟩, by repeat (first | exact zBd.refl _ | apply zBd.step)⟩
       ·rw [if_neg c7] at H
        have c7b0 : ((rd l0 x5_1) == (rd l1 x5_1)) = false := beq_eq_false_iff_ne.mpr c7
        have c7b1 : ((rd l0 x5_1) != (rd l1 x5_1)) = true := bne_iff_ne.mpr c7
        obtain rfl := Option.some.inj H
        have p219 : 0 ≤ (x5_1 : Int) := of_decide_eq_true (by first | (with_reducible assumption) | assumption)
        have q219 : x5_1 < (l0.length : Int) := of_decide_eq_true (by first | (with_reducible assumption) | assumption)
        obtain ⟨ad219, e219, hx219_0⟩ := Kd.zCb HR0.out x5_1 p219 q219
        cases e219
        replace p219 := eq_true p219
        replace q219 := eq_true q219
        have p220 : 0 ≤ (x5_1 : Int) := of_decide_eq_true (by first | (with_reducible assumption) | assumption)
        have q220 : x5_1 < (l1.length : Int) := of_decide_eq_true (by first | (with_reducible assumption) | assumption)
        obtain ⟨ad220, e220, hx220_0⟩ := Kd.zCb HR1.out x5_1 p220 q220
        cases e220
        replace p220 := eq_true p220
        replace q220 := eq_true q220
        have p221 : 0 ≤ (x5_1 : Int) := of_decide_eq_true (by first | (with_reducible assumption) | assumption)
        have q221 : x5_1 < (l0.length : Int) := of_decide_eq_true (by first | (with_reducible assumption) | assumption)
        obtain ⟨ad221, e221, hx221_0⟩ := Kd.zCb HR0.out x5_1 p221 q221
        obtain rfl : ad219 = ad221 := (by injection e221)
        replace p221 := eq_true p221
        replace q221 := eq_true q221
        have p222 : 0 ≤ (x5_1 : Int) := of_decide_eq_true (by first | (with_reducible assumption) | assumption)
        have q222 : x5_1 < (l1.length : Int) := of_decide_eq_true (by first | (with_reducible assumption) | assumption)
        obtain ⟨ad222, e222, hx222_0⟩ := Kd.zCb HR1.out x5_1 p222 q222
        obtain rfl : ad220 = ad222 := (by injection e222)
        replace p222 := eq_true p222
        replace q222 := eq_true q222
        go_wp2
        repeat (go_quiet (fail); try go_wp2)
        go_ret
        exact ⟨by first | rfl | (simp; done) | (simp [*]; done), by repeat (first | exact zBd.refl _ | apply zBd.step)⟩
      ·rw [if_neg c6] at H
       exact absurd H (by simp)
     ·rw [if_neg c5] at H
      exact absurd H (by simp)
    ·rw [if_neg c4] at H
     have c4b0 : decide (x5_1 < (l0.length : Int)) = false := decide_eq_false c4
     clear c4
     obtain rfl := Option.some.inj H
     go_wp2
     repeat (go_quiet (fail); try go_wp2)
     go_ret
     exact ⟨by first | rfl | (simp; done) | (simp [*]; done), by repeat (first | exact zBd.refl _ | apply zBd.step)⟩
 ·rw [if_neg c3] at H
  have c3b0 : ((l0.length : Int) == (l1.length : Int)) = false := beq_eq_false_iff_ne.mpr c3
  have c3b1 : ((l0.length : Int) != (l1.length : Int)) = true := bne_iff_ne.mpr c3
  have c3b2 : (l0.length == l1.length) = false := by first | simpa using c3 | (simp at c3 ⊢; omega)
  obtain rfl := Option.some.inj H
  go_enter Tryd.func71, Tryd.ntmps71
  go_wp2
  repeat (go_quiet (fail); try go_wp2)
  go_ret
  exact ⟨by first | rfl | (simp; done) | (simp [*]; done), by repeat (first | exact zBd.refl _ | apply zBd.step)⟩
end
end Go.Proofs.YtbghfbhlbfcloaaDoor.PL
namespace Go.Proofs.YtbghfbhlbfcloaaDoor.PL
section
open Go.RowKit Go.Proofs.YtbghfbhlbfcloaaDoorW.PrintWords Go.Proofs.YtbghfbhlbfcloaaDoorW.PrintLast Go.Proofs.YtbghfbhlbfcloaaDoorW.PrintMore
attribute [local go_sem] zC2 zC0 zC9 zC8 zBs zBr zC1 zBz   -- for this text's walks alone
set_option linter.unusedVariables false
set_option linter.unusedSimpArgs false
/-! ### zAa: function 42 -/
mutual
def zAa.l0 : Nat → List Int → Int → List (List Int) → Int → Int → List (S68) → Option ((List (List Int)))
 | 0, _, _, _, _, _, _ => none
 | k + 1, x1, x2, x7, x8, x224000, x224001 => if x8 < (shl .i64 1 (x1.length : Int)) then (zAa.l1 k x1 x2 x7 x8 ([] : List Int) 0 x224000 x224001) else (some x7)
def zAa.l1 : Nat → List Int → Int → List (List Int) → Int → List Int → Int → Int → List (S68) → Option ((List (List Int)))
 | 0, _, _, _, _, _, _, _, _ => none
 | k + 1, x1, x2, x7, x8, x9, x10, x224000, x224001 => if x10 < (x1.length : Int) then (if 0 ≤ x10 then (if (Go.bits .and .i64 (shr .i64 x8 x10) 1) = 1 then (if x9.length < 17592186044416 then (zAa.l1 k x1 x2 x7 x8 (x9 ++ [rd x1 x10]) (wrap64 (x10 + 1)) x224000 x224001) else (none)) else (zAa.l1 k x1 x2 x7 x8 x9 (wrap64 (x10 + 1)) x224000 x224001)) else (none)) else (if (x9.length : Int) > x2 then (zAa.j2 k x1 x2 x7 x8 x9 true x224000 x224001) else ((zAm.f k x224000 x224001 x9).bind fun t228 => (zAa.j2 k x1 x2 x7 x8 x9 (!t228) x224000 x224001)))
def zAa.j2 : Nat → List Int → Int → List (List Int) → Int → List Int → Bool → Int → List (S68) → Option ((List (List Int)))
 | 0, _, _, _, _, _, _, _, _ => none
 | k + 1, x1, x2, x7, x8, x9, x47, x224000, x224001 => if x47 = true then (zAa.l0 k x1 x2 x7 (wrap64 (x8 + 1)) x224000 x224001) else (zAa.l2 k x1 x2 x7 x8 x9 0 x224000 x224001)
def zAa.l2 : Nat → List Int → Int → List (List Int) → Int → List Int → Int → Int → List (S68) → Option ((List (List Int)))
 | 0, _, _, _, _, _, _, _, _ => none
 | k + 1, x1, x2, x7, x8, x9, x11, x224000, x224001 => if x11 < (x7.length : Int) then (if 0 ≤ x11 then ((zBg.f k (rd_L6 x7 x11) x9).bind fun t230 => (if t230 = true then (zAa.l2 k x1 x2 x7 x8 x9 (wrap64 (x11 + 1)) x224000 x224001) else ((some (([] : List (List Int)) : List (List Int))).bind fun y231 => (if x11 ≤ (x7.length : Int) then ((some (x7.take (x11 : Int).toNat : List (List Int))).bind fun y234 => (if y231.length + y234.length < 5864062014805 then ((some (y231 ++ y234 : List (List Int))).bind fun y239 => (if y239.length < 5864062014805 then ((some (y239 ++ [x9] : List (List Int))).bind fun y242 => ((some (x7.drop (x11 : Int).toNat : List (List Int))).bind fun y245 => (if y242.length + y245.length < 5864062014805 then (zAa.l0 k x1 x2 (y242 ++ y245) (wrap64 (x8 + 1)) x224000 x224001) else (none)))) else (none))) else (none))) else (none))))) else (none)) else ((some (([] : List (List Int)) : List (List Int))).bind fun y253 => (if 0 ≤ x11 then (if x11 ≤ (x7.length : Int) then ((some (x7.take (x11 : Int).toNat : List (List Int))).bind fun y256 => (if y253.length + y256.length < 5864062014805 then ((some (y253 ++ y256 : List (List Int))).bind fun y261 => (if y261.length < 5864062014805 then ((some (y261 ++ [x9] : List (List Int))).bind fun y264 => ((some (x7.drop (x11 : Int).toNat : List (List Int))).bind fun y267 => (if y264.length + y267.length < 5864062014805 then (zAa.l0 k x1 x2 (y264 ++ y267) (wrap64 (x8 + 1)) x224000 x224001) else (none)))) else (none))) else (none))) else (none)) else (none)))
end
def zAa.f (k : Nat) (a0_0 : Int) (l0_1 : List (S68)) (l1 : List Int) (a2 : Int) : Option ((List (List Int))) := zAa.l0 k l1 a2 ([] : List (List Int)) 1 a0_0 l0_1
theorem zAa.zBx : ∀ k, (∀ y0 y1 y2 y3 y4 y5, LeO (zAa.l0 k y0 y1 y2 y3 y4 y5) (zAa.l0 (k + 1) y0 y1 y2 y3 y4 y5)) ∧ (∀ y0 y1 y2 y3 y4 y5 y6 y7, LeO (zAa.l1 k y0 y1 y2 y3 y4 y5 y6 y7) (zAa.l1 (k + 1) y0 y1 y2 y3 y4 y5 y6 y7)) ∧ (∀ y0 y1 y2 y3 y4 y5 y6 y7, LeO (zAa.j2 k y0 y1 y2 y3 y4 y5 y6 y7) (zAa.j2 (k + 1) y0 y1 y2 y3 y4 y5 y6 y7)) ∧ (∀ y0 y1 y2 y3 y4 y5 y6 y7, LeO (zAa.l2 k y0 y1 y2 y3 y4 y5 y6 y7) (zAa.l2 (k + 1) y0 y1 y2 y3 y4 y5 y6 y7))
 | 0 => ⟨fun _ _ _ _ _ _ r h => by simp [zAa.l0] at h, fun _ _ _ _ _ _ _ _ r h => by simp [zAa.l1] at h, fun _ _ _ _ _ _ _ _ r h => by simp [zAa.j2] at h, fun _ _ _ _ _ _ _ _ r h => by simp [zAa.l2] at h⟩
 | k + 1 => by
  obtain ⟨ih0, ih1, ih2, ih3⟩ := zAa.zBx k
  refine ⟨?_, ?_, ?_, ?_⟩
  ·intro y0 y1 y2 y3 y4 y5
   unfold zAa.l0
   repeat' first
   | (with_reducible exact ih0 _ _ _ _ _ _)
   | (with_reducible exact ih1 _ _ _ _ _ _ _ _)
   | (with_reducible exact ih2 _ _ _ _ _ _ _ _)
   | (with_reducible exact ih3 _ _ _ _ _ _ _ _)
   | (with_reducible exact zAm.mono _ _ _ _)
   | (with_reducible exact zBg.mono _ _ _)
   | (with_reducible exact LeO.refl _)
   | (with_reducible exact LeO.none _)
   | (with_reducible refine LeO.ite ?_ ?_)
   | (with_reducible refine LeO.bind ?_ (fun _ => ?_))
  ·intro y0 y1 y2 y3 y4 y5 y6 y7
   unfold zAa.l1
   repeat' first
   | (with_reducible exact ih0 _ _ _ _ _ _)
   | (with_reducible exact ih1 _ _ _ _ _ _ _ _)
   | (with_reducible exact ih2 _ _ _ _ _ _ _ _)
   | (with_reducible exact ih3 _ _ _ _ _ _ _ _)
   | (with_reducible exact zAm.mono _ _ _ _)
   | (with_reducible exact zBg.mono _ _ _)
   | (with_reducible exact LeO.refl _)
   | (with_reducible exact LeO.none _)
   | (with_reducible refine LeO.ite ?_ ?_)
   | (with_reducible refine LeO.bind ?_ (fun _ => ?_))
  ·intro y0 y1 y2 y3 y4 y5 y6 y7
   unfold zAa.j2
   repeat' first
   | (with_reducible exact ih0 _ _ _ _ _ _)
   | (with_reducible exact ih1 _ _ _ _ _ _ _ _)
   | (with_reducible exact ih2 _ _ _ _ _ _ _ _)
   | (with_reducible exact ih3 _ _ _ _ _ _ _ _)
   | (with_reducible exact zAm.mono _ _ _ _)
   | (with_reducible exact zBg.mono _ _ _)
   | (with_reducible exact LeO.refl _)
   | (with_reducible exact LeO.none _)
   | (with_reducible refine LeO.ite ?_ ?_)
   | (with_reducible refine LeO.bind ?_ (fun _ => ?_))
  ·intro y0 y1 y2 y3 y4 y5 y6 y7
   unfold zAa.l2
   repeat' first
   | (with_reducible exact ih0 _ _ _ _ _ _)
   | (with_reducible exact ih1 _ _ _ _ _ _ _ _)
   | (with_reducible exact ih2 _ _ _ _ _ _ _ _)
   | (with_reducible exact ih3 _ _ _ _ _ _ _ _)
   | (with_reducible exact zAm.mono _ _ _ _)
   | (with_reducible exact zBg.mono _ _ _)
   | (with_reducible exact LeO.refl _)
   | (with_reducible exact LeO.none _)
   | (with_reducible refine LeO.ite ?_ ?_)
   | (with_reducible refine LeO.bind ?_ (fun _ => ?_))
theorem zAa.mono : ∀ a0 a1 a2 a3 k, LeO (zAa.f k a0 a1 a2 a3) (zAa.f (k + 1) a0 a1 a2 a3) := by
 intro a0 a1 a2 a3 k
 obtain ⟨ih0, ih1, ih2, ih3⟩ := zAa.zBx k
 unfold zAa.f
 repeat' first
   | (with_reducible exact ih0 _ _ _ _ _ _)
   | (with_reducible exact ih1 _ _ _ _ _ _ _ _)
   | (with_reducible exact ih2 _ _ _ _ _ _ _ _)
   | (with_reducible exact ih3 _ _ _ _ _ _ _ _)
   | (with_reducible exact zAm.mono _ _ _ _)
   | (with_reducible exact zBg.mono _ _ _)
   | (with_reducible exact LeO.refl _)
   | (with_reducible exact LeO.none _)
   | (with_reducible refine LeO.ite ?_ ?_)
   | (with_reducible refine LeO.bind ?_ (fun _ => ?_))
set_option maxHeartbeats 8000000 in
set_option maxRecDepth 100000 in
theorem zAa.calls (k : Nat) (a0_0 : Int) (A0_1 : Option Addr) (c0_1 : Nat) (l0_1 : List (S68)) (A1 : Option Addr) (c1 : Nat) (l1 : List Int) (a2 : Int) (r : List (List Int)) (w : World) (hr0_1 : Kd.C k68 w A0_1 l0_1.length l0_1) (hc0_1 : l0_1.length ≤ c0_1) (hr1 : Kd.C (Kd.int .i64) w A1 l1.length l1) (hc1 : l1.length ≤ c1) (h : zAa.f k a0_0 l0_1 l1 a2 = some r) :
  Calls Tryd.prog 42 #[.agg #[.int .i64 a0_0, .slice A0_1 l0_1.length c0_1], .slice A1 l1.length c1, .int .i64 a2] w fun e w' => ∃ v0_ : Value, e = .returned (v0_) ∧ Kd.N (Kd.slice 3 (Kd.int .i64)) 23 w' w.heap.size (fun k_ => (w.heap.size ≤ k_)) v0_ r ∧ Below w.heap.size w w' := by
 have hu28 := Tryd.underlying28
 have HR0_1 := zA1.mk hr0_1
 have HC0_1 := zA1.mk hc0_1
 clear hr0_1 hc0_1
 have HR1 := zA1.mk hr1
 have HC1 := zA1.mk hc1
 clear hr1 hc1
 have HB := zA1.mk (Below.refl w.heap.size w)
 have H : (zAa.l0 k l1 a2 ([] : List (List Int)) 1 a0_0 l0_1) = some r := h
 clear h
 have H' := zA1.mk H
 clear H
 go_enter Tryd.func42, Tryd.ntmps42
 go_wp2_with (first | ((with_reducible refine zBk (N := 3) rfl ?_); refine zBj ?hg (N := 3) ?hd (cs := #[.int .i64 a0_0, .slice A0_1 l0_1.length c0_1]) (t := 28) ?hr ?_; (case hd => rfl); (case hg => rfl); (case hr => first | (go_simp; done) | (go_simp; rfl)); intro gb223 hg w4 hbox hb; have n0_ := zA1.mk (zAe (by repeat (first | (with_reducible first | exact HB.out | apply zA2 | apply zA0 | apply zA3) | exact HB.out)) hb); have n1_ := zA1.mk (hbox); have n2_ := zA1.mk ((by rw [hg]; exact (zAb (by repeat (first | (with_reducible first | exact HB.out | apply zA2 | apply zA0 | apply zA3) | exact HB.out))) : w.heap.size ≤ gb223)); have n3_ := zA1.mk ((by rw [hg]; exact (zAb (by repeat (first | (with_reducible first | exact HB.out | apply zA2 | apply zA0 | apply zA3) | exact HB.out))) : w.heap.size ≤ gb223)); clear HB; have HB := n0_; have BK223 := n1_; have GW223 := n2_; have GE223 := n3_; clear n0_ n1_ n2_ n3_; clear hb hbox hg))
 go_loopg [7, 8] k (fun kq v7 v8 w' => ∃ (x7_1 : List (List Int)) (x8_1 : Int), v8 = .int .i64 x8_1 ∧ zA1 (zAa.l0 kq l1 a2 x7_1 x8_1 a0_0 l0_1 = some r) ∧ zA1 (kq ≤ k) ∧ zA1 (Kd.N (Kd.slice 3 (Kd.int .i64)) 23 w' w.heap.size (fun k_ => (w.heap.size ≤ k_) ∧ k_ ≠ gb223) v7 x7_1) ∧ zA1 (w'.heap[gb223]? = some (.cells #[.int .i64 a0_0, (.slice A0_1 l0_1.length c0_1)] 28 (0, 0))) ∧ zA1 (Below w.heap.size w w'))
 case atStart => exact ⟨(([] : List (List Int))), (1), (by first | rfl | (simp; done) | (simp [*]; done)), H', ⟨Nat.le_refl _⟩, ⟨by first | exact Kd.S_nil _ _ _ _ _ | exact Kd.N_nil _ _ _ _ _ | exact Kd.V_nil _ _ _ _ _ | exact Kd.Q_nil _ _ _ _ _ | exact Kd.R_nil _ _ _ _ _⟩, ⟨by (with_reducible repeat (first | refine zA6 ?_ _ | refine zA8 ?_ | refine zA5 ?_ _)); exact BK223.out⟩, ⟨by repeat (first | (with_reducible first | exact HB.out | apply zA2 | apply zA0 | apply zA3 | refine zA4 ?_ GE223.out) | exact HB.out)⟩⟩
 case round =>
  clear H'
  try clear c1
  try clear p2
  try clear c4
  obtain ⟨x7_1, x8_1, rfl, HA, HK1, HO_7, BK223, HB⟩ := hrel
  cases gk with
  | zero => exact absurd HA.out (by simp [zAa.l0])
  | succ k1 =>
   have H := HA.out
   clear HA
   simp only [zAa.l0] at H
   obtain ⟨ji5, hji5⟩ : ∃ j_ : Int, (shl .i64 1 (l1.length : Int)) = j_ := ⟨_, rfl⟩
   replace H : (if x8_1 < (ji5) then (zAa.l1 k1 l1 a2 x7_1 x8_1 ([] : List Int) 0 a0_0 l0_1) else (some x7_1)) = some r := by first | (rw [hji5] at H; exact H) | (simp only [hji5] at H ⊢; exact H)
   have hji5_ : (IntKind.i64.wrap (1 * 2 ^ min (l1.length : Int).toNat 64)) = ji5 := hji5
   have hji5z : (l1.length : Int) ≤ 64 → (IntKind.i64.wrap (1 * 2 ^ (l1.length : Int).toNat)) = ji5 := shl_small hji5
   have hji5p : (IntKind.i64.wrap (1 * 2 ^ min l1.length 64)) = ji5 := hji5_
   have hji5q : (l1.length : Int) ≤ 64 → (IntKind.i64.wrap (1 * 2 ^ l1.length)) = ji5 := hji5z
   have hji5r : (IntKind.i64.wrap (2 ^ min l1.length 64)) = ji5 := by have h_ := hji5p; rw [Int.one_mul] at h_; exact h_
   have hji5s : (l1.length : Int) ≤ 64 → (IntKind.i64.wrap (2 ^ l1.length)) = ji5 := fun hle_ => by have h_ := hji5q hle_; rw [Int.one_mul] at h_; exact h_
   have hji5u : (IntKind.i64.wrap (2 ^ min (l1.length : Int).toNat 64)) = ji5 := by have h_ := hji5_; rw [Int.one_mul] at h_; exact h_
   have hji5v : (l1.length : Int) ≤ 64 → (IntKind.i64.wrap (2 ^ (l1.length : Int).toNat)) = ji5 := fun hle_ => by have h_ := hji5z hle_; rw [Int.one_mul] at h_; exact h_
   have hji5y : (wrap64 (1 * 2 ^ min (l1.length : Int).toNat 64)) = ji5 := (i64_w _).symm.trans hji5_
   have hji5x : (l1.length : Int) ≤ 64 → (wrap64 (1 * 2 ^ (l1.length : Int).toNat)) = ji5 := fun h_ => (i64_w _).symm.trans (hji5z h_)
   by_cases c6 : x8_1 < (ji5)
   ·rw [if_pos c6] at H
    have c6b0 : decide (x8_1 < (ji5)) = true := decide_eq_true c6
    clear c6
    have H' := zA1.mk H
    clear H
    go_wp2
    go_loopg [9, 10] k1 (fun kq v9 v10 w' => ∃ (x9_2 : List Int) (x10_2 : Int), v10 = .int .i64 x10_2 ∧ zA1 (zAa.l1 kq l1 a2 x7_1 x8_1 x9_2 x10_2 a0_0 l0_1 = some r) ∧ zA1 (kq ≤ k1) ∧ zA1 (Kd.N (Kd.slice 3 (Kd.int .i64)) 23 w' w.heap.size (fun k_ => (w.heap.size ≤ k_) ∧ some k_ ≠ (v9 : Value).ownBlock ∧ k_ ≠ gb223) u7 x7_1) ∧ zA1 (Kd.R (Kd.int .i64) 3 w' w.heap.size (fun k_ => (w.heap.size ≤ k_)) v9 x9_2) ∧ zA1 (w'.heap[gb223]? = some (.cells #[.int .i64 a0_0, (.slice A0_1 l0_1.length c0_1)] 28 (0, 0))) ∧ zA1 (Below w.heap.size w w'))
    case atStart => exact ⟨(([] : List Int)), (0), (by first | rfl | (simp; done) | (simp [*]; done)), H', ⟨Nat.le_refl _⟩, ⟨by (with_reducible repeat (first | apply Kd.zBm | apply Kd.zBl | apply Kd.zBv)); exact Kd.N_mono HO_7.out (fun _ hk => ⟨hk.1, ⟨(by simp [Value.ownBlock]), hk.2⟩⟩)⟩, ⟨by first | exact Kd.R_nil _ _ _ _ _ | exact Kd.N_nil _ _ _ _ _ | exact Kd.V_nil _ _ _ _ _ | exact Kd.Q_nil _ _ _ _ _ | exact Kd.S_nil _ _ _ _ _⟩, ⟨by (with_reducible repeat (first | refine zA6 ?_ _ | refine zA8 ?_ | refine zA5 ?_ _)); exact BK223.out⟩, ⟨by repeat (first | (with_reducible first | exact HB.out | apply zA2 | apply zA0 | apply zA3 | refine zA4 ?_ GE223.out) | exact HB.out)⟩⟩
    case round =>
     clear H'
     try clear c1
     try clear p2
     try clear c4
     try clear c6
     try clear c6b0
     try clear p6
     try clear p2
     obtain ⟨x9_2, x10_2, rfl, HA, HK2, HO_7, HO_9, BK223, HB⟩ := hrel
     cases gk with
     | zero => exact absurd HA.out (by simp [zAa.l1])
     | succ k2 =>
      have H := HA.out
      clear HA
      simp only [zAa.l1] at H
      by_cases c7 : x10_2 < (l1.length : Int)
      ·rw [if_pos c7] at H
       have c7b0 : decide (x10_2 < (l1.length : Int)) = true := decide_eq_true c7
       clear c7
       by_cases c8 : 0 ≤ x10_2
       ·rw [if_pos c8] at H
        have c8b0 := eq_true c8
        have c8b1 : decide (0 ≤ x10_2) = true := decide_eq_true c8
        clear c8
        obtain ⟨ji9, hji9⟩ : ∃ j_ : Int, (shr .i64 x8_1 x10_2) = j_ := ⟨_, rfl⟩
        replace H : (if (Go.bits .and .i64 (ji9) 1) = 1 then (if x9_2.length < 17592186044416 then (zAa.l1 k2 l1 a2 x7_1 x8_1 (x9_2 ++ [rd l1 x10_2]) (wrap64 (x10_2 + 1)) a0_0 l0_1) else (none)) else (zAa.l1 k2 l1 a2 x7_1 x8_1 x9_2 (wrap64 (x10_2 + 1)) a0_0 l0_1)) = some r := by first | (rw [hji9] at H; exact H) | (simp only [hji9] at H ⊢; exact H)
        have hji9_ : (x8_1 / 2 ^ min x10_2.toNat 64) = ji9 := hji9
        have hji9z : x10_2 ≤ 64 → (x8_1 / 2 ^ x10_2.toNat) = ji9 := shr_small hji9
        by_cases c10 : (Go.bits .and .i64 (ji9) 1) = 1
        ·rw [if_pos c10] at H
         have c10b0 : ((Go.bits .and .i64 (ji9) 1) == 1) = true := beq_iff_eq.mpr c10
         have c10b1 : ((Go.bits .and .i64 (ji9) 1) != 1) = false := bne_eq_false_iff_eq.mpr c10
         clear c10
         by_cases c11 : x9_2.length < 17592186044416
         ·rw [if_pos c11] at H
          have LMc11 := zA1.mk c11
          clear c11
          obtain ⟨y225, hy225⟩ : ∃ y_ : List Int, y_ = (x9_2 ++ [rd l1 x10_2]) := ⟨_, rfl⟩
          replace H : (zAa.l1 k2 l1 a2 x7_1 x8_1 y225 (wrap64 (x10_2 + 1)) a0_0 l0_1) = some r := by first | (rw [hy225]; with_reducible exact H) | (have H2_ := (Option.bind_some _ _).symm.trans H; rw [hy225]; with_reducible exact H2_) | (have H2_ := (Option.bind_some _ _).symm.trans H; with_reducible exact H2_) | with_reducible exact H | (rw [hy225]; exact H) | exact H
          have Ny225 := zA1.mk hy225
          clear hy225
          have H' := zA1.mk H
          clear H
          have p224 : 0 ≤ (x10_2 : Int) := of_decide_eq_true (by first | (with_reducible assumption) | assumption)
          have q224 : x10_2 < (l1.length : Int) := of_decide_eq_true (by first | (with_reducible assumption) | assumption)
          obtain ⟨ad224, e224, hx224_0⟩ := Kd.zCb HR1.out x10_2 p224 q224
          cases e224
          replace hx224_0 := (HB.out.cell (World.block_lt_of_cell? w _ hx224_0)).trans hx224_0
          replace p224 := eq_true p224
          replace q224 := eq_true q224
          go_wp2_with (first | ((with_reducible refine zCg (b := .append) (xs := #[.tmp 31, .tmp 36]) rfl ?_); at_builtin; refine Kd.R_append (Kd.int .i64) (w0 := w) w.heap.size rfl (.tmp 31) (.tmp 36) 23 3 (.int .i64 0) 8 rfl Tryd.underlying23 info3 rfl (by decide) (by omega) u9 x9_2 (rd l1 x10_2) [.int .i64 (rd l1 x10_2)] (fun k_ => (w.heap.size ≤ k_)) (fun _ => False) rfl rfl ?aP (fun _ hk => hk.elim) ?aF ?aO ?aB ?aS ?aL ?_; (case aP => exact rfl); (case aB => exact (by repeat (first | (with_reducible first | exact HB.out | apply zA2 | apply zA0 | apply zA3 | refine zA4 ?_ GE223.out) | exact HB.out))); (case aF => exact (fun k_ hk => (Nat.le_trans (zAb (by repeat (first | (with_reducible first | exact HB.out | apply zA2 | apply zA0 | apply zA3 | refine zA4 ?_ GE223.out) | exact HB.out))) hk))); (case aO => exact (by (with_reducible repeat (first | apply Kd.zAi | apply Kd.zAh | apply Kd.zAp)); exact HO_9.out)); (case aS => exact (zAb (by repeat (first | (with_reducible first | exact HB.out | apply zA2 | apply zA0 | apply zA3 | refine zA4 ?_ GE223.out) | exact HB.out)))); (case aL => have := LMc11.out; omega); intro v226 w12 ho hb hg hat; rw [← Ny225.out] at ho; have n0_ := zA1.mk (Kd.N_afterv (ok := (fun k_ => (w.heap.size ≤ k_) ∧ k_ ≠ gb223)) (by (with_reducible repeat (first | apply Kd.zBm | apply Kd.zBl | apply Kd.zBv)); exact Kd.N_mono HO_7.out (fun _ hk => ⟨⟨hk.1, hk.2.2⟩, hk.2.1⟩)) hg hat); have n1_ := zA1.mk (blk_grown (g := gb223) (o := .cells #[.int .i64 a0_0, .slice A0_1 l0_1.length c0_1] 28 (0, 0)) (by (with_reducible repeat (first | refine zA6 ?_ _ | refine zA8 ?_ | refine zA5 ?_ _)); exact BK223.out) hg (Kd.R_ne HO_9.out BK223.out (by decide))); have n2_ := zA1.mk (hb); have n3_ := zA1.mk (ho); clear HO_7; clear BK223; clear HB; clear HO_9; have HO_7 := n0_; have BK223 := n1_; have HB := n2_; have HO227 := n3_; clear n0_ n1_ n2_ n3_; clear ho hb hg hat))
          go_roundg k2
          case measure => have := HK1.out; have := HK2.out; omega
          case rel => exact ⟨(y225), (wrap64 (x10_2 + 1)), (by first | rfl | (simp; done) | (simp [*]; done)), H', ⟨by have := HK1.out; have := HK2.out; omega⟩, ⟨by (with_reducible repeat (first | apply Kd.zBm | apply Kd.zBl | apply Kd.zBv)); exact Kd.N_mono HO_7.out (fun _ hk => ⟨hk.1.1, ⟨hk.2, hk.1.2⟩⟩)⟩, ⟨by (with_reducible repeat (first | apply Kd.zAi | apply Kd.zAh | apply Kd.zAp)); exact HO227.out⟩, ⟨by (with_reducible repeat (first | refine zA6 ?_ _ | refine zA8 ?_ | refine zA5 ?_ _)); exact BK223.out⟩, ⟨by repeat (first | (with_reducible first | exact HB.out | apply zA2 | apply zA0 | apply zA3 | refine zA4 ?_ GE223.out) | exact HB.out)⟩⟩
         ·rw [if_neg c11] at H
          exact absurd H (by simp)
        ·rw [if_neg c10] at H
         have c10b0 : ((Go.bits .and .i64 (ji9) 1) == 1) = false := beq_eq_false_iff_ne.mpr c10
         have c10b1 : ((Go.bits .and .i64 (ji9) 1) != 1) = true := bne_iff_ne.mpr c10
         have H' := zA1.mk H
         clear H
         go_wp2
         go_roundg k2
         case measure => have := HK1.out; have := HK2.out; omega
         case rel => exact ⟨(x9_2), (wrap64 (x10_2 + 1)), (by first | rfl | (simp; done) | (simp [*]; done)), H', ⟨by have := HK1.out; have := HK2.out; omega⟩, ⟨by (with_reducible repeat (first | apply Kd.zBm | apply Kd.zBl | apply Kd.zBv)); exact HO_7.out⟩, ⟨by (with_reducible repeat (first | apply Kd.zAi | apply Kd.zAh | apply Kd.zAp)); exact HO_9.out⟩, ⟨by (with_reducible repeat (first | refine zA6 ?_ _ | refine zA8 ?_ | refine zA5 ?_ _)); exact BK223.out⟩, ⟨by repeat (first | (with_reducible first | exact HB.out | apply zA2 | apply zA0 | apply zA3 | refine zA4 ?_ GE223.out) | exact HB.out)⟩⟩
       ·rw [if_neg c8] at H
        exact absurd H (by simp)
      ·rw [if_neg c7] at H
       have c7b0 : decide (x10_2 < (l1.length : Int)) = false := decide_eq_false c7
       clear c7
       have HC13 := zA1.mk H
       clear H
       go_upto_region 11 with (fail)
       go_cut [47] (fun v47 wc => ∃ (kq : Nat) (x47_12 : Bool), v47 = .bool x47_12 ∧ zA1 (zAa.j2 kq l1 a2 x7_1 x8_1 x9_2 x47_12 a0_0 l0_1 = some r) ∧ zA1 (kq ≤ k2) ∧ zA1 (Kd.N (Kd.slice 3 (Kd.int .i64)) 23 wc w.heap.size (fun k_ => (w.heap.size ≤ k_) ∧ some k_ ≠ (u9 : Value).ownBlock ∧ k_ ≠ gb223) u7 x7_1) ∧ zA1 (Kd.R (Kd.int .i64) 3 wc w.heap.size (fun k_ => (w.heap.size ≤ k_)) u9 x9_2) ∧ zA1 (wc.heap[gb223]? = some (.cells #[.int .i64 a0_0, (.slice A0_1 l0_1.length c0_1)] 28 (0, 0))) ∧ zA1 (Below w.heap.size w wc))
       case first =>
        have H := HC13.out
        clear HC13
        by_cases c14 : (x9_2.length : Int) > a2
        ·rw [if_pos c14] at H
         have c14b0 : decide (a2 < (x9_2.length : Int)) = true := decide_eq_true c14
         clear c14
         (first | rw [c14b0] | (simp only [i64_w, i32_w]; rw [c14b0]) | skip)
         have H' := zA1.mk H
         clear H
         obtain ⟨Ao15, co15, eo15⟩ := Kd.zC5 HO_9.out
         subst eo15
         go_wp2
         go_meet
         case rel => exact ⟨_, (true), (by first | rfl | (simp; done) | (simp [*]; done)), H', ⟨by have := HK1.out; have := HK2.out; first | omega | exact Nat.le_refl _⟩, ⟨by (with_reducible repeat (first | apply Kd.zBm | apply Kd.zBl | apply Kd.zBv)); exact HO_7.out⟩, ⟨by (with_reducible repeat (first | apply Kd.zAi | apply Kd.zAh | apply Kd.zAp)); exact HO_9.out⟩, ⟨by (with_reducible repeat (first | refine zA6 ?_ _ | refine zA8 ?_ | refine zA5 ?_ _)); exact BK223.out⟩, ⟨by repeat (first | (with_reducible first | exact HB.out | apply zA2 | apply zA0 | apply zA3 | refine zA4 ?_ GE223.out) | exact HB.out)⟩⟩
        ·rw [if_neg c14] at H
         have c14b0 : decide (a2 < (x9_2.length : Int)) = false := decide_eq_false c14
         clear c14
         (first | rw [c14b0] | (simp only [i64_w, i32_w]; rw [c14b0]) | skip)
         replace H := Option.bind_eq_some_iff.mp H
         obtain ⟨t228, A160, H⟩ := H
         replace H : (zAa.j2 k2 l1 a2 x7_1 x8_1 x9_2 (!t228) a0_0 l0_1) = some r := H
         have A16 := zA1.mk A160
         clear A160
         have H' := zA1.mk H
         clear H
         obtain ⟨Ao17, co17, eo17⟩ := Kd.zC5 HO_9.out
         subst eo17
         have hcz18_0 : wr.cell? ⟨gb223, 0, none⟩ = some (.int .i64 a0_0) := (zA9 BK223.out 0).trans rfl
         have hcz18_1 : wr.cell? ⟨gb223, 1, none⟩ = some (.slice A0_1 l0_1.length c0_1) := (zA9 BK223.out 1).trans rfl
         have hfz18_0 := zAd BK223.out 0
         have hfz18_1 := zAd BK223.out 1
         go_wp2_with (first | (go_at_call 12; (with_reducible refine (zAm.calls k2 a0_0 _ _ l0_1 _ _ x9_2 t228 _ ?side1 ?side2 ?side3 ?side4 A16.out).mono ?_); (case side1 => repeat (first | exact (Kd.zB1 HR0_1.out HB.out) | (with_reducible refine Kd.zAf ?_ _) | (with_reducible refine Kd.zAk ?_ _) | (with_reducible refine Kd.zAv ?_))); (case side2 => exact HC0_1.out); (case side3 => repeat (first | exact (Kd.zAw HO_9.out).2.2 | (with_reducible refine Kd.zAf ?_ _) | (with_reducible refine Kd.zAk ?_ _) | (with_reducible refine Kd.zAv ?_))); (case side4 => exact (Kd.zAw HO_9.out).2.1); rintro e w19 ⟨rfl, hb⟩; have n0_ := zA1.mk (Kd.N_below (by (with_reducible repeat (first | apply Kd.zBm | apply Kd.zBl | apply Kd.zBv)); exact HO_7.out) hb); have n1_ := zA1.mk (Kd.zBi (by (with_reducible repeat (first | apply Kd.zAi | apply Kd.zAh | apply Kd.zAp)); exact HO_9.out) hb); have n2_ := zA1.mk (zAt (g := gb223) (o := .cells #[.int .i64 a0_0, .slice A0_1 l0_1.length c0_1] 28 (0, 0)) (by (with_reducible repeat (first | refine zA6 ?_ _ | refine zA8 ?_ | refine zA5 ?_ _)); exact BK223.out) hb); have n3_ := zA1.mk (zAe (by repeat (first | (with_reducible first | exact HB.out | apply zA2 | apply zA0 | apply zA3 | refine zA4 ?_ GE223.out) | exact HB.out)) hb); clear HO_7; clear HO_9; clear BK223; clear HB; have HO_7 := n0_; have HO_9 := n1_; have BK223 := n2_; have HB := n3_; clear n0_ n1_ n2_ n3_; (try clear hb); (try clear hb2); (try clear hk); (try clear hi)))
         go_meet
         case rel => exact ⟨_, (!t228), (by first | rfl | (simp; done) | (simp [*]; done)), H', ⟨by have := HK1.out; have := HK2.out; first | omega | exact Nat.le_refl _⟩, ⟨by (with_reducible repeat (first | apply Kd.zBm | apply Kd.zBl | apply Kd.zBv)); exact HO_7.out⟩, ⟨by (with_reducible repeat (first | apply Kd.zAi | apply Kd.zAh | apply Kd.zAp)); exact HO_9.out⟩, ⟨by (with_reducible repeat (first | refine zA6 ?_ _ | refine zA8 ?_ | refine zA5 ?_ _)); exact BK223.out⟩, ⟨by repeat (first | (with_reducible first | exact HB.out | apply zA2 | apply zA0 | apply zA3 | refine zA4 ?_ GE223.out) | exact HB.out)⟩⟩
       case rest =>
        clear HC13
        try clear c1
        try clear p2
        try clear q2
        try clear hx2
        try clear c4
        try clear c6
        try clear c6b0
        try clear p6
        try clear c7
        try clear c7b0
        try clear c8
        try clear c8b0
        try clear c8b1
        try clear c10
        try clear c10b0
        try clear c10b1
        try clear c11
        try clear c14
        try clear c14b0
        try clear hcz18_0
        try clear hcz18_1
        try clear hfz18_0
        try clear hfz18_1
        try clear hx224_0
        try clear p2
        try clear p224
        try clear p6
        try clear q224
        obtain ⟨kq, x47_12, rfl, HA, HJ12, HO_7, HO_9, BK223, HB⟩ := hcut
        cases kq with
        | zero => exact absurd HA.out (by simp [zAa.j2])
        | succ kj12 =>
         have H := HA.out
         clear HA
         simp only [zAa.j2] at H
         by_cases c20 : x47_12 = true
         ·subst c20
          have H1 : (zAa.l0 kj12 l1 a2 x7_1 (wrap64 (x8_1 + 1)) a0_0 l0_1) = some r := by rw [if_pos rfl] at H; exact H
          clear H
          have H := H1
          clear H1
          have H' := zA1.mk H
          clear H
          go_wp2
          go_roundg kj12
          case measure => have := HK1.out; have := HK2.out; have := HJ12.out; omega
          case rel => exact ⟨(x7_1), (wrap64 (x8_1 + 1)), (by first | rfl | (simp; done) | (simp [*]; done)), H', ⟨by have := HK1.out; have := HK2.out; have := HJ12.out; omega⟩, ⟨by (with_reducible repeat (first | apply Kd.zBm | apply Kd.zBl | apply Kd.zBv)); exact Kd.N_mono HO_7.out (fun _ hk => ⟨hk.1, hk.2.2⟩)⟩, ⟨by (with_reducible repeat (first | refine zA6 ?_ _ | refine zA8 ?_ | refine zA5 ?_ _)); exact BK223.out⟩, ⟨by repeat (first | (with_reducible first | exact HB.out | apply zA2 | apply zA0 | apply zA3 | refine zA4 ?_ GE223.out) | exact HB.out)⟩⟩
         ·replace c20 := Bool.eq_false_iff.mpr c20
          subst c20
          have H1 : (zAa.l2 kj12 l1 a2 x7_1 x8_1 x9_2 0 a0_0 l0_1) = some r := by rw [if_neg (show ¬ (false = true) by decide)] at H; exact H
          clear H
          have H := H1
          clear H1
          have H' := zA1.mk H
          clear H
          go_wp2
          go_loopg [11] kj12 (fun kq v11 w' => ∃ (x11_4 : Int), v11 = .int .i64 x11_4 ∧ zA1 (zAa.l2 kq l1 a2 x7_1 x8_1 x9_2 x11_4 a0_0 l0_1 = some r) ∧ zA1 (kq ≤ kj12) ∧ zA1 (Kd.N (Kd.slice 3 (Kd.int .i64)) 23 w' w.heap.size (fun k_ => (w.heap.size ≤ k_) ∧ some k_ ≠ (u9 : Value).ownBlock ∧ k_ ≠ gb223) u7 x7_1) ∧ zA1 (Kd.R (Kd.int .i64) 3 w' w.heap.size (fun k_ => (w.heap.size ≤ k_)) u9 x9_2) ∧ zA1 (w'.heap[gb223]? = some (.cells #[.int .i64 a0_0, (.slice A0_1 l0_1.length c0_1)] 28 (0, 0))) ∧ zA1 (Below w.heap.size w w'))
          case atStart => exact ⟨(0), (by first | rfl | (simp; done) | (simp [*]; done)), H', ⟨Nat.le_refl _⟩, ⟨by (with_reducible repeat (first | apply Kd.zBm | apply Kd.zBl | apply Kd.zBv)); exact HO_7.out⟩, ⟨by (with_reducible repeat (first | apply Kd.zAi | apply Kd.zAh | apply Kd.zAp)); exact HO_9.out⟩, ⟨by (with_reducible repeat (first | refine zA6 ?_ _ | refine zA8 ?_ | refine zA5 ?_ _)); exact BK223.out⟩, ⟨by repeat (first | (with_reducible first | exact HB.out | apply zA2 | apply zA0 | apply zA3 | refine zA4 ?_ GE223.out) | exact HB.out)⟩⟩
          case round =>
           clear H'
           try clear c1
           try clear c2
           try clear p2
           try clear q2
           try clear hx2
           try clear c4
           try clear c6
           try clear c6b0
           try clear p6
           try clear c7
           try clear c7b0
           try clear c8
           try clear c8b0
           try clear c8b1
           try clear c10
           try clear c10b0
           try clear c10b1
           try clear c11
           try clear c14
           try clear c14b0
           try clear c20
           try clear hcz18_0
           try clear hcz18_1
           try clear hfz18_0
           try clear hfz18_1
           try clear hx224_0
           try clear p2
           try clear p224
           try clear p6
           try clear q2
           try clear q224
           obtain ⟨x11_4, rfl, HA, HK4, HO_7, HO_9, BK223, HB⟩ := hrel
           cases gk with
           | zero => exact absurd HA.out (by simp [zAa.l2])
           | succ k4 =>
            have H := HA.out
            clear HA
            simp only [zAa.l2] at H
            by_cases c21 : x11_4 < (x7_1.length : Int)
            ·rw [if_pos c21] at H
             have c21b0 : decide (x11_4 < (x7_1.length : Int)) = true := decide_eq_true c21
             clear c21
             by_cases c22 : 0 ≤ x11_4
             ·rw [if_pos c22] at H
              have c22b0 : decide (0 ≤ x11_4) = true := decide_eq_true c22
              clear c22
              replace H := Option.bind_eq_some_iff.mp H
              obtain ⟨t230, A230, H⟩ := H
              replace H : (if t230 = true then (zAa.l2 k4 l1 a2 x7_1 x8_1 x9_2 (wrap64 (x11_4 + 1)) a0_0 l0_1) else ((some (([] : List (List Int)) : List (List Int))).bind fun y231 => (if x11_4 ≤ (x7_1.length : Int) then ((some (x7_1.take (x11_4 : Int).toNat : List (List Int))).bind fun y234 => (if y231.length + y234.length < 5864062014805 then ((some (y231 ++ y234 : List (List Int))).bind fun y239 => (if y239.length < 5864062014805 then ((some (y239 ++ [x9_2] : List (List Int))).bind fun y242 => ((some (x7_1.drop (x11_4 : Int).toNat : List (List Int))).bind fun y245 => (if y242.length + y245.length < 5864062014805 then (zAa.l0 k4 l1 a2 (y242 ++ y245) (wrap64 (x8_1 + 1)) a0_0 l0_1) else (none)))) else (none))) else (none))) else (none)))) = some r := H
              have A23 := zA1.mk A230
              clear A230
              by_cases c24 : t230 = true
              ·subst c24
               have H1 : (zAa.l2 k4 l1 a2 x7_1 x8_1 x9_2 (wrap64 (x11_4 + 1)) a0_0 l0_1) = some r := by rw [if_pos rfl] at H; exact H
               clear H
               have H := H1
               clear H1
               have H' := zA1.mk H
               clear H
               obtain ⟨Ao25, co25, eo25⟩ := Kd.N_slice HO_7.out
               subst eo25
               have p229 : 0 ≤ (x11_4 : Int) := of_decide_eq_true (by first | (with_reducible assumption) | assumption)
               have q229 : x11_4 < (x7_1.length : Int) := of_decide_eq_true (by first | (with_reducible assumption) | assumption)
               obtain ⟨ad229, A229_0, c229_0, e229, hx229_0, hl229_0, hi229_0⟩ := at_L6 (Kd.zBo HO_7.out).2.2 x11_4 p229 q229
               cases e229
               obtain ⟨ce229, hce229, hMe229, hcc229⟩ := Kd.N_get HO_7.out [] x11_4 p229 (by first | exact q229 | exact of_decide_eq_true (by first | (with_reducible assumption) | assumption) | (have e_ := (Kd.zBo HO_7.out).1; omega))
               obtain ⟨ua229_0, uc229_0, rfl, ul229_0, ge229_0⟩ := Kd.FK_slice_open hMe229
               have hv229_0 := hcc229 0 _ rfl
               rw [Nat.add_zero, show ((Kd.slice 3 (Kd.int .i64))).sz = 1 from rfl, Nat.mul_one] at hv229_0
               replace hv229_0 := Option.some.inj (hv229_0.symm.trans hx229_0)
               injection hv229_0 with hva_ hvn_ hvc_
               rw [hva_] at ge229_0
               rw [hvc_] at ul229_0
               have HL229_0 := zA1.mk (show Kd.V (Kd.int .i64) 3 _ w.heap.size _ _ (rd_L6 x7_1 x11_4) from Kd.V_mk ul229_0 ge229_0)
               clear hva_ hvn_ hvc_ ge229_0 ul229_0
               clear hcc229 hce229
               have HR229_0 := zA1.mk hi229_0
               have HC229_0 := zA1.mk hl229_0
               clear hi229_0 hl229_0
               replace p229 := eq_true p229
               replace q229 := eq_true q229
               obtain ⟨Ao26, co26, eo26⟩ := Kd.zC5 HO_9.out
               subst eo26
               go_wp2_with (first | (go_at_call 71; (with_reducible refine (zBg.calls k4 _ _ (rd_L6 x7_1 x11_4) _ _ x9_2 true _ ?side1 ?side2 ?side3 ?side4 A23.out).mono ?_); (case side1 => repeat (first | exact (by repeat (first | (with_reducible exact HR229_0.out) | (with_reducible refine Kd.zAf ?_ _) | (with_reducible refine Kd.zAk ?_ _) | (with_reducible refine Kd.zAv ?_) | exact HR229_0.out)) | (with_reducible refine Kd.zAf ?_ _) | (with_reducible refine Kd.zAk ?_ _) | (with_reducible refine Kd.zAv ?_))); (case side2 => exact HC229_0.out); (case side3 => repeat (first | exact (Kd.zAw HO_9.out).2.2 | (with_reducible refine Kd.zAf ?_ _) | (with_reducible refine Kd.zAk ?_ _) | (with_reducible refine Kd.zAv ?_))); (case side4 => exact (Kd.zAw HO_9.out).2.1); rintro e w' ⟨rfl, ⟨nd, rfl⟩⟩))
               go_roundg k4
               case measure => have := HK1.out; have := HK2.out; have := HJ12.out; have := HK4.out; omega
               case rel => exact ⟨(wrap64 (x11_4 + 1)), (by first | rfl | (simp; done) | (simp [*]; done)), H', ⟨by have := HK1.out; have := HK2.out; have := HJ12.out; have := HK4.out; omega⟩, ⟨by (with_reducible repeat (first | apply Kd.zBm | apply Kd.zBl | apply Kd.zBv)); exact HO_7.out⟩, ⟨by (with_reducible repeat (first | apply Kd.zAi | apply Kd.zAh | apply Kd.zAp)); exact HO_9.out⟩, ⟨by (with_reducible repeat (first | refine zA6 ?_ _ | refine zA8 ?_ | refine zA5 ?_ _)); exact BK223.out⟩, ⟨by repeat (first | (with_reducible first | exact HB.out | apply zA2 | apply zA0 | apply zA3 | refine zA4 ?_ GE223.out) | exact HB.out)⟩⟩
              ·replace c24 := Bool.eq_false_iff.mpr c24
               subst c24
               have H1 : ((some (([] : List (List Int)) : List (List Int))).bind fun y231 => (if x11_4 ≤ (x7_1.length : Int) then ((some (x7_1.take (x11_4 : Int).toNat : List (List Int))).bind fun y234 => (if y231.length + y234.length < 5864062014805 then ((some (y231 ++ y234 : List (List Int))).bind fun y239 => (if y239.length < 5864062014805 then ((some (y239 ++ [x9_2] : List (List Int))).bind fun y242 => ((some (x7_1.drop (x11_4 : Int).toNat : List (List Int))).bind fun y245 => (if y242.length + y245.length < 5864062014805 then (zAa.l0 k4 l1 a2 (y242 ++ y245) (wrap64 (x8_1 + 1)) a0_0 l0_1) else (none)))) else (none))) else (none))) else (none))) = some r := by rw [if_neg (show ¬ (false = true) by decide)] at H; exact H
               clear H
               have H := H1
               clear H1
               obtain ⟨y231, hy231⟩ : ∃ y_ : List (List Int), y_ = (([] : List (List Int))) := ⟨_, rfl⟩
               replace H : (if x11_4 ≤ (x7_1.length : Int) then ((some (x7_1.take (x11_4 : Int).toNat : List (List Int))).bind fun y234 => (if y231.length + y234.length < 5864062014805 then ((some (y231 ++ y234 : List (List Int))).bind fun y239 => (if y239.length < 5864062014805 then ((some (y239 ++ [x9_2] : List (List Int))).bind fun y242 => ((some (x7_1.drop (x11_4 : Int).toNat : List (List Int))).bind fun y245 => (if y242.length + y245.length < 5864062014805 then (zAa.l0 k4 l1 a2 (y242 ++ y245) (wrap64 (x8_1 + 1)) a0_0 l0_1) else (none)))) else (none))) else (none))) else (none)) = some r := by first | (rw [hy231]; with_reducible exact H) | (have H2_ := (Option.bind_some _ _).symm.trans H; rw [hy231]; with_reducible exact H2_) | (have H2_ := (Option.bind_some _ _).symm.trans H; with_reducible exact H2_) | with_reducible exact H | (rw [hy231]; exact H) | exact H
               have Ny231 := zA1.mk hy231
               clear hy231
               have c27b0 := eq_true (of_decide_eq_true (by first | (with_reducible assumption) | assumption) : 0 ≤ x11_4)
               by_cases c28 : x11_4 ≤ (x7_1.length : Int)
               ·rw [if_pos c28] at H
                have c28b0 := eq_true c28
                have c28b1 : decide (x11_4 ≤ (x7_1.length : Int)) = true := decide_eq_true c28
                clear c28
                obtain ⟨y234, hy234⟩ : ∃ y_ : List (List Int), y_ = (x7_1.take (x11_4 : Int).toNat) := ⟨_, rfl⟩
                replace H : (if y231.length + y234.length < 5864062014805 then ((some (y231 ++ y234 : List (List Int))).bind fun y239 => (if y239.length < 5864062014805 then ((some (y239 ++ [x9_2] : List (List Int))).bind fun y242 => ((some (x7_1.drop (x11_4 : Int).toNat : List (List Int))).bind fun y245 => (if y242.length + y245.length < 5864062014805 then (zAa.l0 k4 l1 a2 (y242 ++ y245) (wrap64 (x8_1 + 1)) a0_0 l0_1) else (none)))) else (none))) else (none)) = some r := by first | (rw [hy234]; with_reducible exact H) | (have H2_ := (Option.bind_some _ _).symm.trans H; rw [hy234]; with_reducible exact H2_) | (have H2_ := (Option.bind_some _ _).symm.trans H; with_reducible exact H2_) | with_reducible exact H | (rw [hy234]; exact H) | exact H
                have Ny234 := zA1.mk hy234
                clear hy234
                by_cases c29 : y231.length + y234.length < 5864062014805
                ·rw [if_pos c29] at H
                 have LMc29 := zA1.mk c29
                 clear c29
                 obtain ⟨y239, hy239⟩ : ∃ y_ : List (List Int), y_ = (y231 ++ y234) := ⟨_, rfl⟩
                 replace H : (if y239.length < 5864062014805 then ((some (y239 ++ [x9_2] : List (List Int))).bind fun y242 => ((some (x7_1.drop (x11_4 : Int).toNat : List (List Int))).bind fun y245 => (if y242.length + y245.length < 5864062014805 then (zAa.l0 k4 l1 a2 (y242 ++ y245) (wrap64 (x8_1 + 1)) a0_0 l0_1) else (none)))) else (none)) = some r := by first | (rw [hy239]; with_reducible exact H) | (have H2_ := (Option.bind_some _ _).symm.trans H; rw [hy239]; with_reducible exact H2_) | (have H2_ := (Option.bind_some _ _).symm.trans H; with_reducible exact H2_) | with_reducible exact H | (rw [hy239]; exact H) | exact H
                 have Ny239 := zA1.mk hy239
                 clear hy239
                 by_cases c30 : y239.length < 5864062014805
                 ·rw [if_pos c30] at H
                  have LMc30 := zA1.mk c30
                  clear c30
                  obtain ⟨y242, hy242⟩ : ∃ y_ : List (List Int), y_ = (y239 ++ [x9_2]) := ⟨_, rfl⟩
                  replace H : ((some (x7_1.drop (x11_4 : Int).toNat : List (List Int))).bind fun y245 => (if y242.length + y245.length < 5864062014805 then (zAa.l0 k4 l1 a2 (y242 ++ y245) (wrap64 (x8_1 + 1)) a0_0 l0_1) else (none))) = some r := by first | (rw [hy242]; with_reducible exact H) | (have H2_ := (Option.bind_some _ _).symm.trans H; rw [hy242]; with_reducible exact H2_) | (have H2_ := (Option.bind_some _ _).symm.trans H; with_reducible exact H2_) | with_reducible exact H | (rw [hy242]; exact H) | exact H
                  have Ny242 := zA1.mk hy242
                  clear hy242
                  have c31b0 := eq_true (of_decide_eq_true (by first | (with_reducible assumption) | assumption) : 0 ≤ x11_4)
                  have c32b0 := eq_true (of_decide_eq_true (by first | (with_reducible assumption) | assumption) : x11_4 ≤ (x7_1.length : Int))
                  obtain ⟨y245, hy245⟩ : ∃ y_ : List (List Int), y_ = (x7_1.drop (x11_4 : Int).toNat) := ⟨_, rfl⟩
                  replace H : (if y242.length + y245.length < 5864062014805 then (zAa.l0 k4 l1 a2 (y242 ++ y245) (wrap64 (x8_1 + 1)) a0_0 l0_1) else (none)) = some r := by first | (rw [hy245]; with_reducible exact H) | (have H2_ := (Option.bind_some _ _).symm.trans H; rw [hy245]; with_reducible exact H2_) | (have H2_ := (Option.bind_some _ _).symm.trans H; with_reducible exact H2_) | with_reducible exact H | (rw [hy245]; exact H) | exact H
                  have Ny245 := zA1.mk hy245
                  clear hy245
                  by_cases c33 : y242.length + y245.length < 5864062014805
                  ·rw [if_pos c33] at H
                   have LMc33 := zA1.mk c33
                   clear c33
                   obtain ⟨y250, hy250⟩ : ∃ y_ : List (List Int), y_ = (y242 ++ y245) := ⟨_, rfl⟩
                   replace H : (zAa.l0 k4 l1 a2 y250 (wrap64 (x8_1 + 1)) a0_0 l0_1) = some r := by first | (rw [hy250]; with_reducible exact H) | (have H2_ := (Option.bind_some _ _).symm.trans H; rw [hy250]; with_reducible exact H2_) | (have H2_ := (Option.bind_some _ _).symm.trans H; with_reducible exact H2_) | with_reducible exact H | (rw [hy250]; exact H) | exact H
                   have Ny250 := zA1.mk hy250
                   clear hy250
                   have H' := zA1.mk H
                   clear H
                   obtain ⟨Ao34, co34, eo34⟩ := Kd.N_slice HO_7.out
                   subst eo34
                   have p229 : 0 ≤ (x11_4 : Int) := of_decide_eq_true (by first | (with_reducible assumption) | assumption)
                   have q229 : x11_4 < (x7_1.length : Int) := of_decide_eq_true (by first | (with_reducible assumption) | assumption)
                   obtain ⟨ad229, A229_0, c229_0, e229, hx229_0, hl229_0, hi229_0⟩ := at_L6 (Kd.zBo HO_7.out).2.2 x11_4 p229 q229
                   cases e229
                   obtain ⟨ce229, hce229, hMe229, hcc229⟩ := Kd.N_get HO_7.out [] x11_4 p229 (by first | exact q229 | exact of_decide_eq_true (by first | (with_reducible assumption) | assumption) | (have e_ := (Kd.zBo HO_7.out).1; omega))
                   obtain ⟨ua229_0, uc229_0, rfl, ul229_0, ge229_0⟩ := Kd.FK_slice_open hMe229
                   have hv229_0 := hcc229 0 _ rfl
                   rw [Nat.add_zero, show ((Kd.slice 3 (Kd.int .i64))).sz = 1 from rfl, Nat.mul_one] at hv229_0
                   replace hv229_0 := Option.some.inj (hv229_0.symm.trans hx229_0)
                   injection hv229_0 with hva_ hvn_ hvc_
                   rw [hva_] at ge229_0
                   rw [hvc_] at ul229_0
                   have HL229_0 := zA1.mk (show Kd.V (Kd.int .i64) 3 _ w.heap.size _ _ (rd_L6 x7_1 x11_4) from Kd.V_mk ul229_0 ge229_0)
                   clear hva_ hvn_ hvc_ ge229_0 ul229_0
                   clear hcc229 hce229
                   have HR229_0 := zA1.mk hi229_0
                   have HC229_0 := zA1.mk hl229_0
                   clear hi229_0 hl229_0
                   replace p229 := eq_true p229
                   replace q229 := eq_true q229
                   obtain ⟨Ao35, co35, eo35⟩ := Kd.zC5 HO_9.out
                   subst eo35
                   go_wp2_with (first | (go_at_call 71; (with_reducible refine (zBg.calls k4 _ _ (rd_L6 x7_1 x11_4) _ _ x9_2 false _ ?side1 ?side2 ?side3 ?side4 A23.out).mono ?_); (case side1 => repeat (first | exact (by repeat (first | (with_reducible exact HR229_0.out) | (with_reducible refine Kd.zAf ?_ _) | (with_reducible refine Kd.zAk ?_ _) | (with_reducible refine Kd.zAv ?_) | exact HR229_0.out)) | (with_reducible refine Kd.zAf ?_ _) | (with_reducible refine Kd.zAk ?_ _) | (with_reducible refine Kd.zAv ?_))); (case side2 => exact HC229_0.out); (case side3 => repeat (first | exact (Kd.zAw HO_9.out).2.2 | (with_reducible refine Kd.zAf ?_ _) | (with_reducible refine Kd.zAk ?_ _) | (with_reducible refine Kd.zAv ?_))); (case side4 => exact (Kd.zAw HO_9.out).2.1); rintro e w' ⟨rfl, ⟨nd, rfl⟩⟩) | ((with_reducible refine zBk (N := 62) rfl ?_); refine Kd.N_lit (Kd.slice 3 (Kd.int .i64)) _ 23 ?hg (N' := 62) ?hd (xs := ([] : List (List Int))) (inner := []) (ok := (fun k_ => (w.heap.size ≤ k_) ∧ some k_ ≠ (.slice (some ad229) x7_1.length co34 : Value).ownBlock ∧ some k_ ≠ (.slice Ao35 x9_2.length co35 : Value).ownBlock ∧ k_ ≠ gb223)) (okp := (fun k_ => (w.heap.size ≤ k_) ∧ some k_ ≠ (.slice (some ad229) x7_1.length co34 : Value).ownBlock ∧ some k_ ≠ (.slice Ao35 x9_2.length co35 : Value).ownBlock ∧ k_ ≠ gb223)) ?hr ?hp (fun _ hk => hk) ((show ∀ k_, wr.heap.size ≤ k_ → (fun k_ => (w.heap.size ≤ k_) ∧ some k_ ≠ (.slice (some ad229) x7_1.length co34 : Value).ownBlock ∧ some k_ ≠ (.slice Ao35 x9_2.length co35 : Value).ownBlock ∧ k_ ≠ gb223) k_ from fun k_ hk => ⟨(Nat.le_trans (zAb (by repeat (first | (with_reducible first | exact HB.out | apply zA2 | apply zA0 | apply zA3 | refine zA4 ?_ GE223.out) | exact HB.out))) hk), Kd.fresh' (Kd.N_lt (by (with_reducible repeat (first | apply Kd.zBm | apply Kd.zBl | apply Kd.zBv)); exact HO_7.out)) k_ hk, Kd.fresh' (Kd.R_lt (by (with_reducible repeat (first | apply Kd.zAi | apply Kd.zAh | apply Kd.zAp)); exact HO_9.out)) k_ hk, Kd.freshB (g := gb223) (o := .cells #[.int .i64 a0_0, .slice A0_1 l0_1.length c0_1] 28 (0, 0)) (by (with_reducible repeat (first | refine zA6 ?_ _ | refine zA8 ?_ | refine zA5 ?_ _)); exact BK223.out) k_ hk⟩) _ (Nat.le_refl _)) (Below.refl _ _) (Nat.le_refl _) (by simp) ?_; (case hd => rfl); (case hg => rfl); (case hr => first | (go_simp; done) | (go_simp; rfl)); (case hp => exact (Reps.none _ _)); intro v232 w36 ho37 hb hg_ hnew_; clear hg_ hnew_; (first | rw [← Ny231.out] at ho37 | (simp only [Int.reduceToNat] at ho37; rw [← Ny231.out] at ho37)); have n0_ := zA1.mk (Kd.N_elder' (by (with_reducible repeat (first | apply Kd.zBm | apply Kd.zBl | apply Kd.zBv)); exact HO_7.out) (Kd.N_base ho37) hb); have n1_ := zA1.mk (Kd.zBi (by (with_reducible repeat (first | apply Kd.zAi | apply Kd.zAh | apply Kd.zAp)); exact HO_9.out) hb); have n2_ := zA1.mk (Kd.V_elder' (by (with_reducible repeat (first | apply Kd.V_alloc | apply Kd.V_drewN | apply Kd.V_drew)); exact HL229_0.out) (Kd.N_base ho37) hb); have n3_ := zA1.mk (Kd.N_lower ho37 (zAb (by repeat (first | (with_reducible first | exact HB.out | apply zA2 | apply zA0 | apply zA3 | refine zA4 ?_ GE223.out) | exact HB.out)))); have n4_ := zA1.mk (zAt (g := gb223) (o := .cells #[.int .i64 a0_0, .slice A0_1 l0_1.length c0_1] 28 (0, 0)) (by (with_reducible repeat (first | refine zA6 ?_ _ | refine zA8 ?_ | refine zA5 ?_ _)); exact BK223.out) hb); have n5_ := zA1.mk (Kd.zB1 (by repeat (first | (with_reducible exact HR229_0.out) | (with_reducible refine Kd.zAf ?_ _) | (with_reducible refine Kd.zAk ?_ _) | (with_reducible refine Kd.zAv ?_) | exact HR229_0.out)) hb); have n6_ := zA1.mk (zAe (by repeat (first | (with_reducible first | exact HB.out | apply zA2 | apply zA0 | apply zA3 | refine zA4 ?_ GE223.out) | exact HB.out)) hb); clear HO_7; clear HO_9; clear HL229_0; clear BK223; clear HR229_0; clear HB; have HO_7 := n0_; have HO_9 := n1_; have HL229_0 := n2_; have HO233 := n3_; have BK223 := n4_; have HR229_0 := n5_; have HB := n6_; clear n0_ n1_ n2_ n3_ n4_ n5_ n6_; clear hb ho37; have q38 : (x11_4 : Int) ≤ ((x7_1.length : Int) : Int) := of_decide_eq_true (by first | (with_reducible assumption) | assumption); obtain ⟨i038, hi038, _, hsz38, _⟩ := info_parts info23; have hroom38 : x7_1.length ≤ co34 := (Kd.zBo HO_7.out).2.1; have hC38 : Kd.F (Kd.slice 3 (Kd.int .i64)) _ _ (some ad229) x7_1.length x7_1 := (Kd.V_at (base := w.heap.size) (Kd.N_V HO_7.out)).2.2; have hcut38 := cut_to (P := Tryd.prog) 45 23 .i64 Tryd.underlying45 hi038 (some ad229) x7_1.length co34 x11_4 (of_decide_eq_true (by first | (with_reducible assumption) | assumption)) q38 hroom38; have hr38 := Kd.F_take (m := (x11_4 : Int).toNat) hC38 (by omega); have hy38 : y234.length = (x11_4 : Int).toNat := (by rw [Ny234.out, List.length_take]; omega); rw [← Ny234.out] at hr38; rw [← hy38] at hcut38; have HO238 := zA1.mk (show Kd.V (Kd.slice 3 (Kd.int .i64)) 23 _ w.heap.size _ (.slice (some ad229) y234.length co34) y234 from Kd.V_mk (by omega) hr38); have HC238 := zA1.mk (show y234.length ≤ co34 from by omega); clear hr38 hC38 hroom38 hi038 hsz38; have KY38 := zA1.mk hy38; clear hy38; replace q38 := eq_true q38) | ((with_reducible refine zCg (b := .append) (xs := #[.tmp 62, .tmp 65]) rfl ?_); at_builtin; refine Kd.N_append_rows (Kd.slice 3 (Kd.int .i64)) (w0 := w) w.heap.size rfl (.tmp 62) (.tmp 65) 45 23 (.slice none 0 0) 24 rfl Tryd.underlying45 info23 rfl (by decide) (by omega) v232 y231 y234 _ _ _ (fun k_ => (w.heap.size ≤ k_) ∧ some k_ ≠ (.slice Ao35 x9_2.length co35 : Value).ownBlock ∧ k_ ≠ gb223) (fun k_ => ((fun k_ => (w.heap.size ≤ k_) ∧ some k_ ≠ (.slice Ao35 x9_2.length co35 : Value).ownBlock ∧ k_ ≠ gb223)) k_ ∧ some k_ ≠ (v232 : Value).ownBlock) rfl rfl ?aO ?aR (fun _ hk => hk) ?aF ?aB ?aS ?aL ?_; (case aR => exact (by skip; exact Kd.V_F (Kd.V_mono (ok' := (fun k_ => ((fun k_ => (w.heap.size ≤ k_) ∧ some k_ ≠ (.slice Ao35 x9_2.length co35 : Value).ownBlock ∧ k_ ≠ gb223)) k_ ∧ some k_ ≠ (v232 : Value).ownBlock)) (HO238.out) (fun k_ hk => ⟨⟨hk.1.1, ⟨hk.1.2.1, hk.1.2.2⟩⟩, hk.2⟩)))); (case aB => exact (by repeat (first | (with_reducible first | exact HB.out | apply zA2 | apply zA0 | apply zA3 | refine zA4 ?_ GE223.out) | exact HB.out))); (case aF => exact (fun k_ hk => ⟨(Nat.le_trans (zAb (by repeat (first | (with_reducible first | exact HB.out | apply zA2 | apply zA0 | apply zA3 | refine zA4 ?_ GE223.out) | exact HB.out))) hk), Kd.fresh' (Kd.R_lt (by (with_reducible repeat (first | apply Kd.zAi | apply Kd.zAh | apply Kd.zAp)); exact HO_9.out)) k_ hk, Kd.freshB (g := gb223) (o := .cells #[.int .i64 a0_0, .slice A0_1 l0_1.length c0_1] 28 (0, 0)) (by (with_reducible repeat (first | refine zA6 ?_ _ | refine zA8 ?_ | refine zA5 ?_ _)); exact BK223.out) k_ hk⟩)); (case aO => exact (by (with_reducible repeat (first | apply Kd.zBm | apply Kd.zBl | apply Kd.zBv)); exact Kd.N_mono HO233.out (fun _ hk => ⟨hk.1, ⟨hk.2.2.1, hk.2.2.2⟩⟩))); (case aS => exact (zAb (by repeat (first | (with_reducible first | exact HB.out | apply zA2 | apply zA0 | apply zA3 | refine zA4 ?_ GE223.out) | exact HB.out)))); (case aL => have := LMc29.out; omega); intro v240 w39 ho hb hg hat; rw [← Ny239.out] at ho; have n0_ := zA1.mk (Kd.N_afterv (ok := (fun k_ => (w.heap.size ≤ k_) ∧ some k_ ≠ (.slice Ao35 x9_2.length co35 : Value).ownBlock ∧ k_ ≠ gb223)) (by (with_reducible repeat (first | apply Kd.zBm | apply Kd.zBl | apply Kd.zBv)); exact HO_7.out) hg hat); have n1_ := zA1.mk (Kd.R_over' (by (with_reducible repeat (first | apply Kd.zAi | apply Kd.zAh | apply Kd.zAp)); exact HO_9.out) (Kd.N_typed (by (with_reducible repeat (first | apply Kd.zBm | apply Kd.zBl | apply Kd.zBv)); exact HO233.out)) (by decide) hg); have n2_ := zA1.mk (blk_grown (g := gb223) (o := .cells #[.int .i64 a0_0, .slice A0_1 l0_1.length c0_1] 28 (0, 0)) (by (with_reducible repeat (first | refine zA6 ?_ _ | refine zA8 ?_ | refine zA5 ?_ _)); exact BK223.out) hg (Kd.N_ne HO233.out BK223.out (by decide))); have n3_ := zA1.mk (Kd.V_afterv (ok := (fun k_ => (w.heap.size ≤ k_) ∧ some k_ ≠ (.slice (some ad229) x7_1.length co34 : Value).ownBlock ∧ some k_ ≠ (.slice Ao35 x9_2.length co35 : Value).ownBlock ∧ k_ ≠ gb223)) (by (with_reducible repeat (first | apply Kd.V_alloc | apply Kd.V_drewN | apply Kd.V_drew)); exact Kd.V_mono HL229_0.out (fun _ hk => ⟨⟨hk.1.1.1, ⟨hk.1.2, ⟨hk.1.1.2.1, hk.1.1.2.2⟩⟩⟩, hk.2⟩)) hg hat); have n4_ := zA1.mk (Kd.V_afterv (ok := (fun k_ => (w.heap.size ≤ k_) ∧ some k_ ≠ (.slice Ao35 x9_2.length co35 : Value).ownBlock ∧ k_ ≠ gb223)) (by (with_reducible repeat (first | apply Kd.V_alloc | apply Kd.V_drewN | apply Kd.V_drew)); exact HO238.out) hg hat); have n5_ := zA1.mk (hb); have n6_ := zA1.mk (ho); clear HO_7; clear HO_9; clear BK223; clear HL229_0; clear HO238; clear HB; clear HO233; have HO_7 := n0_; have HO_9 := n1_; have BK223 := n2_; have HL229_0 := n3_; have HO238 := n4_; have HB := n5_; have HO241 := n6_; clear n0_ n1_ n2_ n3_ n4_ n5_ n6_; clear ho hb hg hat) | ((with_reducible refine zCg (b := .append) (xs := #[.tmp 67, .tmp 69]) rfl ?_); at_builtin; refine Kd.N_append (Kd.slice 3 (Kd.int .i64)) (w0 := w) w.heap.size rfl (.tmp 67) (.tmp 69) 45 23 (.slice none 0 0) 24 rfl Tryd.underlying45 info23 rfl (by decide) (by omega) v240 y239 x9_2 [.slice Ao35 x9_2.length co35] (fun k_ => (w.heap.size ≤ k_) ∧ k_ ≠ gb223) (fun k_ => ((fun k_ => (w.heap.size ≤ k_) ∧ k_ ≠ gb223)) k_ ∧ some k_ ≠ (v240 : Value).ownBlock) rfl rfl ?aP (fun _ hk => hk) ?aF ?aO ?aB ?aS ?aL ?_; (case aP => exact (Kd.FK_slice_mk (Kd.zAw (Kd.zC3 (ok' := (fun k_ => ((fun k_ => (w.heap.size ≤ k_) ∧ k_ ≠ gb223)) k_ ∧ some k_ ≠ (v240 : Value).ownBlock)) (Kd.zCa (Kd.R_apart' (HO_9.out) (Kd.N_typed HO241.out) (by decide)) BK223.out (by decide)) (fun k_ hk => ⟨⟨hk.1.1, hk.2⟩, hk.1.2⟩))).2.1 (Kd.R_F (Kd.zC3 (ok' := (fun k_ => ((fun k_ => (w.heap.size ≤ k_) ∧ k_ ≠ gb223)) k_ ∧ some k_ ≠ (v240 : Value).ownBlock)) (Kd.zCa (Kd.R_apart' (HO_9.out) (Kd.N_typed HO241.out) (by decide)) BK223.out (by decide)) (fun k_ hk => ⟨⟨hk.1.1, hk.2⟩, hk.1.2⟩))))); (case aB => exact (by repeat (first | (with_reducible first | exact HB.out | apply zA2 | apply zA0 | apply zA3 | refine zA4 ?_ GE223.out) | exact HB.out))); (case aF => exact (fun k_ hk => ⟨(Nat.le_trans (zAb (by repeat (first | (with_reducible first | exact HB.out | apply zA2 | apply zA0 | apply zA3 | refine zA4 ?_ GE223.out) | exact HB.out))) hk), Kd.freshB (g := gb223) (o := .cells #[.int .i64 a0_0, .slice A0_1 l0_1.length c0_1] 28 (0, 0)) (by (with_reducible repeat (first | refine zA6 ?_ _ | refine zA8 ?_ | refine zA5 ?_ _)); exact BK223.out) k_ hk⟩)); (case aO => exact (by (with_reducible repeat (first | apply Kd.zBm | apply Kd.zBl | apply Kd.zBv)); exact Kd.N_mono HO241.out (fun _ hk => ⟨hk.1, hk.2.2⟩))); (case aS => exact (zAb (by repeat (first | (with_reducible first | exact HB.out | apply zA2 | apply zA0 | apply zA3 | refine zA4 ?_ GE223.out) | exact HB.out)))); (case aL => have := LMc30.out; omega); intro v243 w40 ho hb hg hat; rw [← Ny242.out] at ho; have n0_ := zA1.mk (Kd.N_afterv (ok := (fun k_ => (w.heap.size ≤ k_) ∧ some k_ ≠ (.slice Ao35 x9_2.length co35 : Value).ownBlock ∧ k_ ≠ gb223)) (by (with_reducible repeat (first | apply Kd.zBm | apply Kd.zBl | apply Kd.zBv)); exact HO_7.out) hg hat); have n1_ := zA1.mk (blk_grown (g := gb223) (o := .cells #[.int .i64 a0_0, .slice A0_1 l0_1.length c0_1] 28 (0, 0)) (by (with_reducible repeat (first | refine zA6 ?_ _ | refine zA8 ?_ | refine zA5 ?_ _)); exact BK223.out) hg (Kd.N_ne HO241.out BK223.out (by decide))); have n2_ := zA1.mk (Kd.V_afterv (ok := (fun k_ => (w.heap.size ≤ k_) ∧ some k_ ≠ (.slice (some ad229) x7_1.length co34 : Value).ownBlock ∧ some k_ ≠ (.slice Ao35 x9_2.length co35 : Value).ownBlock ∧ k_ ≠ gb223)) (by (with_reducible repeat (first | apply Kd.V_alloc | apply Kd.V_drewN | apply Kd.V_drew)); exact HL229_0.out) hg hat); have n3_ := zA1.mk (Kd.V_afterv (ok := (fun k_ => (w.heap.size ≤ k_) ∧ some k_ ≠ (.slice Ao35 x9_2.length co35 : Value).ownBlock ∧ k_ ≠ gb223)) (by (with_reducible repeat (first | apply Kd.V_alloc | apply Kd.V_drewN | apply Kd.V_drew)); exact HO238.out) hg hat); have n4_ := zA1.mk (hb); have n5_ := zA1.mk (ho); clear HO_7; clear BK223; clear HL229_0; clear HO238; clear HB; clear HO241; clear HO_9; have HO_7 := n0_; have BK223 := n1_; have HL229_0 := n2_; have HO238 := n3_; have HB := n4_; have HO244 := n5_; clear n0_ n1_ n2_ n3_ n4_ n5_; clear ho hb hg hat; have q41 : (x11_4 : Int) ≤ ((x7_1.length : Int) : Int) := of_decide_eq_true (by first | (with_reducible assumption) | assumption); obtain ⟨i041, hi041, _, hsz41, _⟩ := info_parts info23; have hroom41 : x7_1.length ≤ co34 := (Kd.zBo HO_7.out).2.1; have hC41 : Kd.F (Kd.slice 3 (Kd.int .i64)) _ _ (some ad229) x7_1.length x7_1 := (Kd.V_at (base := w.heap.size) (Kd.N_V HO_7.out)).2.2; have q041 : (0 : Int) ≤ (x11_4 : Int) := of_decide_eq_true (by first | (with_reducible assumption) | assumption); have hcut41 := cut_from (P := Tryd.prog) 45 23 .i64 Tryd.underlying45 hi041 1 hsz41 (some ad229) x7_1.length co34 x11_4 q041 q41; have hr41 := Kd.F_cut (m := (x11_4 : Int).toNat) (c := co34) hC41 (by omega) hroom41; obtain ⟨A41, hA41⟩ : ∃ A1, A1 = (if co34 = (x11_4 : Int).toNat then (some ad229) else ((some ad229) : Option Addr).map (·.add ((x11_4 : Int).toNat * 1))) := ⟨_, rfl⟩; obtain ⟨c41, hc41⟩ : ∃ c1, c1 = co34 - (x11_4 : Int).toNat := ⟨_, rfl⟩; have hy41 : y245.length = x7_1.length - (x11_4 : Int).toNat := (by rw [Ny245.out, List.length_drop] <;> omega); rw [show (x7_1).drop (x11_4 : Int).toNat = y245 from Ny245.out.symm] at hr41; replace hr41 : Kd.F (Kd.slice 3 (Kd.int .i64)) _ _ A41 y245.length y245 := (by rw [hA41]; exact hr41); rw [← hy41, ← hA41, ← hc41] at hcut41; have HO249 := zA1.mk (show Kd.V (Kd.slice 3 (Kd.int .i64)) 23 _ w.heap.size _ (.slice A41 y245.length c41) y245 from Kd.V_mk (by rw [hy41, hc41]; exact Nat.sub_le_sub_right hroom41 _) hr41); have HC249 := zA1.mk (show y245.length ≤ c41 from by rw [hy41, hc41]; exact Nat.sub_le_sub_right hroom41 _); clear hr41 hC41 hroom41 hi041 hsz41 hc41; have KY41 := zA1.mk hy41; have KA41 := zA1.mk hA41; clear hy41 hA41; replace q41 := eq_true q41) | ((with_reducible refine zCg (b := .append) (xs := #[.tmp 71, .tmp 74]) rfl ?_); at_builtin; refine Kd.N_append_rows (Kd.slice 3 (Kd.int .i64)) (w0 := w) w.heap.size rfl (.tmp 71) (.tmp 74) 45 23 (.slice none 0 0) 24 rfl Tryd.underlying45 info23 rfl (by decide) (by omega) v243 y242 y245 _ _ _ (fun k_ => (w.heap.size ≤ k_) ∧ k_ ≠ gb223) (fun k_ => ((fun k_ => (w.heap.size ≤ k_) ∧ k_ ≠ gb223)) k_ ∧ some k_ ≠ (v243 : Value).ownBlock) rfl rfl ?aO ?aR (fun _ hk => hk) ?aF ?aB ?aS ?aL ?_; (case aR => exact (by skip; exact Kd.V_F (Kd.V_mono (ok' := (fun k_ => ((fun k_ => (w.heap.size ≤ k_) ∧ k_ ≠ gb223)) k_ ∧ some k_ ≠ (v243 : Value).ownBlock)) (HO249.out) (fun k_ hk => ⟨⟨hk.1.1, hk.1.2.2⟩, hk.2⟩)))); (case aB => exact (by repeat (first | (with_reducible first | exact HB.out | apply zA2 | apply zA0 | apply zA3 | refine zA4 ?_ GE223.out) | exact HB.out))); (case aF => exact (fun k_ hk => ⟨(Nat.le_trans (zAb (by repeat (first | (with_reducible first | exact HB.out | apply zA2 | apply zA0 | apply zA3 | refine zA4 ?_ GE223.out) | exact HB.out))) hk), Kd.freshB (g := gb223) (o := .cells #[.int .i64 a0_0, .slice A0_1 l0_1.length c0_1] 28 (0, 0)) (by (with_reducible repeat (first | refine zA6 ?_ _ | refine zA8 ?_ | refine zA5 ?_ _)); exact BK223.out) k_ hk⟩)); (case aO => exact (by (with_reducible repeat (first | apply Kd.zBm | apply Kd.zBl | apply Kd.zBv)); exact HO244.out)); (case aS => exact (zAb (by repeat (first | (with_reducible first | exact HB.out | apply zA2 | apply zA0 | apply zA3 | refine zA4 ?_ GE223.out) | exact HB.out)))); (case aL => have := LMc33.out; omega); intro v251 w42 ho hb hg hat; rw [← Ny250.out] at ho; have n0_ := zA1.mk (Kd.N_afterv (ok := (fun k_ => (w.heap.size ≤ k_) ∧ k_ ≠ gb223)) (by (with_reducible repeat (first | apply Kd.zBm | apply Kd.zBl | apply Kd.zBv)); exact Kd.N_mono HO_7.out (fun _ hk => ⟨⟨hk.1.1, hk.1.2.2⟩, hk.2⟩)) hg hat); have n1_ := zA1.mk (blk_grown (g := gb223) (o := .cells #[.int .i64 a0_0, .slice A0_1 l0_1.length c0_1] 28 (0, 0)) (by (with_reducible repeat (first | refine zA6 ?_ _ | refine zA8 ?_ | refine zA5 ?_ _)); exact BK223.out) hg (Kd.N_ne HO244.out BK223.out (by decide))); have n2_ := zA1.mk (Kd.V_afterv (ok := (fun k_ => (w.heap.size ≤ k_) ∧ some k_ ≠ (.slice (some ad229) x7_1.length co34 : Value).ownBlock ∧ k_ ≠ gb223)) (by (with_reducible repeat (first | apply Kd.V_alloc | apply Kd.V_drewN | apply Kd.V_drew)); exact Kd.V_mono HL229_0.out (fun _ hk => ⟨⟨hk.1.1, ⟨hk.1.2.1, hk.1.2.2.2⟩⟩, hk.2⟩)) hg hat); have n3_ := zA1.mk (Kd.V_afterv (ok := (fun k_ => (w.heap.size ≤ k_) ∧ k_ ≠ gb223)) (by (with_reducible repeat (first | apply Kd.V_alloc | apply Kd.V_drewN | apply Kd.V_drew)); exact Kd.V_mono HO238.out (fun _ hk => ⟨⟨hk.1.1, hk.1.2.2⟩, hk.2⟩)) hg hat); have n4_ := zA1.mk (Kd.V_afterv (ok := (fun k_ => (w.heap.size ≤ k_) ∧ k_ ≠ gb223)) (by (with_reducible repeat (first | apply Kd.V_alloc | apply Kd.V_drewN | apply Kd.V_drew)); exact Kd.V_mono HO249.out (fun _ hk => ⟨⟨hk.1.1, hk.1.2.2⟩, hk.2⟩)) hg hat); have n5_ := zA1.mk (hb); have n6_ := zA1.mk (ho); clear HO_7; clear BK223; clear HL229_0; clear HO238; clear HO249; clear HB; clear HO244; have HO_7 := n0_; have BK223 := n1_; have HL229_0 := n2_; have HO238 := n3_; have HO249 := n4_; have HB := n5_; have HO252 := n6_; clear n0_ n1_ n2_ n3_ n4_ n5_ n6_; clear ho hb hg hat))
                   go_roundg k4
                   case measure => have := HK1.out; have := HK2.out; have := HJ12.out; have := HK4.out; omega
                   case rel => exact ⟨(y250), (wrap64 (x8_1 + 1)), (by first | rfl | (simp; done) | (simp [*]; done)), H', ⟨by have := HK1.out; have := HK2.out; have := HJ12.out; have := HK4.out; omega⟩, ⟨by (with_reducible repeat (first | apply Kd.zBm | apply Kd.zBl | apply Kd.zBv)); exact HO252.out⟩, ⟨by (with_reducible repeat (first | refine zA6 ?_ _ | refine zA8 ?_ | refine zA5 ?_ _)); exact BK223.out⟩, ⟨by repeat (first | (with_reducible first | exact HB.out | apply zA2 | apply zA0 | apply zA3 | refine zA4 ?_ GE223.out) | exact HB.out)⟩⟩
                  ·rw [if_neg c33] at H
                   exact absurd H (by simp)
                 ·rw [if_neg c30] at H
                  exact absurd H (by simp)
                ·rw [if_neg c29] at H
                 exact absurd H (by simp)
               ·rw [if_neg c28] at H
                exact absurd H (by simp)
             ·rw [if_neg c22] at H
              exact absurd H (by simp)
            ·rw [if_neg c21] at H
             have c21b0 : decide (x11_4 < (x7_1.length : Int)) = false := decide_eq_false c21
             clear c21
             obtain ⟨y253, hy253⟩ : ∃ y_ : List (List Int), y_ = (([] : List (List Int))) := ⟨_, rfl⟩
             replace H : (if 0 ≤ x11_4 then (if x11_4 ≤ (x7_1.length : Int) then ((some (x7_1.take (x11_4 : Int).toNat : List (List Int))).bind fun y256 => (if y253.length + y256.length < 5864062014805 then ((some (y253 ++ y256 : List (List Int))).bind fun y261 => (if y261.length < 5864062014805 then ((some (y261 ++ [x9_2] : List (List Int))).bind fun y264 => ((some (x7_1.drop (x11_4 : Int).toNat : List (List Int))).bind fun y267 => (if y264.length + y267.length < 5864062014805 then (zAa.l0 k4 l1 a2 (y264 ++ y267) (wrap64 (x8_1 + 1)) a0_0 l0_1) else (none)))) else (none))) else (none))) else (none)) else (none)) = some r := by first | (rw [hy253]; with_reducible exact H) | (have H2_ := (Option.bind_some _ _).symm.trans H; rw [hy253]; with_reducible exact H2_) | (have H2_ := (Option.bind_some _ _).symm.trans H; with_reducible exact H2_) | with_reducible exact H | (rw [hy253]; exact H) | exact H
             have Ny253 := zA1.mk hy253
             clear hy253
             by_cases c43 : 0 ≤ x11_4
             ·rw [if_pos c43] at H
              have c43b0 := eq_true c43
              have c43b1 : decide (0 ≤ x11_4) = true := decide_eq_true c43
              clear c43
              by_cases c44 : x11_4 ≤ (x7_1.length : Int)
              ·rw [if_pos c44] at H
               have c44b0 := eq_true c44
               have c44b1 : decide (x11_4 ≤ (x7_1.length : Int)) = true := decide_eq_true c44
               clear c44
               obtain ⟨y256, hy256⟩ : ∃ y_ : List (List Int), y_ = (x7_1.take (x11_4 : Int).toNat) := ⟨_, rfl⟩
               replace H : (if y253.length + y256.length < 5864062014805 then ((some (y253 ++ y256 : List (List Int))).bind fun y261 => (if y261.length < 5864062014805 then ((some (y261 ++ [x9_2] : List (List Int))).bind fun y264 => ((some (x7_1.drop (x11_4 : Int).toNat : List (List Int))).bind fun y267 => (if y264.length + y267.length < 5864062014805 then (zAa.l0 k4 l1 a2 (y264 ++ y267) (wrap64 (x8_1 + 1)) a0_0 l0_1) else (none)))) else (none))) else (none)) = some r := by first | (rw [hy256]; with_reducible exact H) | (have H2_ := (Option.bind_some _ _).symm.trans H; rw [hy256]; with_reducible exact H2_) | (have H2_ := (Option.bind_some _ _).symm.trans H; with_reducible exact H2_) | with_reducible exact H | (rw [hy256]; exact H) | exact H
               have Ny256 := zA1.mk hy256
               clear hy256
               by_cases c45 : y253.length + y256.length < 5864062014805
               ·rw [if_pos c45] at H
                have LMc45 := zA1.mk c45
                clear c45
                obtain ⟨y261, hy261⟩ : ∃ y_ : List (List Int), y_ = (y253 ++ y256) := ⟨_, rfl⟩
                replace H : (if y261.length < 5864062014805 then ((some (y261 ++ [x9_2] : List (List Int))).bind fun y264 => ((some (x7_1.drop (x11_4 : Int).toNat : List (List Int))).bind fun y267 => (if y264.length + y267.length < 5864062014805 then (zAa.l0 k4 l1 a2 (y264 ++ y267) (wrap64 (x8_1 + 1)) a0_0 l0_1) else (none)))) else (none)) = some r := by first | (rw [hy261]; with_reducible exact H) | (have H2_ := (Option.bind_some _ _).symm.trans H; rw [hy261]; with_reducible exact H2_) | (have H2_ := (Option.bind_some _ _).symm.trans H; with_reducible exact H2_) | with_reducible exact H | (rw [hy261]; exact H) | exact H
                have Ny261 := zA1.mk hy261
                clear hy261
                by_cases c46 : y261.length < 5864062014805
                ·rw [if_pos c46] at H
                 have LMc46 := zA1.mk c46
                 clear c46
                 obtain ⟨y264, hy264⟩ : ∃ y_ : List (List Int), y_ = (y261 ++ [x9_2]) := ⟨_, rfl⟩
                 replace H : ((some (x7_1.drop (x11_4 : Int).toNat : List (List Int))).bind fun y267 => (if y264.length + y267.length < 5864062014805 then (zAa.l0 k4 l1 a2 (y264 ++ y267) (wrap64 (x8_1 + 1)) a0_0 l0_1) else (none))) = some r := by first | (rw [hy264]; with_reducible exact H) | (have H2_ := (Option.bind_some _ _).symm.trans H; rw [hy264]; with_reducible exact H2_) | (have H2_ := (Option.bind_some _ _).symm.trans H; with_reducible exact H2_) | with_reducible exact H | (rw [hy264]; exact H) | exact H
                 have Ny264 := zA1.mk hy264
                 clear hy264
                 have c47b0 := eq_true (of_decide_eq_true (by first | (with_reducible assumption) | assumption) : 0 ≤ x11_4)
                 have c48b0 := eq_true (of_decide_eq_true (by first | (with_reducible assumption) | assumption) : x11_4 ≤ (x7_1.length : Int))
                 obtain ⟨y267, hy267⟩ : ∃ y_ : List (List Int), y_ = (x7_1.drop (x11_4 : Int).toNat) := ⟨_, rfl⟩
                 replace H : (if y264.length + y267.length < 5864062014805 then (zAa.l0 k4 l1 a2 (y264 ++ y267) (wrap64 (x8_1 + 1)) a0_0 l0_1) else (none)) = some r := by first | (rw [hy267]; with_reducible exact H) | (have H2_ := (Option.bind_some _ _).symm.trans H; rw [hy267]; with_reducible exact H2_) | (have H2_ := (Option.bind_some _ _).symm.trans H; with_reducible exact H2_) | with_reducible exact H | (rw [hy267]; exact H) | exact H
                 have Ny267 := zA1.mk hy267
                 clear hy267
                 by_cases c49 : y264.length + y267.length < 5864062014805
                 ·rw [if_pos c49] at H
                  have LMc49 := zA1.mk c49
                  clear c49
                  obtain ⟨y272, hy272⟩ : ∃ y_ : List (List Int), y_ = (y264 ++ y267) := ⟨_, rfl⟩
                  replace H : (zAa.l0 k4 l1 a2 y272 (wrap64 (x8_1 + 1)) a0_0 l0_1) = some r := by first | (rw [hy272]; with_reducible exact H) | (have H2_ := (Option.bind_some _ _).symm.trans H; rw [hy272]; with_reducible exact H2_) | (have H2_ := (Option.bind_some _ _).symm.trans H; with_reducible exact H2_) | with_reducible exact H | (rw [hy272]; exact H) | exact H
                  have Ny272 := zA1.mk hy272
                  clear hy272
                  have H' := zA1.mk H
                  clear H
                  obtain ⟨Ao50, co50, eo50⟩ := Kd.N_slice HO_7.out
                  subst eo50
                  go_wp2_with (first | ((with_reducible refine zBk (N := 62) rfl ?_); refine Kd.N_lit (Kd.slice 3 (Kd.int .i64)) _ 23 ?hg (N' := 62) ?hd (xs := ([] : List (List Int))) (inner := []) (ok := (fun k_ => (w.heap.size ≤ k_) ∧ some k_ ≠ (.slice Ao50 x7_1.length co50 : Value).ownBlock ∧ some k_ ≠ (u9 : Value).ownBlock ∧ k_ ≠ gb223)) (okp := (fun k_ => (w.heap.size ≤ k_) ∧ some k_ ≠ (.slice Ao50 x7_1.length co50 : Value).ownBlock ∧ some k_ ≠ (u9 : Value).ownBlock ∧ k_ ≠ gb223)) ?hr ?hp (fun _ hk => hk) ((show ∀ k_, wr.heap.size ≤ k_ → (fun k_ => (w.heap.size ≤ k_) ∧ some k_ ≠ (.slice Ao50 x7_1.length co50 : Value).ownBlock ∧ some k_ ≠ (u9 : Value).ownBlock ∧ k_ ≠ gb223) k_ from fun k_ hk => ⟨(Nat.le_trans (zAb (by repeat (first | (with_reducible first | exact HB.out | apply zA2 | apply zA0 | apply zA3 | refine zA4 ?_ GE223.out) | exact HB.out))) hk), Kd.fresh' (Kd.N_lt (by (with_reducible repeat (first | apply Kd.zBm | apply Kd.zBl | apply Kd.zBv)); exact HO_7.out)) k_ hk, Kd.fresh' (Kd.R_lt (by (with_reducible repeat (first | apply Kd.zAi | apply Kd.zAh | apply Kd.zAp)); exact HO_9.out)) k_ hk, Kd.freshB (g := gb223) (o := .cells #[.int .i64 a0_0, .slice A0_1 l0_1.length c0_1] 28 (0, 0)) (by (with_reducible repeat (first | refine zA6 ?_ _ | refine zA8 ?_ | refine zA5 ?_ _)); exact BK223.out) k_ hk⟩) _ (Nat.le_refl _)) (Below.refl _ _) (Nat.le_refl _) (by simp) ?_; (case hd => rfl); (case hg => rfl); (case hr => first | (go_simp; done) | (go_simp; rfl)); (case hp => exact (Reps.none _ _)); intro v254 w51 ho52 hb hg_ hnew_; clear hg_ hnew_; (first | rw [← Ny253.out] at ho52 | (simp only [Int.reduceToNat] at ho52; rw [← Ny253.out] at ho52)); have n0_ := zA1.mk (Kd.N_elder' (by (with_reducible repeat (first | apply Kd.zBm | apply Kd.zBl | apply Kd.zBv)); exact HO_7.out) (Kd.N_base ho52) hb); have n1_ := zA1.mk (Kd.zBi (by (with_reducible repeat (first | apply Kd.zAi | apply Kd.zAh | apply Kd.zAp)); exact HO_9.out) hb); have n2_ := zA1.mk (Kd.N_lower ho52 (zAb (by repeat (first | (with_reducible first | exact HB.out | apply zA2 | apply zA0 | apply zA3 | refine zA4 ?_ GE223.out) | exact HB.out)))); have n3_ := zA1.mk (zAt (g := gb223) (o := .cells #[.int .i64 a0_0, .slice A0_1 l0_1.length c0_1] 28 (0, 0)) (by (with_reducible repeat (first | refine zA6 ?_ _ | refine zA8 ?_ | refine zA5 ?_ _)); exact BK223.out) hb); have n4_ := zA1.mk (zAe (by repeat (first | (with_reducible first | exact HB.out | apply zA2 | apply zA0 | apply zA3 | refine zA4 ?_ GE223.out) | exact HB.out)) hb); clear HO_7; clear HO_9; clear BK223; clear HB; have HO_7 := n0_; have HO_9 := n1_; have HO255 := n2_; have BK223 := n3_; have HB := n4_; clear n0_ n1_ n2_ n3_ n4_; clear hb ho52; have q53 : (x11_4 : Int) ≤ ((x7_1.length : Int) : Int) := of_decide_eq_true (by first | (with_reducible assumption) | assumption); obtain ⟨i053, hi053, _, hsz53, _⟩ := info_parts info23; have hroom53 : x7_1.length ≤ co50 := (Kd.zBo HO_7.out).2.1; have hC53 : Kd.F (Kd.slice 3 (Kd.int .i64)) _ _ Ao50 x7_1.length x7_1 := (Kd.V_at (base := w.heap.size) (Kd.N_V HO_7.out)).2.2; have hcut53 := cut_to (P := Tryd.prog) 45 23 .i64 Tryd.underlying45 hi053 Ao50 x7_1.length co50 x11_4 (of_decide_eq_true (by first | (with_reducible assumption) | assumption)) q53 hroom53; have hr53 := Kd.F_take (m := (x11_4 : Int).toNat) hC53 (by omega); have hy53 : y256.length = (x11_4 : Int).toNat := (by rw [Ny256.out, List.length_take]; omega); rw [← Ny256.out] at hr53; rw [← hy53] at hcut53; have HO260 := zA1.mk (show Kd.V (Kd.slice 3 (Kd.int .i64)) 23 _ w.heap.size _ (.slice Ao50 y256.length co50) y256 from Kd.V_mk (by omega) hr53); have HC260 := zA1.mk (show y256.length ≤ co50 from by omega); clear hr53 hC53 hroom53 hi053 hsz53; have KY53 := zA1.mk hy53; clear hy53; replace q53 := eq_true q53) | ((with_reducible refine zCg (b := .append) (xs := #[.tmp 62, .tmp 65]) rfl ?_); at_builtin; refine Kd.N_append_rows (Kd.slice 3 (Kd.int .i64)) (w0 := w) w.heap.size rfl (.tmp 62) (.tmp 65) 45 23 (.slice none 0 0) 24 rfl Tryd.underlying45 info23 rfl (by decide) (by omega) v254 y253 y256 _ _ _ (fun k_ => (w.heap.size ≤ k_) ∧ some k_ ≠ (u9 : Value).ownBlock ∧ k_ ≠ gb223) (fun k_ => ((fun k_ => (w.heap.size ≤ k_) ∧ some k_ ≠ (u9 : Value).ownBlock ∧ k_ ≠ gb223)) k_ ∧ some k_ ≠ (v254 : Value).ownBlock) rfl rfl ?aO ?aR (fun _ hk => hk) ?aF ?aB ?aS ?aL ?_; (case aR => exact (by skip; exact Kd.V_F (Kd.V_mono (ok' := (fun k_ => ((fun k_ => (w.heap.size ≤ k_) ∧ some k_ ≠ (u9 : Value).ownBlock ∧ k_ ≠ gb223)) k_ ∧ some k_ ≠ (v254 : Value).ownBlock)) (HO260.out) (fun k_ hk => ⟨⟨hk.1.1, ⟨hk.1.2.1, hk.1.2.2⟩⟩, hk.2⟩)))); (case aB => exact (by repeat (first | (with_reducible first | exact HB.out | apply zA2 | apply zA0 | apply zA3 | refine zA4 ?_ GE223.out) | exact HB.out))); (case aF => exact (fun k_ hk => ⟨(Nat.le_trans (zAb (by repeat (first | (with_reducible first | exact HB.out | apply zA2 | apply zA0 | apply zA3 | refine zA4 ?_ GE223.out) | exact HB.out))) hk), Kd.fresh' (Kd.R_lt (by (with_reducible repeat (first | apply Kd.zAi | apply Kd.zAh | apply Kd.zAp)); exact HO_9.out)) k_ hk, Kd.freshB (g := gb223) (o := .cells #[.int .i64 a0_0, .slice A0_1 l0_1.length c0_1] 28 (0, 0)) (by (with_reducible repeat (first | refine zA6 ?_ _ | refine zA8 ?_ | refine zA5 ?_ _)); exact BK223.out) k_ hk⟩)); (case aO => exact (by (with_reducible repeat (first | apply Kd.zBm | apply Kd.zBl | apply Kd.zBv)); exact Kd.N_mono HO255.out (fun _ hk => ⟨hk.1, ⟨hk.2.2.1, hk.2.2.2⟩⟩))); (case aS => exact (zAb (by repeat (first | (with_reducible first | exact HB.out | apply zA2 | apply zA0 | apply zA3 | refine zA4 ?_ GE223.out) | exact HB.out)))); (case aL => have := LMc45.out; omega); intro v262 w54 ho hb hg hat; rw [← Ny261.out] at ho; have n0_ := zA1.mk (Kd.N_afterv (ok := (fun k_ => (w.heap.size ≤ k_) ∧ some k_ ≠ (u9 : Value).ownBlock ∧ k_ ≠ gb223)) (by (with_reducible repeat (first | apply Kd.zBm | apply Kd.zBl | apply Kd.zBv)); exact HO_7.out) hg hat); have n1_ := zA1.mk (Kd.R_over' (by (with_reducible repeat (first | apply Kd.zAi | apply Kd.zAh | apply Kd.zAp)); exact HO_9.out) (Kd.N_typed (by (with_reducible repeat (first | apply Kd.zBm | apply Kd.zBl | apply Kd.zBv)); exact HO255.out)) (by decide) hg); have n2_ := zA1.mk (blk_grown (g := gb223) (o := .cells #[.int .i64 a0_0, .slice A0_1 l0_1.length c0_1] 28 (0, 0)) (by (with_reducible repeat (first | refine zA6 ?_ _ | refine zA8 ?_ | refine zA5 ?_ _)); exact BK223.out) hg (Kd.N_ne HO255.out BK223.out (by decide))); have n3_ := zA1.mk (Kd.V_afterv (ok := (fun k_ => (w.heap.size ≤ k_) ∧ some k_ ≠ (u9 : Value).ownBlock ∧ k_ ≠ gb223)) (by (with_reducible repeat (first | apply Kd.V_alloc | apply Kd.V_drewN | apply Kd.V_drew)); exact HO260.out) hg hat); have n4_ := zA1.mk (hb); have n5_ := zA1.mk (ho); clear HO_7; clear HO_9; clear BK223; clear HO260; clear HB; clear HO255; have HO_7 := n0_; have HO_9 := n1_; have BK223 := n2_; have HO260 := n3_; have HB := n4_; have HO263 := n5_; clear n0_ n1_ n2_ n3_ n4_ n5_; clear ho hb hg hat; obtain ⟨Ao56, co56, eo56⟩ := Kd.zC5 HO_9.out; subst eo56) | ((with_reducible refine zCg (b := .append) (xs := #[.tmp 67, .tmp 69]) rfl ?_); at_builtin; refine Kd.N_append (Kd.slice 3 (Kd.int .i64)) (w0 := w) w.heap.size rfl (.tmp 67) (.tmp 69) 45 23 (.slice none 0 0) 24 rfl Tryd.underlying45 info23 rfl (by decide) (by omega) v262 y261 x9_2 [.slice Ao56 x9_2.length co56] (fun k_ => (w.heap.size ≤ k_) ∧ k_ ≠ gb223) (fun k_ => ((fun k_ => (w.heap.size ≤ k_) ∧ k_ ≠ gb223)) k_ ∧ some k_ ≠ (v262 : Value).ownBlock) rfl rfl ?aP (fun _ hk => hk) ?aF ?aO ?aB ?aS ?aL ?_; (case aP => exact (Kd.FK_slice_mk (Kd.zAw (Kd.zC3 (ok' := (fun k_ => ((fun k_ => (w.heap.size ≤ k_) ∧ k_ ≠ gb223)) k_ ∧ some k_ ≠ (v262 : Value).ownBlock)) (Kd.zCa (Kd.R_apart' (HO_9.out) (Kd.N_typed HO263.out) (by decide)) BK223.out (by decide)) (fun k_ hk => ⟨⟨hk.1.1, hk.2⟩, hk.1.2⟩))).2.1 (Kd.R_F (Kd.zC3 (ok' := (fun k_ => ((fun k_ => (w.heap.size ≤ k_) ∧ k_ ≠ gb223)) k_ ∧ some k_ ≠ (v262 : Value).ownBlock)) (Kd.zCa (Kd.R_apart' (HO_9.out) (Kd.N_typed HO263.out) (by decide)) BK223.out (by decide)) (fun k_ hk => ⟨⟨hk.1.1, hk.2⟩, hk.1.2⟩))))); (case aB => exact (by repeat (first | (with_reducible first | exact HB.out | apply zA2 | apply zA0 | apply zA3 | refine zA4 ?_ GE223.out) | exact HB.out))); (case aF => exact (fun k_ hk => ⟨(Nat.le_trans (zAb (by repeat (first | (with_reducible first | exact HB.out | apply zA2 | apply zA0 | apply zA3 | refine zA4 ?_ GE223.out) | exact HB.out))) hk), Kd.freshB (g := gb223) (o := .cells #[.int .i64 a0_0, .slice A0_1 l0_1.length c0_1] 28 (0, 0)) (by (with_reducible repeat (first | refine zA6 ?_ _ | refine zA8 ?_ | refine zA5 ?_ _)); exact BK223.out) k_ hk⟩)); (case aO => exact (by (with_reducible repeat (first | apply Kd.zBm | apply Kd.zBl | apply Kd.zBv)); exact Kd.N_mono HO263.out (fun _ hk => ⟨hk.1, hk.2.2⟩))); (case aS => exact (zAb (by repeat (first | (with_reducible first | exact HB.out | apply zA2 | apply zA0 | apply zA3 | refine zA4 ?_ GE223.out) | exact HB.out)))); (case aL => have := LMc46.out; omega); intro v265 w55 ho hb hg hat; rw [← Ny264.out] at ho; have n0_ := zA1.mk (Kd.N_afterv (ok := (fun k_ => (w.heap.size ≤ k_) ∧ some k_ ≠ (.slice Ao56 x9_2.length co56 : Value).ownBlock ∧ k_ ≠ gb223)) (by (with_reducible repeat (first | apply Kd.zBm | apply Kd.zBl | apply Kd.zBv)); exact HO_7.out) hg hat); have n1_ := zA1.mk (blk_grown (g := gb223) (o := .cells #[.int .i64 a0_0, .slice A0_1 l0_1.length c0_1] 28 (0, 0)) (by (with_reducible repeat (first | refine zA6 ?_ _ | refine zA8 ?_ | refine zA5 ?_ _)); exact BK223.out) hg (Kd.N_ne HO263.out BK223.out (by decide))); have n2_ := zA1.mk (Kd.V_afterv (ok := (fun k_ => (w.heap.size ≤ k_) ∧ some k_ ≠ (.slice Ao56 x9_2.length co56 : Value).ownBlock ∧ k_ ≠ gb223)) (by (with_reducible repeat (first | apply Kd.V_alloc | apply Kd.V_drewN | apply Kd.V_drew)); exact HO260.out) hg hat); have n3_ := zA1.mk (hb); have n4_ := zA1.mk (ho); clear HO_7; clear BK223; clear HO260; clear HB; clear HO263; clear HO_9; have HO_7 := n0_; have BK223 := n1_; have HO260 := n2_; have HB := n3_; have HO266 := n4_; clear n0_ n1_ n2_ n3_ n4_; clear ho hb hg hat; have q57 : (x11_4 : Int) ≤ ((x7_1.length : Int) : Int) := of_decide_eq_true (by first | (with_reducible assumption) | assumption); obtain ⟨i057, hi057, _, hsz57, _⟩ := info_parts info23; have hroom57 : x7_1.length ≤ co50 := (Kd.zBo HO_7.out).2.1; have hC57 : Kd.F (Kd.slice 3 (Kd.int .i64)) _ _ Ao50 x7_1.length x7_1 := (Kd.V_at (base := w.heap.size) (Kd.N_V HO_7.out)).2.2; have q057 : (0 : Int) ≤ (x11_4 : Int) := of_decide_eq_true (by first | (with_reducible assumption) | assumption); have hcut57 := cut_from (P := Tryd.prog) 45 23 .i64 Tryd.underlying45 hi057 1 hsz57 Ao50 x7_1.length co50 x11_4 q057 q57; have hr57 := Kd.F_cut (m := (x11_4 : Int).toNat) (c := co50) hC57 (by omega) hroom57; obtain ⟨A57, hA57⟩ : ∃ A1, A1 = (if co50 = (x11_4 : Int).toNat then Ao50 else (Ao50 : Option Addr).map (·.add ((x11_4 : Int).toNat * 1))) := ⟨_, rfl⟩; obtain ⟨c57, hc57⟩ : ∃ c1, c1 = co50 - (x11_4 : Int).toNat := ⟨_, rfl⟩; have hy57 : y267.length = x7_1.length - (x11_4 : Int).toNat := (by rw [Ny267.out, List.length_drop] <;> omega); rw [show (x7_1).drop (x11_4 : Int).toNat = y267 from Ny267.out.symm] at hr57; replace hr57 : Kd.F (Kd.slice 3 (Kd.int .i64)) _ _ A57 y267.length y267 := (by rw [hA57]; exact hr57); rw [← hy57, ← hA57, ← hc57] at hcut57; have HO271 := zA1.mk (show Kd.V (Kd.slice 3 (Kd.int .i64)) 23 _ w.heap.size _ (.slice A57 y267.length c57) y267 from Kd.V_mk (by rw [hy57, hc57]; exact Nat.sub_le_sub_right hroom57 _) hr57); have HC271 := zA1.mk (show y267.length ≤ c57 from by rw [hy57, hc57]; exact Nat.sub_le_sub_right hroom57 _); clear hr57 hC57 hroom57 hi057 hsz57 hc57; have KY57 := zA1.mk hy57; have KA57 := zA1.mk hA57; clear hy57 hA57; replace q57 := eq_true q57) | ((with_reducible refine zCg (b := .append) (xs := #[.tmp 71, .tmp 74]) rfl ?_); at_builtin; refine Kd.N_append_rows (Kd.slice 3 (Kd.int .i64)) (w0 := w) w.heap.size rfl (.tmp 71) (.tmp 74) 45 23 (.slice none 0 0) 24 rfl Tryd.underlying45 info23 rfl (by decide) (by omega) v265 y264 y267 _ _ _ (fun k_ => (w.heap.size ≤ k_) ∧ k_ ≠ gb223) (fun k_ => ((fun k_ => (w.heap.size ≤ k_) ∧ k_ ≠ gb223)) k_ ∧ some k_ ≠ (v265 : Value).ownBlock) rfl rfl ?aO ?aR (fun _ hk => hk) ?aF ?aB ?aS ?aL ?_; (case aR => exact (by skip; exact Kd.V_F (Kd.V_mono (ok' := (fun k_ => ((fun k_ => (w.heap.size ≤ k_) ∧ k_ ≠ gb223)) k_ ∧ some k_ ≠ (v265 : Value).ownBlock)) (HO271.out) (fun k_ hk => ⟨⟨hk.1.1, hk.1.2.2⟩, hk.2⟩)))); (case aB => exact (by repeat (first | (with_reducible first | exact HB.out | apply zA2 | apply zA0 | apply zA3 | refine zA4 ?_ GE223.out) | exact HB.out))); (case aF => exact (fun k_ hk => ⟨(Nat.le_trans (zAb (by repeat (first | (with_reducible first | exact HB.out | apply zA2 | apply zA0 | apply zA3 | refine zA4 ?_ GE223.out) | exact HB.out))) hk), Kd.freshB (g := gb223) (o := .cells #[.int .i64 a0_0, .slice A0_1 l0_1.length c0_1] 28 (0, 0)) (by (with_reducible repeat (first | refine zA6 ?_ _ | refine zA8 ?_ | refine zA5 ?_ _)); exact BK223.out) k_ hk⟩)); (case aO => exact (by (with_reducible repeat (first | apply Kd.zBm | apply Kd.zBl | apply Kd.zBv)); exact HO266.out)); (case aS => exact (zAb (by repeat (first | (with_reducible first | exact HB.out | apply zA2 | apply zA0 | apply zA3 | refine zA4 ?_ GE223.out) | exact HB.out)))); (case aL => have := LMc49.out; omega); intro v273 w58 ho hb hg hat; rw [← Ny272.out] at ho; have n0_ := zA1.mk (Kd.N_afterv (ok := (fun k_ => (w.heap.size ≤ k_) ∧ k_ ≠ gb223)) (by (with_reducible repeat (first | apply Kd.zBm | apply Kd.zBl | apply Kd.zBv)); exact Kd.N_mono HO_7.out (fun _ hk => ⟨⟨hk.1.1, hk.1.2.2⟩, hk.2⟩)) hg hat); have n1_ := zA1.mk (blk_grown (g := gb223) (o := .cells #[.int .i64 a0_0, .slice A0_1 l0_1.length c0_1] 28 (0, 0)) (by (with_reducible repeat (first | refine zA6 ?_ _ | refine zA8 ?_ | refine zA5 ?_ _)); exact BK223.out) hg (Kd.N_ne HO266.out BK223.out (by decide))); have n2_ := zA1.mk (Kd.V_afterv (ok := (fun k_ => (w.heap.size ≤ k_) ∧ k_ ≠ gb223)) (by (with_reducible repeat (first | apply Kd.V_alloc | apply Kd.V_drewN | apply Kd.V_drew)); exact Kd.V_mono HO260.out (fun _ hk => ⟨⟨hk.1.1, hk.1.2.2⟩, hk.2⟩)) hg hat); have n3_ := zA1.mk (Kd.V_afterv (ok := (fun k_ => (w.heap.size ≤ k_) ∧ k_ ≠ gb223)) (by (with_reducible repeat (first | apply Kd.V_alloc | apply Kd.V_drewN | apply Kd.V_drew)); exact Kd.V_mono HO271.out (fun _ hk => ⟨⟨hk.1.1, hk.1.2.2⟩, hk.2⟩)) hg hat); have n4_ := zA1.mk (hb); have n5_ := zA1.mk (ho); clear HO_7; clear BK223; clear HO260; clear HO271; clear HB; clear HO266; have HO_7 := n0_; have BK223 := n1_; have HO260 := n2_; have HO271 := n3_; have HB := n4_; have HO274 := n5_; clear n0_ n1_ n2_ n3_ n4_ n5_; clear ho hb hg hat))
                  go_roundg k4
                  case measure => have := HK1.out; have := HK2.out; have := HJ12.out; have := HK4.out; omega
                  case rel => exact ⟨(y272), (wrap64 (x8_1 + 1)), (by first | rfl | (simp; done) | (simp [*]; done)), H', ⟨by have := HK1.out; have := HK2.out; have := HJ12.out; have := HK4.out; omega⟩, ⟨by (with_reducible repeat (first | apply Kd.zBm | apply Kd.zBl | apply Kd.zBv)); exact HO274.out⟩, ⟨by (with_reducible repeat (first | refine zA6 ?_ _ | refine zA8 ?_ | refine zA5 ?_ _)); exact BK223.out⟩, ⟨by repeat (first | (with_reducible first | exact HB.out | apply zA2 | apply zA0 | apply zA3 | refine zA4 ?_ GE223.out) | exact HB.out)⟩⟩
                 ·rw [if_neg c49] at H
                  exact absurd H (by simp)
                ·rw [if_neg c46] at H
                 exact absurd H (by simp)
               ·rw [if_neg c45] at H
                exact absurd H (by simp)
              ·rw [if_neg c44] at H
               exact absurd H (by simp)
             ·rw [if_neg c43] at H
              exact absurd H (by simp)
   ·rw [if_neg c6] at H
    have c6b0 : decide (x8_1 < (ji5)) = false := decide_eq_false c6
    clear c6
    obtain rfl := Option.some.inj H
    go_wp2
    go_ret
    exact ⟨_, by first | rfl | (simp [zAy, zAx] <;> rfl) | (simp only [← hji5]; first | rfl | (simp [zAy, zAx] <;> rfl)) | (simp [*, zAy, zAx] <;> rfl), by (with_reducible repeat (first | apply Kd.zBm | apply Kd.zBl | apply Kd.zBv)); exact Kd.N_mono HO_7.out (fun _ hk => hk.1), by repeat (first | (with_reducible first | exact HB.out | apply zA2 | apply zA0 | apply zA3 | refine zA4 ?_ GE223.out) | exact HB.out)⟩
end
end Go.Proofs.YtbghfbhlbfcloaaDoor.PL
namespace Go.Proofs.YtbghfbhlbfcloaaDoor.PL
section
set_option linter.unusedVariables false
set_option linter.unusedSimpArgs false
open Go.RowKit Go.Proofs.YtbghfbhlbfcloaaDoorW.PrintWords Go.Proofs.YtbghfbhlbfcloaaDoorW.PrintLast Go.Proofs.YtbghfbhlbfcloaaDoorW.PrintMore

/-! ### the order of the reference -/
theorem less_tab : ((List.range 64).all fun x => (List.range 64).all fun y => zBg.f 20 (EI x) (EI y) == some (decide (befL (EI x) (EI y) < 0))) = true := by kernel_rfl
theorem less_f (k : Nat) (hk : 20 ≤ k) (x y : Nat) (hx : x < 64) (hy : y < 64) : zBg.f k (EI x) (EI y) = some (decide (befL (EI x) (EI y) < 0)) := by
 have h := List.all_eq_true.1 (List.all_eq_true.1 less_tab x (List.mem_range.2 hx)) y (List.mem_range.2 hy)
 exact up (fun k => zBg.mono (EI x) (EI y) k) (by simpa using h) k hk

/-! ### which elements the bits choose -/
def pk : List Int → Nat → Nat → List Int
 | [], _, _ => []
 | a :: t, b, i => if b.testBit i = true then a :: pk t b (i + 1) else pk t b (i + 1)
theorem bit_tab : ((List.range 64).all fun b => (List.range 6).all fun i => decide (Go.bits .and .i64 (shr .i64 (b : Int) (i : Int)) 1 = 1) == b.testBit i) = true := by kernel_rfl
theorem bit_f (b i : Nat) (hb : b < 64) (hi : i < 6) : (Go.bits .and .i64 (shr .i64 (b : Int) (i : Int)) 1 = 1) ↔ b.testBit i = true := by
 have h := List.all_eq_true.1 (List.all_eq_true.1 bit_tab b (List.mem_range.2 hb)) i (List.mem_range.2 hi)
 rw [beq_iff_eq] at h
 rw [← h, decide_eq_true_iff]
/-- The subsets, rising. -/
def RB (m : Nat) : List Nat := (SB m).reverse
theorem RB_tab : ((List.range 64).all fun m => ((List.range' 1 (2 ^ (EI m).length - 1)).map fun b => pk (EI m) b 0) == (RB m).map EI) = true := by kernel_rfl
theorem RB_f (m : Nat) (hm : m < 64) : ((List.range' 1 (2 ^ (EI m).length - 1)).map fun b => pk (EI m) b 0) = (RB m).map EI := by
 have h := List.all_eq_true.1 RB_tab m (List.mem_range.2 hm)
 exact eq_of_beq h
theorem RB_mem {m x : Nat} : x ∈ RB m ↔ x < 64 ∧ x ≠ 0 ∧ x &&& m = x := by unfold RB; rw [List.mem_reverse]; exact SB_mem
theorem shl_n : ((List.range 7).all fun n => shl .i64 1 (n : Int) == ((2 ^ n : Nat) : Int)) = true := by kernel_rfl
theorem shl_i (n : Nat) (hn : n < 7) : shl .i64 1 (n : Int) = ((2 ^ n : Nat) : Int) := by
 have h := List.all_eq_true.1 shl_n n (List.mem_range.2 hn)
 simpa using h

section
variable {A : List Nat} {E : List S68} {m : Nat} {most : Int} {R : Option (List (List Int))}
/-- The element is put in its place, and the round ends. -/
theorem rs_l2 (n : Int) (x : Nat) (hx : x < 64) (b : Nat) (hb : b < 64) (L : List Nat) (hL : ∀ y ∈ L, y < 64) (hl : L.length ≤ 70) (N : Nat) : ∀ (c i : Nat), i + c = L.length →
  (∀ k, N ≤ k → zAa.l0 k (EI m) most ((L.take i ++ insq leM x (L.drop i)).map EI) ((b + 1 : Nat) : Int) n E = R) →
  ∀ k, N + c + 30 ≤ k → zAa.l2 k (EI m) most (L.map EI) (b : Int) (EI x) (i : Int) n E = R
 | c, i, hi, H, k, hk => by
  obtain ⟨k, rfl⟩ : ∃ q, k = q + 1 := ⟨k - 1, by omega⟩
  have hlm : (L.map EI).length = L.length := List.length_map _
  have put : i ≤ L.length → insq leM x (L.drop i) = x :: L.drop i → zAa.l0 k (EI m) most (((L.map EI).take i ++ [EI x]) ++ (L.map EI).drop i) (wrap64 ((b : Int) + 1)) n E = R := by
   intro _ he
   have h := H k (by omega)
   rw [he, List.map_append, List.map_cons, List.map_take, List.map_drop] at h
   rw [wr1 b (by omega), List.append_assoc]
   exact h
  rw [zAa.l2]
  by_cases hlt : i < L.length
  ·have e1 : rd_L6 (L.map EI) (i : Int) = EI L[i] := by
    unfold rd_L6
    rw [Int.toNat_natCast, List.getD_eq_getElem?_getD, List.getElem?_map, List.getElem?_eq_getElem hlt]; rfl
   have hyl := hL L[i] (List.getElem_mem hlt)
   rw [if_pos (by omega), if_pos (by omega), e1, less_f k (by omega) _ _ hyl hx, Option.bind_some]
   have hd : L.drop i = L[i] :: L.drop (i + 1) := List.drop_eq_getElem_cons hlt
   by_cases hq : befL (EI L[i]) (EI x) < 0
   ·cases c with
    | zero => omega
    | succ c =>
     rw [if_pos (decide_eq_true hq), wr1 i (by omega)]
     refine rs_l2 n x hx b hb L hL hl N c (i + 1) (by omega) (fun k hk => ?_) k (by omega)
     have h := H k hk
     have hle : ¬ leM x L[i] = true := by
      unfold leM leC
      rw [decide_eq_true hq]
      decide
     rw [hd, insq, if_neg hle] at h
     rw [List.take_succ_eq_append_getElem hlt, List.append_assoc]
     exact h
   ·have hle : leM x L[i] = true := by
     unfold leM leC
     rw [decide_eq_false hq]
     rfl
    have hp := put (by omega) (by rw [hd, insq, if_pos hle])
    rw [if_neg (by simpa using hq), Option.bind_some, if_pos (by omega), Option.bind_some, Int.toNat_natCast, if_pos (by simp only [List.length_nil, List.length_take]; omega), Option.bind_some, if_pos (by simp only [List.nil_append, List.length_take]; omega), Option.bind_some, Option.bind_some, if_pos (by simp only [List.nil_append, List.length_append, List.length_take, List.length_drop, List.length_cons, List.length_nil]; omega)]
    exact hp
  ·have hd : L.drop i = [] := List.drop_eq_nil_of_le (by omega)
   have hp := put (by omega) (by rw [hd]; rfl)
   rw [if_neg (by omega), Option.bind_some, if_pos (by omega), if_pos (by omega), Option.bind_some, Int.toNat_natCast, if_pos (by simp only [List.length_nil, List.length_take]; omega), Option.bind_some, if_pos (by simp only [List.nil_append, List.length_take]; omega), Option.bind_some, Option.bind_some, if_pos (by simp only [List.nil_append, List.length_append, List.length_take, List.length_drop, List.length_cons, List.length_nil]; omega)]
   exact hp
/-- Is the subset kept? -/
def kp (A : List Nat) (most : Int) (x : Nat) : Bool := decide (((EI x).length : Int) ≤ most) && cB A x
theorem rs_l1 (hA : Gd A) (hE : Ed A E) (n : Int) (x : Nat) (hx : x < 64) (h0 : x ≠ 0) (b : Nat) (hb : b < 64) (L : List Nat) (hL : ∀ y ∈ L, y < 64) (hl : L.length ≤ 70) (N : Nat) (hN : 200 ≤ N)
  (H : ∀ k, N ≤ k → zAa.l0 k (EI m) most ((if kp A most x = true then insq leM x L else L).map EI) ((b + 1 : Nat) : Int) n E = R) : ∀ (c i : Nat) (pre : List Int), i + c = (EI m).length → pre.length ≤ i → pre ++ pk ((EI m).drop i) b i = EI x →
  ∀ k, N + c + 110 ≤ k → zAa.l1 k (EI m) most (L.map EI) (b : Int) pre (i : Int) n E = R
 | 0, i, pre, hi, hp, he, k, hk => by
  obtain ⟨k, rfl⟩ : ∃ q, k = q + 2 := ⟨k - 2, by omega⟩
  have hml := EI_len m
  rw [List.drop_eq_nil_of_le (by omega), pk, List.append_nil] at he
  subst he
  rw [zAa.l1, if_neg (by omega)]
  by_cases hm : ((EI x).length : Int) > most
  ·have hk' : kp A most x = false := by
    unfold kp
    rw [decide_eq_false (by omega)]
    rfl
   rw [if_pos hm, zAa.j2, if_pos rfl, wr1 b (by omega)]
   have h := H k (by omega)
   rw [hk'] at h
   exact h
  ·rw [if_neg hm, rcB_f hA hE n hx h0 (k + 1) (by omega), Option.bind_some, zAa.j2]
   have hk' : kp A most x = cB A x := by
    unfold kp
    rw [decide_eq_true (by omega)]
    rfl
   rw [hk'] at H
   cases hc : cB A x with
   | false =>
    rw [hc] at H
    rw [if_pos (show (!false) = true from rfl), wr1 b (by omega)]
    exact H k (by omega)
   | true =>
    rw [hc] at H
    rw [if_neg (by decide)]
    exact rs_l2 n x hx b hb L hL hl N L.length 0 (by omega) (fun k hk => H k hk) k (by omega)
 | c + 1, i, pre, hi, hp, he, k, hk => by
  obtain ⟨k, rfl⟩ : ∃ q, k = q + 1 := ⟨k - 1, by omega⟩
  have hml := EI_len m
  have hlt : i < (EI m).length := by omega
  rw [dropI (EI m) i hlt, pk] at he
  rw [zAa.l1, if_pos (by omega), if_pos (by omega), wr1 i (by omega)]
  by_cases hq : b.testBit i = true
  ·rw [if_pos ((bit_f b i hb (by omega)).2 hq), if_pos (by omega)]
   rw [if_pos hq] at he
   exact rs_l1 hA hE n x hx h0 b hb L hL hl N hN H c (i + 1) _ (by omega) (by simp; omega) (by rw [List.append_assoc]; exact he) k (by omega)
  ·rw [if_neg (fun h => hq ((bit_f b i hb (by omega)).1 h))]
   rw [if_neg hq] at he
   exact rs_l1 hA hE n x hx h0 b hb L hL hl N hN H c (i + 1) _ (by omega) (by omega) he k (by omega)
end
def fin (q : Nat → Bool) : List Nat → List Nat → List Nat
 | L, [] => L
 | L, x :: r => fin q (if q x = true then insq leM x L else L) r
theorem fin_isort (q : Nat → Bool) : ∀ (r l : List Nat), fin q (isort leM l) r = isort leM ((r.filter q).reverse ++ l)
 | [], _ => rfl
 | x :: r, l => by
  unfold fin
  by_cases h : q x = true
  ·rw [if_pos h, List.filter_cons_of_pos h, List.reverse_cons, List.append_assoc]
   exact fin_isort q r (x :: l)
  ·rw [if_neg h, List.filter_cons_of_neg h]
   exact fin_isort q r l
theorem insq_len (x : Nat) (L : List Nat) : (insq leM x L).length = L.length + 1 := (insq_perm leM x L).length_eq
theorem insq_lt {x : Nat} {L : List Nat} (hx : x < 64) (hL : ∀ y ∈ L, y < 64) : ∀ y ∈ insq leM x L, y < 64 := fun y hy => by
 rcases List.mem_cons.1 ((insq_perm leM x L).mem_iff.1 hy) with rfl | h
 ·exact hx
 ·exact hL y h
theorem rs_l0 {A : List Nat} {E : List S68} {m : Nat} {most : Int} (hA : Gd A) (hE : Ed A E) (hm : m < 64) (n : Int) : ∀ (r : List Nat) (b : Nat) (L : List Nat), 1 ≤ b → b + r.length = 2 ^ (EI m).length → (List.range' b r.length).map (fun b => pk (EI m) b 0) = r.map EI → (∀ y ∈ r, y < 64 ∧ y ≠ 0) → (∀ y ∈ L, y < 64) → L.length + r.length ≤ 64 →
  ∀ k, 300 + 200 * r.length ≤ k → zAa.l0 k (EI m) most (L.map EI) (b : Int) n E = some ((fin (kp A most) L r).map EI)
 | [], b, L, hb, hbl, _, _, _, _, k, hk => by
  obtain ⟨k, rfl⟩ : ∃ q, k = q + 1 := ⟨k - 1, by omega⟩
  have hml := EI_len m
  rw [zAa.l0, shl_i _ (by omega), ← hbl, if_neg (by simp), fin]
 | x :: r, b, L, hb, hbl, hpk, hr, hL, hl, k, hk => by
  obtain ⟨k, rfl⟩ : ∃ q, k = q + 1 := ⟨k - 1, by omega⟩
  have hml := EI_len m
  have h64 : 2 ^ (EI m).length ≤ 64 := Nat.pow_le_pow_right (n := 2) (by decide) hml
  rw [List.length_cons] at hbl hk hl
  rw [List.length_cons, List.range'_succ, List.map_cons, List.map_cons] at hpk
  injection hpk with hpk1 hpk2
  have hx := hr x (by simp)
  rw [zAa.l0, shl_i _ (by omega), ← hbl, if_pos (by omega)]
  rw [fin]
  refine rs_l1 hA hE n x hx.1 hx.2 b (by omega) L hL (by omega) (300 + 200 * r.length) (by omega) (fun k hk => ?_) (EI m).length 0 [] (by omega) (by simp) (by rw [List.drop_zero]; exact hpk1) k (by omega)
  have key : ∀ L', (∀ y ∈ L', y < 64) → L'.length ≤ L.length + 1 → zAa.l0 k (EI m) most (L'.map EI) ((b + 1 : Nat) : Int) n E = some ((fin (kp A most) L' r).map EI) := fun L' h1 h2 =>
   rs_l0 hA hE hm n r (b + 1) L' (by omega) (by omega) hpk2 (fun y hy => hr y (by simp [hy])) h1 (by omega) k hk
  by_cases hq : kp A most x = true
  ·rw [if_pos hq]
   exact key _ (insq_lt hx.1 hL) (Nat.le_of_eq (insq_len _ _))
  ·rw [if_neg hq]
   exact key _ hL (by omega)
theorem RB_len (m : Nat) (hm : m < 64) : (RB m).length = 2 ^ (EI m).length - 1 := by
 have h := congrArg List.length (RB_f m hm)
 simpa using h.symm
/-- The reference's subsets: the kept ones, in the order. -/
theorem subsets_f {A : List Nat} {E : List S68} {m : Nat} (most : Int) (hA : Gd A) (hE : Ed A E) (hm : m < 64) (n : Int) (k : Nat) (hk : 14000 ≤ k) : zAa.f k n E (EI m) most = some (((SO m).filter (kp A most)).map EI) := by
 have hl := RB_len m hm
 have hp : 0 < 2 ^ (EI m).length := Nat.pow_pos (by decide)
 have h64 : 2 ^ (EI m).length ≤ 64 := Nat.pow_le_pow_right (n := 2) (by decide) (EI_len m)
 have h := rs_l0 (most := most) hA hE hm n (RB m) 1 [] (Nat.le_refl _) (by omega) (by rw [hl]; exact RB_f m hm) (fun y hy => ⟨(RB_mem.1 hy).1, (RB_mem.1 hy).2.1⟩) (by simp) (by simp; omega) k (by omega)
 unfold zAa.f
 have h' : zAa.l0 k (EI m) most [] 1 n E = some ((fin (kp A most) [] (RB m)).map EI) := h
 rw [h']
 congr 2
 have e := fin_isort (kp A most) (RB m) []
 rw [List.append_nil] at e
 show fin (kp A most) (isort leM []) (RB m) = _
 rw [e, ← SO_filter]
 congr 1
 unfold RB
 rw [List.filter_reverse, List.reverse_reverse]
end
end Go.Proofs.YtbghfbhlbfcloaaDoor.PL
namespace Go.Proofs.YtbghfbhlbfcloaaDoor.PL
section
open Go.RowKit Go.Proofs.YtbghfbhlbfcloaaDoorW.PrintWords Go.Proofs.YtbghfbhlbfcloaaDoorW.PrintLast Go.Proofs.YtbghfbhlbfcloaaDoorW.PrintMore
attribute [local go_sem] zC2 zC0 zC9 zC8 zBs zBr zC1 zBz   -- for this text's walks alone
set_option linter.unusedVariables false
set_option linter.unusedSimpArgs false
/-! ### zAo: function 13 -/
def zAo.l0 : Nat → List Int → List (S41) → List (List Int) → Int → Int → List (S68) → Option ((List (S41)))
 | 0, _, _, _, _, _, _ => none
 | k + 1, x1, x5, x6, x7, x282000, x282001 => if x7 < (x6.length : Int) then (if 0 ≤ x7 then ((zAu.f k x1 (rd_L6 x6 x7)).bind fun t286 => (if 0 < ((rd_L6 x6 x7).length : Int) then (if 0 < (x1.length : Int) then (if (rd (rd_L6 x6 x7) 0) = (rd x1 0) then ((zAm.f k x282000 x282001 t286).bind fun t292 => (if t292 = true then (if x5.length < 2932031007402 then (zAo.l0 k x1 (x5 ++ [(⟨rd_L6 x6 x7, t286⟩ : S41)]) x6 (wrap64 (x7 + 1)) x282000 x282001) else (none)) else (zAo.l0 k x1 x5 x6 (wrap64 (x7 + 1)) x282000 x282001))) else (zAo.l0 k x1 x5 x6 (wrap64 (x7 + 1)) x282000 x282001)) else (none)) else (none))) else (none)) else (some x5)
def zAo.f (k : Nat) (a0_0 : Int) (l0_1 : List (S68)) (l1 : List Int) : Option ((List (S41))) := (zAa.f k a0_0 l0_1 l1 (wrap64 ((l1.length : Int) - 1))).bind fun t282 => (zAo.l0 k l1 ([] : List (S41)) t282 0 a0_0 l0_1)
theorem zAo.zBx : ∀ k, (∀ y0 y1 y2 y3 y4 y5, LeO (zAo.l0 k y0 y1 y2 y3 y4 y5) (zAo.l0 (k + 1) y0 y1 y2 y3 y4 y5))
 | 0 => fun _ _ _ _ _ _ r h => by simp [zAo.l0] at h
 | k + 1 => by
  have ih0 := zAo.zBx k
  ·intro y0 y1 y2 y3 y4 y5
   unfold zAo.l0
   repeat' first
   | (with_reducible exact ih0 _ _ _ _ _ _)
   | (with_reducible exact zAm.mono _ _ _ _)
   | (with_reducible exact zAa.mono _ _ _ _ _)
   | (with_reducible exact zAu.mono _ _ _)
   | (with_reducible exact LeO.refl _)
   | (with_reducible exact LeO.none _)
   | (with_reducible refine LeO.ite ?_ ?_)
   | (with_reducible refine LeO.bind ?_ (fun _ => ?_))
theorem zAo.mono : ∀ a0 a1 a2 k, LeO (zAo.f k a0 a1 a2) (zAo.f (k + 1) a0 a1 a2) := by
 intro a0 a1 a2 k
 have ih0 := zAo.zBx k
 unfold zAo.f
 repeat' first
   | (with_reducible exact ih0 _ _ _ _ _ _)
   | (with_reducible exact zAm.mono _ _ _ _)
   | (with_reducible exact zAa.mono _ _ _ _ _)
   | (with_reducible exact zAu.mono _ _ _)
   | (with_reducible exact LeO.refl _)
   | (with_reducible exact LeO.none _)
   | (with_reducible refine LeO.ite ?_ ?_)
   | (with_reducible refine LeO.bind ?_ (fun _ => ?_))
def zAo.T7 : Bool × List (List Nat × List Nat) := (true, [([], []), ([], []), ([0, 1], [0, 1]), ([2], [2]), ([3], [3]), ([4], [4]), ([], []), ([6], [6]), ([7], [7]), ([5, 8], [5, 8]), ([9], [9]), ([10], [10]), ([10], [10]), ([11, 12, 10, 10], [10, 11, 12]), ([10, 13], [10, 13])])
def zAo.B7 : List Nat := [0, 0, 3, 7, 15, 31, 0, 64, 192, 511, 1023, 2047, 2047, 8191, 16383]
theorem zAo.tab7 : rtab .any (opsOf Tryd.f13 7) = zAo.T7 := by kernel_rfl
theorem zAo.bits7 : waitsOk zAo.T7.2 zAo.B7 = true := by kernel_rfl
set_option maxHeartbeats 8000000 in
set_option maxRecDepth 100000 in
theorem zAo.calls (k : Nat) (a0_0 : Int) (A0_1 : Option Addr) (c0_1 : Nat) (l0_1 : List (S68)) (A1 : Option Addr) (c1 : Nat) (l1 : List Int) (r : List (S41)) (w : World) (hr0_1 : Kd.C k68 w A0_1 l0_1.length l0_1) (hc0_1 : l0_1.length ≤ c0_1) (hr1 : Kd.C (Kd.int .i64) w A1 l1.length l1) (hc1 : l1.length ≤ c1) (h : zAo.f k a0_0 l0_1 l1 = some r) :
  Calls Tryd.prog 13 #[.agg #[.int .i64 a0_0, .slice A0_1 l0_1.length c0_1], .slice A1 l1.length c1] w fun e w' => ∃ v0_ : Value, e = .returned (v0_) ∧ Kd.N k41 41 w' w.heap.size (fun k_ => (w.heap.size ≤ k_)) v0_ r ∧ Below w.heap.size w w' := by
 have hu28 := Tryd.underlying28
 have hu41 := Tryd.underlying41
 have HR0_1 := zA1.mk hr0_1
 have HC0_1 := zA1.mk hc0_1
 clear hr0_1 hc0_1
 have HR1 := zA1.mk hr1
 have HC1 := zA1.mk hc1
 clear hr1 hc1
 have HB := zA1.mk (Below.refl w.heap.size w)
 have H : ((zAa.f k a0_0 l0_1 l1 (wrap64 ((l1.length : Int) - 1))).bind fun t282 => (zAo.l0 k l1 ([] : List (S41)) t282 0 a0_0 l0_1)) = some r := h
 clear h
 replace H := Option.bind_eq_some_iff.mp H
 obtain ⟨t282, A30, H⟩ := H
 replace H : (zAo.l0 k l1 ([] : List (S41)) t282 0 a0_0 l0_1) = some r := H
 have A3 := zA1.mk A30
 clear A30
 have H' := zA1.mk H
 clear H
 go_enter Tryd.func13, Tryd.ntmps13
 go_wp2_with (first | ((with_reducible refine zBk (N := 2) rfl ?_); refine zBj ?hg (N := 2) ?hd (cs := #[.int .i64 a0_0, .slice A0_1 l0_1.length c0_1]) (t := 28) ?hr ?_; (case hd => rfl); (case hg => rfl); (case hr => first | (go_simp; done) | (go_simp; rfl)); intro gb281 hg w4 hbox hb; have n0_ := zA1.mk (zAe (by repeat (first | (with_reducible first | exact HB.out | apply zA2 | apply zA0 | apply zA3) | exact HB.out)) hb); have n1_ := zA1.mk (hbox); have n2_ := zA1.mk ((by rw [hg]; exact (zAb (by repeat (first | (with_reducible first | exact HB.out | apply zA2 | apply zA0 | apply zA3) | exact HB.out))) : w.heap.size ≤ gb281)); have n3_ := zA1.mk ((by rw [hg]; exact (zAb (by repeat (first | (with_reducible first | exact HB.out | apply zA2 | apply zA0 | apply zA3) | exact HB.out))) : w.heap.size ≤ gb281)); clear HB; have HB := n0_; have BK281 := n1_; have GW281 := n2_; have GE281 := n3_; clear n0_ n1_ n2_ n3_; clear hb hbox hg; have hcz5_0 : w4.cell? ⟨gb281, 0, none⟩ = some (.int .i64 a0_0) := (zA9 BK281.out 0).trans rfl; have hcz5_1 : w4.cell? ⟨gb281, 1, none⟩ = some (.slice A0_1 l0_1.length c0_1) := (zA9 BK281.out 1).trans rfl; have hfz5_0 := zAd BK281.out 0; have hfz5_1 := zAd BK281.out 1) | ((with_reducible refine zBc (f := 42) rfl ?_); refine zCf (some 14) rfl rfl Tryd.func42 (by kernel_rfl) rfl #[.agg #[.int .i64 a0_0, .slice A0_1 l0_1.length c0_1], .slice A1 l1.length c1, .int .i64 (wrap64 ((l1.length : Int) - 1))] rfl (by (try simp only [List.map_toArray, List.map_cons, List.map_nil]); first | done | rfl | (simp only [List.length_drop, List.length_take]; rfl)) ?_; (with_reducible refine (zAa.calls k a0_0 _ _ l0_1 _ _ l1 (wrap64 ((l1.length : Int) - 1)) t282 _ ?side1 ?side2 ?side3 ?side4 A3.out).mono ?_); (case side1 => repeat (first | exact (Kd.zB1 HR0_1.out HB.out) | (with_reducible refine Kd.zAf ?_ _) | (with_reducible refine Kd.zAk ?_ _) | (with_reducible refine Kd.zAv ?_))); (case side2 => exact HC0_1.out); (case side3 => repeat (first | exact (Kd.zB1 HR1.out HB.out) | (with_reducible refine Kd.zAf ?_ _) | (with_reducible refine Kd.zAk ?_ _) | (with_reducible refine Kd.zAv ?_))); (case side4 => exact HC1.out); rintro e w6 ⟨v283, rfl, ho0, hb⟩; refine ⟨_, rfl, ?_⟩; have n0_ := zA1.mk (Kd.N_lower (Kd.N_mono (ok' := fun k_ => (w.heap.size ≤ k_) ∧ k_ ≠ gb281) ho0 (fun k_ hk_ => ⟨(Nat.le_trans (zAb (by repeat (first | (with_reducible first | exact HB.out | apply zA2 | apply zA0 | apply zA3 | refine zA4 ?_ GE281.out) | exact HB.out))) hk_), (Kd.freshB (g := gb281) (o := .cells #[.int .i64 a0_0, .slice A0_1 l0_1.length c0_1] 28 (0, 0)) (by (with_reducible repeat (first | refine zA6 ?_ _ | refine zA8 ?_ | refine zA5 ?_ _)); exact BK281.out) k_ hk_)⟩)) (zAb (by repeat (first | (with_reducible first | exact HB.out | apply zA2 | apply zA0 | apply zA3 | refine zA4 ?_ GE281.out) | exact HB.out)))); have n1_ := zA1.mk (zAt (g := gb281) (o := .cells #[.int .i64 a0_0, .slice A0_1 l0_1.length c0_1] 28 (0, 0)) (by (with_reducible repeat (first | refine zA6 ?_ _ | refine zA8 ?_ | refine zA5 ?_ _)); exact BK281.out) hb); have n2_ := zA1.mk (zAe (by repeat (first | (with_reducible first | exact HB.out | apply zA2 | apply zA0 | apply zA3 | refine zA4 ?_ GE281.out) | exact HB.out)) hb); clear BK281; clear HB; have HO284 := n0_; have BK281 := n1_; have HB := n2_; clear n0_ n1_ n2_; (try clear hb); (try clear hb2); (try clear hk); (try clear hi); (try clear ho0)))
 go_loopg [5, 7] k (fun kq v5 v7 w' => ∃ (x5_1 : List (S41)) (x7_1 : Int), v7 = .int .i64 x7_1 ∧ zA1 (zAo.l0 kq l1 x5_1 t282 x7_1 a0_0 l0_1 = some r) ∧ zA1 (kq ≤ k) ∧ zA1 (Kd.N k41 41 w' w.heap.size (fun k_ => (w.heap.size ≤ k_) ∧ some k_ ≠ (v283 : Value).ownBlock ∧ k_ ≠ gb281) v5 x5_1) ∧ zA1 (Kd.N (Kd.slice 3 (Kd.int .i64)) 23 w' w.heap.size (fun k_ => (w.heap.size ≤ k_) ∧ some k_ ≠ (v5 : Value).ownBlock ∧ k_ ≠ gb281) v283 t282) ∧ zA1 (w'.heap[gb281]? = some (.cells #[.int .i64 a0_0, (.slice A0_1 l0_1.length c0_1)] 28 (0, 0))) ∧ zA1 (Below w.heap.size w w'))
 case atStart => exact ⟨(([] : List (S41))), (0), (by first | rfl | (simp; done) | (simp [*]; done)), H', ⟨Nat.le_refl _⟩, ⟨by first | exact Kd.S_nil _ _ _ _ _ | exact Kd.N_nil _ _ _ _ _ | exact Kd.V_nil _ _ _ _ _ | exact Kd.Q_nil _ _ _ _ _ | exact Kd.R_nil _ _ _ _ _⟩, ⟨by (with_reducible repeat (first | apply Kd.zBm | apply Kd.zBl | apply Kd.zBv)); exact Kd.N_mono HO284.out (fun _ hk => ⟨hk.1, ⟨(by simp [Value.ownBlock]), hk.2⟩⟩)⟩, ⟨by (with_reducible repeat (first | refine zA6 ?_ _ | refine zA8 ?_ | refine zA5 ?_ _)); exact BK281.out⟩, ⟨by repeat (first | (with_reducible first | exact HB.out | apply zA2 | apply zA0 | apply zA3 | refine zA4 ?_ GE281.out) | exact HB.out)⟩⟩
 case round =>
  clear H'
  try clear c1
  try clear p2
  try clear c4
  try clear p6
  try clear hcz5_0
  try clear hcz5_1
  try clear hfz5_0
  try clear hfz5_1
  obtain ⟨x5_1, x7_1, rfl, HA, HK1, HO_5, HO_6, BK281, HB⟩ := hrel
  cases gk with
  | zero => exact absurd HA.out (by simp [zAo.l0])
  | succ k1 =>
   have H := HA.out
   clear HA
   simp only [zAo.l0] at H
   by_cases c7 : x7_1 < (t282.length : Int)
   ·rw [if_pos c7] at H
    have c7b0 : decide (x7_1 < (t282.length : Int)) = true := decide_eq_true c7
    clear c7
    by_cases c8 : 0 ≤ x7_1
    ·rw [if_pos c8] at H
     have c8b0 : decide (0 ≤ x7_1) = true := decide_eq_true c8
     clear c8
     replace H := Option.bind_eq_some_iff.mp H
     obtain ⟨t286, A90, H⟩ := H
     replace H : (if 0 < ((rd_L6 t282 x7_1).length : Int) then (if 0 < (l1.length : Int) then (if (rd (rd_L6 t282 x7_1) 0) = (rd l1 0) then ((zAm.f k1 a0_0 l0_1 t286).bind fun t292 => (if t292 = true then (if x5_1.length < 2932031007402 then (zAo.l0 k1 l1 (x5_1 ++ [(⟨rd_L6 t282 x7_1, t286⟩ : S41)]) t282 (wrap64 (x7_1 + 1)) a0_0 l0_1) else (none)) else (zAo.l0 k1 l1 x5_1 t282 (wrap64 (x7_1 + 1)) a0_0 l0_1))) else (zAo.l0 k1 l1 x5_1 t282 (wrap64 (x7_1 + 1)) a0_0 l0_1)) else (none)) else (none)) = some r := H
     have A9 := zA1.mk A90
     clear A90
     by_cases c10 : 0 < ((rd_L6 t282 x7_1).length : Int)
     ·rw [if_pos c10] at H
      have c10b0 : decide (0 < ((rd_L6 t282 x7_1).length : Int)) = true := decide_eq_true c10
      have c10b1 : decide (0 < (rd_L6 t282 x7_1).length) = true := decide_eq_true (by omega)
      clear c10
      by_cases c11 : 0 < (l1.length : Int)
      ·rw [if_pos c11] at H
       have c11b0 : decide (0 < (l1.length : Int)) = true := decide_eq_true c11
       have c11b1 : decide (0 < l1.length) = true := decide_eq_true (by omega)
       clear c11
       by_cases c12 : (rd (rd_L6 t282 x7_1) 0) = (rd l1 0)
       ·rw [if_pos c12] at H
        have c12b0 : ((rd (rd_L6 t282 x7_1) 0) == (rd l1 0)) = true := beq_iff_eq.mpr c12
        have c12b1 : ((rd (rd_L6 t282 x7_1) 0) != (rd l1 0)) = false := bne_eq_false_iff_eq.mpr c12
        clear c12
        replace H := Option.bind_eq_some_iff.mp H
        obtain ⟨t292, A130, H⟩ := H
        replace H : (if t292 = true then (if x5_1.length < 2932031007402 then (zAo.l0 k1 l1 (x5_1 ++ [(⟨rd_L6 t282 x7_1, t286⟩ : S41)]) t282 (wrap64 (x7_1 + 1)) a0_0 l0_1) else (none)) else (zAo.l0 k1 l1 x5_1 t282 (wrap64 (x7_1 + 1)) a0_0 l0_1)) = some r := H
        have A13 := zA1.mk A130
        clear A130
        by_cases c14 : t292 = true
        ·subst c14
         have H1 : (if x5_1.length < 2932031007402 then (zAo.l0 k1 l1 (x5_1 ++ [(⟨rd_L6 t282 x7_1, t286⟩ : S41)]) t282 (wrap64 (x7_1 + 1)) a0_0 l0_1) else (none)) = some r := by rw [if_pos rfl] at H; exact H
         clear H
         have H := H1
         clear H1
         by_cases c15 : x5_1.length < 2932031007402
         ·rw [if_pos c15] at H
          have LMc15 := zA1.mk c15
          clear c15
          obtain ⟨y294, hy294⟩ : ∃ y_ : List (S41), y_ = (x5_1 ++ [(⟨rd_L6 t282 x7_1, t286⟩ : S41)]) := ⟨_, rfl⟩
          replace H : (zAo.l0 k1 l1 y294 t282 (wrap64 (x7_1 + 1)) a0_0 l0_1) = some r := by first | (rw [hy294]; with_reducible exact H) | (have H2_ := (Option.bind_some _ _).symm.trans H; rw [hy294]; with_reducible exact H2_) | (have H2_ := (Option.bind_some _ _).symm.trans H; with_reducible exact H2_) | with_reducible exact H | (rw [hy294]; exact H) | exact H
          have Ny294 := zA1.mk hy294
          clear hy294
          have H' := zA1.mk H
          clear H
          obtain ⟨Ao16, co16, eo16⟩ := Kd.N_slice HO_6.out
          subst eo16
          have p285 : 0 ≤ (x7_1 : Int) := of_decide_eq_true (by first | (with_reducible assumption) | assumption)
          have q285 : x7_1 < (t282.length : Int) := of_decide_eq_true (by first | (with_reducible assumption) | assumption)
          obtain ⟨ad285, A285_0, c285_0, e285, hx285_0, hl285_0, hi285_0⟩ := at_L6 (Kd.zBo HO_6.out).2.2 x7_1 p285 q285
          cases e285
          obtain ⟨ce285, hce285, hMe285, hcc285⟩ := Kd.N_get HO_6.out [] x7_1 p285 (by first | exact q285 | exact of_decide_eq_true (by first | (with_reducible assumption) | assumption) | (have e_ := (Kd.zBo HO_6.out).1; omega))
          obtain ⟨ua285_0, uc285_0, rfl, ul285_0, ge285_0⟩ := Kd.FK_slice_open hMe285
          have hv285_0 := hcc285 0 _ rfl
          rw [Nat.add_zero, show ((Kd.slice 3 (Kd.int .i64))).sz = 1 from rfl, Nat.mul_one] at hv285_0
          replace hv285_0 := Option.some.inj (hv285_0.symm.trans hx285_0)
          injection hv285_0 with hva_ hvn_ hvc_
          rw [hva_] at ge285_0
          rw [hvc_] at ul285_0
          have HL285_0 := zA1.mk (show Kd.V (Kd.int .i64) 3 _ w.heap.size _ _ (rd_L6 t282 x7_1) from Kd.V_mk ul285_0 ge285_0)
          clear hva_ hvn_ hvc_ ge285_0 ul285_0
          clear hcc285 hce285
          have HR285_0 := zA1.mk hi285_0
          have HC285_0 := zA1.mk hl285_0
          clear hi285_0 hl285_0
          replace p285 := eq_true p285
          replace q285 := eq_true q285
          try go_wp2_with (first | ((with_reducible refine zBc (f := 43) rfl ?_); refine zCf (some 26) rfl rfl Tryd.func43 (by kernel_rfl) rfl #[.slice A1 l1.length c1, .slice A285_0 (rd_L6 t282 x7_1).length c285_0] rfl (by (try simp only [List.map_toArray, List.map_cons, List.map_nil]); first | done | rfl | (simp only [List.length_drop, List.length_take]; rfl)) ?_; (with_reducible refine (zAu.calls k1 _ _ l1 _ _ (rd_L6 t282 x7_1) t286 _ ?side1 ?side2 ?side3 ?side4 A9.out).mono ?_); (case side1 => repeat (first | exact (Kd.zB1 HR1.out HB.out) | (with_reducible refine Kd.zAf ?_ _) | (with_reducible refine Kd.zAk ?_ _) | (with_reducible refine Kd.zAv ?_))); (case side2 => exact HC1.out); (case side3 => repeat (first | exact (by repeat (first | (with_reducible exact HR285_0.out) | (with_reducible refine Kd.zAf ?_ _) | (with_reducible refine Kd.zAk ?_ _) | (with_reducible refine Kd.zAv ?_) | exact HR285_0.out)) | (with_reducible refine Kd.zAf ?_ _) | (with_reducible refine Kd.zAk ?_ _) | (with_reducible refine Kd.zAv ?_))); (case side4 => exact HC285_0.out); rintro e w17 ⟨v287, rfl, ho0, hb⟩; refine ⟨_, rfl, ?_⟩; have n0_ := zA1.mk (Kd.N_elder' (by (with_reducible repeat (first | apply Kd.zBm | apply Kd.zBl | apply Kd.zBv)); exact HO_5.out) (Kd.R_base ho0) hb); have n1_ := zA1.mk (Kd.N_elder' (by (with_reducible repeat (first | apply Kd.zBm | apply Kd.zBl | apply Kd.zBv)); exact HO_6.out) (Kd.R_base ho0) hb); have n2_ := zA1.mk (Kd.V_elder' (by (with_reducible repeat (first | apply Kd.V_alloc | apply Kd.V_drewN | apply Kd.V_drew)); exact HL285_0.out) (Kd.R_base ho0) hb); have n3_ := zA1.mk (Kd.zCk (Kd.R_newM (M := fun k_ => (w.heap.size ≤ k_)) ho0 (zAb (by repeat (first | (with_reducible first | exact HB.out | apply zA2 | apply zA0 | apply zA3 | refine zA4 ?_ GE281.out) | exact HB.out))) (fun k_ h_ => h_)) (zAb (by repeat (first | (with_reducible first | exact HB.out | apply zA2 | apply zA0 | apply zA3 | refine zA4 ?_ GE281.out) | exact HB.out)))); have n4_ := zA1.mk (zAt (g := gb281) (o := .cells #[.int .i64 a0_0, .slice A0_1 l0_1.length c0_1] 28 (0, 0)) (by (with_reducible repeat (first | refine zA6 ?_ _ | refine zA8 ?_ | refine zA5 ?_ _)); exact BK281.out) hb); have n5_ := zA1.mk (Kd.zB1 (by repeat (first | (with_reducible exact HR285_0.out) | (with_reducible refine Kd.zAf ?_ _) | (with_reducible refine Kd.zAk ?_ _) | (with_reducible refine Kd.zAv ?_) | exact HR285_0.out)) hb); have n6_ := zA1.mk (zAe (by repeat (first | (with_reducible first | exact HB.out | apply zA2 | apply zA0 | apply zA3 | refine zA4 ?_ GE281.out) | exact HB.out)) hb); clear HO_5; clear HO_6; clear HL285_0; clear BK281; clear HR285_0; clear HB; have HO_5 := n0_; have HO_6 := n1_; have HL285_0 := n2_; have HO288 := n3_; have BK281 := n4_; have HR285_0 := n5_; have HB := n6_; clear n0_ n1_ n2_ n3_ n4_ n5_ n6_; (try clear hb); (try clear hb2); (try clear hk); (try clear hi); (try clear ho0)))
          have n0_ := zA1.mk (Kd.zBv HO_5.out)
          have n1_ := zA1.mk (Kd.zBv HO_6.out)
          have n2_ := zA1.mk (Kd.V_drew HL285_0.out)
          have n3_ := zA1.mk (Kd.zAp HO288.out)
          have n4_ := zA1.mk (zA8 BK281.out)
          have n5_ := zA1.mk (Kd.zAv HR285_0.out)
          have n6_ := zA1.mk (zA3 HB.out)
          clear HO_5
          clear HO_6
          clear HL285_0
          clear HO288
          clear BK281
          clear HR285_0
          clear HB
          have HO_5 := n0_
          have HO_6 := n1_
          have HL285_0 := n2_
          have HO288 := n3_
          have BK281 := n4_
          have HR285_0 := n5_
          have HB := n6_
          clear n0_ n1_ n2_ n3_ n4_ n5_ n6_
          have p289 : 0 ≤ (x7_1 : Int) := of_decide_eq_true (by first | (with_reducible assumption) | assumption)
          have q289 : x7_1 < (t282.length : Int) := of_decide_eq_true (by first | (with_reducible assumption) | assumption)
          obtain ⟨ad289, A289_0, c289_0, e289, hx289_0, hl289_0, hi289_0⟩ := at_L6 (Kd.zBo HO_6.out).2.2 x7_1 p289 q289
          obtain rfl : ad285 = ad289 := (by injection e289)
          obtain ⟨ce289, hce289, hMe289, hcc289⟩ := Kd.N_get HO_6.out [] x7_1 p289 (by first | exact q289 | exact of_decide_eq_true (by first | (with_reducible assumption) | assumption) | (have e_ := (Kd.zBo HO_6.out).1; omega))
          obtain ⟨ua289_0, uc289_0, rfl, ul289_0, ge289_0⟩ := Kd.FK_slice_open hMe289
          have hv289_0 := hcc289 0 _ rfl
          rw [Nat.add_zero, show ((Kd.slice 3 (Kd.int .i64))).sz = 1 from rfl, Nat.mul_one] at hv289_0
          replace hv289_0 := Option.some.inj (hv289_0.symm.trans hx289_0)
          injection hv289_0 with hva_ hvn_ hvc_
          rw [hva_] at ge289_0
          rw [hvc_] at ul289_0
          have HL289_0 := zA1.mk (show Kd.V (Kd.int .i64) 3 _ w.heap.size _ _ (rd_L6 t282 x7_1) from Kd.V_mk ul289_0 ge289_0)
          clear hva_ hvn_ hvc_ ge289_0 ul289_0
          clear hcc289 hce289
          have HR289_0 := zA1.mk hi289_0
          have HC289_0 := zA1.mk hl289_0
          clear hi289_0 hl289_0
          replace p289 := eq_true p289
          replace q289 := eq_true q289
          have p290 : 0 ≤ (0 : Int) := (by omega)
          have q290 : 0 < ((rd_L6 t282 x7_1).length : Int) := of_decide_eq_true (by first | (with_reducible assumption) | assumption)
          obtain ⟨ad290, e290, hx290_0⟩ := Kd.zCb (by repeat (first | (with_reducible exact HR289_0.out) | (with_reducible refine Kd.zAf ?_ _) | (with_reducible refine Kd.zAk ?_ _) | (with_reducible refine Kd.zAv ?_) | exact HR289_0.out)) 0 p290 q290
          cases e290
          have qi290 : (0 < (rd_L6 t282 x7_1).length) = True := eq_true (by omega)
          (try rw [show ((0 : Int)).toNat = 0 from rfl] at hx290_0)
          (try rw [Addr.add_zero'] at hx290_0)
          replace p290 := eq_true p290
          replace q290 := eq_true q290
          have p291 : 0 ≤ (0 : Int) := (by omega)
          have q291 : 0 < (l1.length : Int) := of_decide_eq_true (by first | (with_reducible assumption) | assumption)
          obtain ⟨ad291, e291, hx291_0⟩ := Kd.zCb HR1.out 0 p291 q291
          have hw291_0 := hx291_0
          (try rw [show ((0 : Int)).toNat = 0 from rfl] at hw291_0)
          (try rw [show 0 * 1 = 0 from rfl] at hw291_0)
          (try rw [Addr.add_zero'] at hw291_0)
          cases e291
          have qi291 : (0 < l1.length) = True := eq_true (by omega)
          (try rw [show ((0 : Int)).toNat = 0 from rfl] at hx291_0)
          (try rw [Addr.add_zero'] at hx291_0)
          replace hx291_0 := (HB.out.cell (World.block_lt_of_cell? w _ hx291_0)).trans hx291_0
          replace p291 := eq_true p291
          replace q291 := eq_true q291
          obtain ⟨Ao19, co19, eo19⟩ := Kd.zC5 HO288.out
          (first | subst eo19 | (injection eo19 with f1_ f2_ f3_; have f4_ := f1_.symm; have f5_ := f3_.symm; clear f1_ f2_ f3_; subst f4_; subst f5_))
          refine start_ (n := 15) (S := fun w' => w'.cell? ⟨gb281, 0, none⟩ = some (.int .i64 a0_0) ∧ w'.cell? ⟨gb281, 1, none⟩ = some (.slice A0_1 l0_1.length c0_1) ∧ w'.cell? (ad285.add (x7_1).toNat) = some (.slice (some ad290) (rd_L6 t282 x7_1).length c289_0) ∧ w'.cell? ad290 = some (.int .i64 (rd (rd_L6 t282 x7_1) 0)) ∧ w'.cell? ad291 = some (.int .i64 (rd l1 0))) (ds := []) #[false, false, false, false, false, false, false, false, false, false, false, false, false, false, false] (by kernel_rfl) rfl rfl ⟨(zA9 BK281.out 0).trans rfl, (zA9 BK281.out 1).trans rfl, hx289_0, hx290_0, ((HB.out.cell (World.block_lt_of_cell? w _ hw291_0)).trans hw291_0)⟩ (fun hHeld => ?_); refine with_tabW zAo.tab7 zAo.bits7 (fun HT_ HW_ => ?_)
          generalize w17.drew = w18 at HO_5 HO_6 HL285_0 HO288 BK281 HR285_0 HB HL289_0 HR289_0 hx289_0 hx290_0 hx291_0 hHeld ⊢
          refine pure_ (i := 0) (N := some 27) (v := ?_) (a' := ?_) #[true, false, false, false, false, false, false, false, false, false, false, false, false, false, false] rfl rfl (zB6 HT_.out (by kernel_rfl)) (fun _ _ _ h => h) (Or.inl ⟨by rfl, ?_⟩) ?_ ?_
          rotate_left
          ·intro w'
           go_simp
           with_reducible rfl
          rotate_left
          ·simp only [Act.put, List.setIfInBounds_toArray, List.set_cons_zero, List.set_cons_succ, i64_w, i32_w]
           rfl
          refine pure_ (i := 1) (N := some 28) (v := ?_) (a' := ?_) #[true, true, false, false, false, false, false, false, false, false, false, false, false, false, false] rfl rfl (zB6 HT_.out (by kernel_rfl)) (fun _ _ _ h => h) (Or.inl ⟨by rfl, ?_⟩) ?_ ?_
          rotate_left
          ·intro w'
           go_simp
           with_reducible rfl
          rotate_left
          ·simp only [Act.put, List.setIfInBounds_toArray, List.set_cons_zero, List.set_cons_succ, i64_w, i32_w]
           rfl
          refine pure_ (i := 2) (N := some 29) (v := ?_) (a' := ?_) #[true, true, true, false, false, false, false, false, false, false, false, false, false, false, false] rfl rfl (zB6 HT_.out (by kernel_rfl)) (fun _ _ _ h => h) (Or.inl ⟨by rfl, ?_⟩) ?_ ?_
          rotate_left
          ·intro w'
           go_simp
           with_reducible rfl
          rotate_left
          ·simp only [Act.put, List.setIfInBounds_toArray, List.set_cons_zero, List.set_cons_succ, i64_w, i32_w]
           rfl
          refine pure_ (i := 6) (N := some 33) (v := ?_) (a' := ?_) #[true, true, true, false, false, false, true, false, false, false, false, false, false, false, false] rfl rfl (zB6 HT_.out (by kernel_rfl)) (fun _ _ _ h => h) (Or.inl ⟨by rfl, ?_⟩) ?_ ?_
          rotate_left
          ·intro w'
           go_simp
           with_reducible rfl
          rotate_left
          ·simp only [Act.put, List.setIfInBounds_toArray, List.set_cons_zero, List.set_cons_succ, i64_w, i32_w]
           rfl
          refine pure_ (i := 7) (N := some 34) (v := ?_) (a' := ?_) #[true, true, true, false, false, false, true, true, false, false, false, false, false, false, false] rfl rfl (zB6 HT_.out (by kernel_rfl)) (fun _ _ _ h => h) (Or.inl ⟨by rfl, ?_⟩) ?_ ?_
          rotate_left
          ·intro w'
           go_simp
           with_reducible rfl
          rotate_left
          ·simp only [Act.put, List.setIfInBounds_toArray, List.set_cons_zero, List.set_cons_succ, i64_w, i32_w]
           rfl
          refine take_ (i := 3) (N := some 30) (v := ?_) (a' := ?_) #[true, true, true, true, false, false, true, true, false, false, false, false, false, false, false] rfl rfl (zBt HT_.out HW_.out (by kernel_rfl)) (fun _ _ _ h => h) (Or.inl ⟨by rfl, ?_⟩) hHeld ?_ ?_
          rotate_left
          ·rintro w' ⟨s0, s1, s2, s3, s4⟩
           go_simp
           with_reducible rfl
          rotate_left
          ·simp only [Act.put, List.setIfInBounds_toArray, List.set_cons_zero, List.set_cons_succ, i64_w, i32_w]
           rfl
          refine pure_ (i := 4) (N := some 31) (v := ?_) (a' := ?_) #[true, true, true, true, true, false, true, true, false, false, false, false, false, false, false] rfl rfl (zB6 HT_.out (by kernel_rfl)) (fun _ _ _ h => h) (Or.inl ⟨by rfl, ?_⟩) ?_ ?_
          rotate_left
          ·intro w'
           go_simp
           with_reducible rfl
          rotate_left
          ·simp only [Act.put, List.setIfInBounds_toArray, List.set_cons_zero, List.set_cons_succ, i64_w, i32_w]
           rfl
          refine take_ (i := 5) (N := some 32) (v := ?_) (a' := ?_) #[true, true, true, true, true, true, true, true, false, false, false, false, false, false, false] rfl rfl (zBt HT_.out HW_.out (by kernel_rfl)) (fun _ _ _ h => h) (Or.inl ⟨by rfl, ?_⟩) hHeld ?_ ?_
          rotate_left
          ·rintro w' ⟨s0, s1, s2, s3, s4⟩
           go_simp
           with_reducible rfl
          rotate_left
          ·simp only [Act.put, List.setIfInBounds_toArray, List.set_cons_zero, List.set_cons_succ, i64_w, i32_w]
           rfl
          refine take_ (i := 8) (N := some 35) (v := ?_) (a' := ?_) #[true, true, true, true, true, true, true, true, true, false, false, false, false, false, false] rfl rfl (zBt HT_.out HW_.out (by kernel_rfl)) (fun _ _ _ h => h) (Or.inl ⟨by rfl, ?_⟩) hHeld ?_ ?_
          rotate_left
          ·rintro w' ⟨s0, s1, s2, s3, s4⟩
           go_simp
           with_reducible rfl
          rotate_left
          ·simp only [Act.put, List.setIfInBounds_toArray, List.set_cons_zero, List.set_cons_succ, i64_w, i32_w]
           rfl
          refine pure_ (i := 9) (N := some 36) (v := ?_) (a' := ?_) #[true, true, true, true, true, true, true, true, true, true, false, false, false, false, false] rfl rfl (zB6 HT_.out (by kernel_rfl)) (fun _ _ _ h => h) (Or.inl ⟨by rfl, ?_⟩) ?_ ?_
          rotate_left
          ·intro w'
           go_simp
           with_reducible rfl
          rotate_left
          ·simp only [Act.put, List.setIfInBounds_toArray, List.set_cons_zero, List.set_cons_succ, i64_w, i32_w]
           rfl
          refine pure_ (i := 10) (N := some 37) (v := ?_) (a' := ?_) #[true, true, true, true, true, true, true, true, true, true, true, false, false, false, false] rfl rfl (zB6 HT_.out (by kernel_rfl)) (fun _ _ _ h => h) (Or.inl ⟨by rfl, ?_⟩) ?_ ?_
          rotate_left
          ·intro w'
           go_simp
           with_reducible rfl
          rotate_left
          ·simp only [Act.put, List.setIfInBounds_toArray, List.set_cons_zero, List.set_cons_succ, i64_w, i32_w]
           rfl
          refine pure_ (i := 12) (N := some 39) (v := ?_) (a' := ?_) #[true, true, true, true, true, true, true, true, true, true, true, false, true, false, false] rfl rfl (zB6 HT_.out (by kernel_rfl)) (fun _ _ _ h => h) (Or.inl ⟨by rfl, ?_⟩) ?_ ?_
          rotate_left
          ·intro w'
           go_simp
           with_reducible rfl
          rotate_left
          ·simp only [Act.put, List.setIfInBounds_toArray, List.set_cons_zero, List.set_cons_succ, i64_w, i32_w]
           rfl
          refine take_ (i := 11) (N := some 38) (v := ?_) (a' := ?_) #[true, true, true, true, true, true, true, true, true, true, true, true, true, false, false] rfl rfl (zBt HT_.out HW_.out (by kernel_rfl)) (fun _ _ _ h => h) (Or.inl ⟨by rfl, ?_⟩) hHeld ?_ ?_
          rotate_left
          ·rintro w' ⟨s0, s1, s2, s3, s4⟩
           go_simp
           with_reducible rfl
          rotate_left
          ·simp only [Act.put, List.setIfInBounds_toArray, List.set_cons_zero, List.set_cons_succ, i64_w, i32_w]
           rfl
          refine one_ (i := 13) (N := some 40) #[true, true, true, true, true, true, true, true, true, true, true, true, true, true, false] rfl rfl (one_of HT_.out (by kernel_rfl)) (by decide) (fun K hK => ?_)
          refine goes_ Tryd.func12 (by kernel_rfl) rfl #[.agg #[.int .i64 a0_0, .slice A0_1 l0_1.length c0_1], .slice Ao19 t286.length co19] (by rfl) rfl rfl (by (try simp only [List.map_toArray, List.map_cons, List.map_nil]); first | done | rfl | (simp only [List.length_drop, List.length_take]; rfl)) ?_
          with_reducible refine (zAm.calls k1 a0_0 _ _ l0_1 _ _ t286 true _ ?side1 ?side2 ?side3 ?side4 A13.out).mono ?_
          (case side1 => repeat (first | exact (Kd.zB1 HR0_1.out HB.out) | (with_reducible refine Kd.zAf ?_ _) | (with_reducible refine Kd.zAk ?_ _) | (with_reducible refine Kd.zAv ?_)))
          (case side2 => exact HC0_1.out)
          (case side3 => repeat (first | exact (Kd.zAw HO288.out).2.2 | (with_reducible refine Kd.zAf ?_ _) | (with_reducible refine Kd.zAk ?_ _) | (with_reducible refine Kd.zAv ?_)))
          (case side4 => exact (Kd.zAw HO288.out).2.1)
          rintro e w20 ⟨rfl, hb⟩
          have HS2_ := (hb.cell (World.block_lt_of_cell? _ _ (hHeld.2.2.1))).trans (hHeld.2.2.1)
          have HS3_ := (hb.cell (World.block_lt_of_cell? _ _ (hHeld.2.2.2.1))).trans (hHeld.2.2.2.1)
          refine ⟨_, rfl, ?_⟩
          have n0_ := zA1.mk (Kd.N_below (by (with_reducible repeat (first | apply Kd.zBm | apply Kd.zBl | apply Kd.zBv)); exact HO_5.out) hb)
          have n1_ := zA1.mk (Kd.N_below (by (with_reducible repeat (first | apply Kd.zBm | apply Kd.zBl | apply Kd.zBv)); exact HO_6.out) hb)
          have n2_ := zA1.mk (Kd.V_below (by (with_reducible repeat (first | apply Kd.V_alloc | apply Kd.V_drewN | apply Kd.V_drew)); exact HL285_0.out) hb)
          have n3_ := zA1.mk (Kd.zBi (by (with_reducible repeat (first | apply Kd.zAi | apply Kd.zAh | apply Kd.zAp)); exact HO288.out) hb)
          have n4_ := zA1.mk (Kd.V_below (by (with_reducible repeat (first | apply Kd.V_alloc | apply Kd.V_drewN | apply Kd.V_drew)); exact HL289_0.out) hb)
          have n5_ := zA1.mk (zAt (g := gb281) (o := .cells #[.int .i64 a0_0, .slice A0_1 l0_1.length c0_1] 28 (0, 0)) (by (with_reducible repeat (first | refine zA6 ?_ _ | refine zA8 ?_ | refine zA5 ?_ _)); exact BK281.out) hb)
          have n6_ := zA1.mk (Kd.zB1 (by repeat (first | (with_reducible exact HR285_0.out) | (with_reducible refine Kd.zAf ?_ _) | (with_reducible refine Kd.zAk ?_ _) | (with_reducible refine Kd.zAv ?_) | exact HR285_0.out)) hb)
          have n7_ := zA1.mk (Kd.zB1 (by repeat (first | (with_reducible exact HR289_0.out) | (with_reducible refine Kd.zAf ?_ _) | (with_reducible refine Kd.zAk ?_ _) | (with_reducible refine Kd.zAv ?_) | exact HR289_0.out)) hb)
          have n8_ := zA1.mk (zAe (by repeat (first | (with_reducible first | exact HB.out | apply zA2 | apply zA0 | apply zA3 | refine zA4 ?_ GE281.out) | exact HB.out)) hb)
          clear HO_5
          clear HO_6
          clear HL285_0
          clear HO288
          clear HL289_0
          clear BK281
          clear HR285_0
          clear HR289_0
          clear HB
          have HO_5 := n0_
          have HO_6 := n1_
          have HL285_0 := n2_
          have HO288 := n3_
          have HL289_0 := n4_
          have BK281 := n5_
          have HR285_0 := n6_
          have HR289_0 := n7_
          have HB := n8_
          clear n0_ n1_ n2_ n3_ n4_ n5_ n6_ n7_ n8_
          (try clear hb)
          (try clear hb2)
          (try clear hk)
          (try clear hi)
          refine hK.out _ _ ⟨(zA9 BK281.out 0).trans rfl, (zA9 BK281.out 1).trans rfl, HS2_, HS3_, ((HB.out.cell (World.block_lt_of_cell? w _ hw291_0)).trans hw291_0)⟩ (fun hHeld => ?_)
          clear hK K
          refine norm_ (a' := ?_) ?_ ?_
          rotate_left
          ·show Act.put _ (some 40) _ = _
           simp only [Act.put, List.setIfInBounds_toArray, List.set_cons_zero, List.set_cons_succ, i64_w, i32_w]
           rfl
          refine pure_ (i := 14) (N := some 41) (v := ?_) (a' := ?_) #[true, true, true, true, true, true, true, true, true, true, true, true, true, true, true] rfl rfl (zB6 HT_.out (by kernel_rfl)) (fun _ _ _ h => h) (Or.inl ⟨by rfl, ?_⟩) ?_ ?_
          rotate_left
          ·intro w'
           go_simp
           with_reducible rfl
          rotate_left
          ·simp only [Act.put, List.setIfInBounds_toArray, List.set_cons_zero, List.set_cons_succ, i64_w, i32_w]
           rfl
          refine done_ (done_of HT_.out (by kernel_rfl)) ?_
          have p293 : 0 ≤ (x7_1 : Int) := of_decide_eq_true (by first | (with_reducible assumption) | assumption)
          have q293 : x7_1 < (t282.length : Int) := of_decide_eq_true (by first | (with_reducible assumption) | assumption)
          obtain ⟨ad293, A293_0, c293_0, e293, hx293_0, hl293_0, hi293_0⟩ := at_L6 (Kd.zBo HO_6.out).2.2 x7_1 p293 q293
          obtain rfl : ad285 = ad293 := (by injection e293)
          obtain ⟨ce293, hce293, hMe293, hcc293⟩ := Kd.N_get HO_6.out [] x7_1 p293 (by first | exact q293 | exact of_decide_eq_true (by first | (with_reducible assumption) | assumption) | (have e_ := (Kd.zBo HO_6.out).1; omega))
          obtain ⟨ua293_0, uc293_0, rfl, ul293_0, ge293_0⟩ := Kd.FK_slice_open hMe293
          have hv293_0 := hcc293 0 _ rfl
          rw [Nat.add_zero, show ((Kd.slice 3 (Kd.int .i64))).sz = 1 from rfl, Nat.mul_one] at hv293_0
          replace hv293_0 := Option.some.inj (hv293_0.symm.trans hx293_0)
          injection hv293_0 with hva_ hvn_ hvc_
          rw [hva_] at ge293_0
          rw [hvc_] at ul293_0
          have HL293_0 := zA1.mk (show Kd.V (Kd.int .i64) 3 _ w.heap.size _ _ (rd_L6 t282 x7_1) from Kd.V_mk ul293_0 ge293_0)
          clear hva_ hvn_ hvc_ ge293_0 ul293_0
          clear hcc293 hce293
          have HR293_0 := zA1.mk hi293_0
          have HC293_0 := zA1.mk hl293_0
          clear hi293_0 hl293_0
          replace p293 := eq_true p293
          replace q293 := eq_true q293
          try go_wp2_with (first | ((with_reducible refine zCg (b := .append) (xs := #[.tmp 42, .tmp 49]) rfl ?_); at_builtin; refine Kd.N_append k41 (w0 := w) w.heap.size rfl (.tmp 42) (.tmp 49) 30 41 (.agg #[(.slice none 0 0), (.slice none 0 0)]) 48 rfl Tryd.underlying30 info41 rfl (by decide) (by omega) u5 x5_1 (⟨rd_L6 t282 x7_1, t286⟩ : S41) [.slice (some ad290) (rd_L6 t282 x7_1).length c289_0, .slice Ao19 t286.length co19] (fun k_ => (w.heap.size ≤ k_) ∧ some k_ ≠ (.slice (some ad285) t282.length co16 : Value).ownBlock ∧ k_ ≠ gb281) (fun k_ => ((fun k_ => (w.heap.size ≤ k_) ∧ some k_ ≠ (.slice (some ad285) t282.length co16 : Value).ownBlock ∧ k_ ≠ gb281)) k_ ∧ some k_ ≠ (u5 : Value).ownBlock) rfl rfl ?aP (fun _ hk => hk) ?aF ?aO ?aB ?aS ?aL ?_; (case aP => exact (k41_mkF _ _ (⟨rd_L6 t282 x7_1, t286⟩ : S41) (Kd.V_reads' (Kd.V_mono (ok' := (fun k_ => ((fun k_ => (w.heap.size ≤ k_) ∧ some k_ ≠ (.slice (some ad285) t282.length co16 : Value).ownBlock ∧ k_ ≠ gb281)) k_ ∧ some k_ ≠ (u5 : Value).ownBlock)) (HL289_0.out) (fun k_ hk => ⟨⟨hk.1.1.1, ⟨hk.2, hk.1.1.2.2⟩⟩, hk.1.1.2.1⟩))).2.1 (Kd.V_F (Kd.V_mono (ok' := (fun k_ => ((fun k_ => (w.heap.size ≤ k_) ∧ some k_ ≠ (.slice (some ad285) t282.length co16 : Value).ownBlock ∧ k_ ≠ gb281)) k_ ∧ some k_ ≠ (u5 : Value).ownBlock)) (HL289_0.out) (fun k_ hk => ⟨⟨hk.1.1.1, ⟨hk.2, hk.1.1.2.2⟩⟩, hk.1.1.2.1⟩))) (Kd.zAw (Kd.zC3 (ok' := (fun k_ => ((fun k_ => (w.heap.size ≤ k_) ∧ some k_ ≠ (.slice (some ad285) t282.length co16 : Value).ownBlock ∧ k_ ≠ gb281)) k_ ∧ some k_ ≠ (u5 : Value).ownBlock)) (Kd.zCa (Kd.R_apart' (Kd.R_apart' (HO288.out) (Kd.N_typed HO_6.out) (by decide)) (Kd.N_typed HO_5.out) (by decide)) BK281.out (by decide)) (fun k_ hk => ⟨⟨hk.1.1.1.1, ⟨hk.1.1.2, hk.2⟩⟩, hk.1.2⟩))).2.1 (Kd.R_F (Kd.zC3 (ok' := (fun k_ => ((fun k_ => (w.heap.size ≤ k_) ∧ some k_ ≠ (.slice (some ad285) t282.length co16 : Value).ownBlock ∧ k_ ≠ gb281)) k_ ∧ some k_ ≠ (u5 : Value).ownBlock)) (Kd.zCa (Kd.R_apart' (Kd.R_apart' (HO288.out) (Kd.N_typed HO_6.out) (by decide)) (Kd.N_typed HO_5.out) (by decide)) BK281.out (by decide)) (fun k_ hk => ⟨⟨hk.1.1.1.1, ⟨hk.1.1.2, hk.2⟩⟩, hk.1.2⟩))))); (case aB => exact (by repeat (first | (with_reducible first | exact HB.out | apply zA2 | apply zA0 | apply zA3 | refine zA4 ?_ GE281.out) | exact HB.out))); (case aF => exact (fun k_ hk => ⟨(Nat.le_trans (zAb (by repeat (first | (with_reducible first | exact HB.out | apply zA2 | apply zA0 | apply zA3 | refine zA4 ?_ GE281.out) | exact HB.out))) hk), Kd.fresh' (Kd.N_lt (by (with_reducible repeat (first | apply Kd.zBm | apply Kd.zBl | apply Kd.zBv)); exact HO_6.out)) k_ hk, Kd.freshB (g := gb281) (o := .cells #[.int .i64 a0_0, .slice A0_1 l0_1.length c0_1] 28 (0, 0)) (by (with_reducible repeat (first | refine zA6 ?_ _ | refine zA8 ?_ | refine zA5 ?_ _)); exact BK281.out) k_ hk⟩)); (case aO => exact (by (with_reducible repeat (first | apply Kd.zBm | apply Kd.zBl | apply Kd.zBv)); exact Kd.N_mono HO_5.out (fun _ hk => ⟨hk.1.1, ⟨hk.1.2.1, hk.1.2.2⟩⟩))); (case aS => exact (zAb (by repeat (first | (with_reducible first | exact HB.out | apply zA2 | apply zA0 | apply zA3 | refine zA4 ?_ GE281.out) | exact HB.out)))); (case aL => have := LMc15.out; omega); intro v295 w21 ho hb hg hat; rw [← Ny294.out] at ho; have n0_ := zA1.mk (Kd.N_afterv (ok := (fun k_ => (w.heap.size ≤ k_) ∧ some k_ ≠ (.slice Ao19 t286.length co19 : Value).ownBlock ∧ k_ ≠ gb281)) (by (with_reducible repeat (first | apply Kd.zBm | apply Kd.zBl | apply Kd.zBv)); exact Kd.N_mono HO_6.out (fun _ hk => ⟨⟨hk.1.1, ⟨hk.2, hk.1.2.2⟩⟩, hk.1.2.1⟩)) hg hat); have n1_ := zA1.mk (blk_grown (g := gb281) (o := .cells #[.int .i64 a0_0, .slice A0_1 l0_1.length c0_1] 28 (0, 0)) (by (with_reducible repeat (first | refine zA6 ?_ _ | refine zA8 ?_ | refine zA5 ?_ _)); exact BK281.out) hg (Kd.N_ne HO_5.out BK281.out (by decide))); have n2_ := zA1.mk (Kd.V_afterv (ok := (fun k_ => (w.heap.size ≤ k_) ∧ some k_ ≠ (.slice (some ad285) t282.length co16 : Value).ownBlock ∧ some k_ ≠ (.slice Ao19 t286.length co19 : Value).ownBlock ∧ k_ ≠ gb281)) (by (with_reducible repeat (first | apply Kd.V_alloc | apply Kd.V_drewN | apply Kd.V_drew)); exact Kd.V_mono HL285_0.out (fun _ hk => ⟨⟨hk.1.1.1, ⟨hk.1.2, ⟨hk.2, hk.1.1.2.2⟩⟩⟩, hk.1.1.2.1⟩)) hg hat); have n3_ := zA1.mk (Kd.V_afterv (ok := (fun k_ => (w.heap.size ≤ k_) ∧ some k_ ≠ (.slice (some ad285) t282.length co16 : Value).ownBlock ∧ some k_ ≠ (.slice Ao19 t286.length co19 : Value).ownBlock ∧ k_ ≠ gb281)) (by (with_reducible repeat (first | apply Kd.V_alloc | apply Kd.V_drewN | apply Kd.V_drew)); exact Kd.V_mono HL289_0.out (fun _ hk => ⟨⟨hk.1.1.1, ⟨hk.2, ⟨hk.1.2, hk.1.1.2.2⟩⟩⟩, hk.1.1.2.1⟩)) hg hat); have n4_ := zA1.mk (Kd.V_afterv (ok := (fun k_ => (w.heap.size ≤ k_) ∧ some k_ ≠ (.slice (some ad285) t282.length co16 : Value).ownBlock ∧ some k_ ≠ (.slice Ao19 t286.length co19 : Value).ownBlock ∧ k_ ≠ gb281)) (by (with_reducible repeat (first | apply Kd.V_alloc | apply Kd.V_drewN | apply Kd.V_drew)); exact Kd.V_mono HL293_0.out (fun _ hk => ⟨⟨hk.1.1.1, ⟨hk.2, ⟨hk.1.2, hk.1.1.2.2⟩⟩⟩, hk.1.1.2.1⟩)) hg hat); have n5_ := zA1.mk (hb); have n6_ := zA1.mk (ho); clear HO_6; clear BK281; clear HL285_0; clear HL289_0; clear HL293_0; clear HB; clear HO_5; clear HO288; have HO_6 := n0_; have BK281 := n1_; have HL285_0 := n2_; have HL289_0 := n3_; have HL293_0 := n4_; have HB := n5_; have HO296 := n6_; clear n0_ n1_ n2_ n3_ n4_ n5_ n6_; clear ho hb hg hat))
          go_roundg k1
          case measure => have := HK1.out; omega
          case rel => exact ⟨(y294), (wrap64 (x7_1 + 1)), (by first | rfl | (simp; done) | (simp [*]; done)), H', ⟨by have := HK1.out; omega⟩, ⟨by (with_reducible repeat (first | apply Kd.zBm | apply Kd.zBl | apply Kd.zBv)); exact HO296.out⟩, ⟨by (with_reducible repeat (first | apply Kd.zBm | apply Kd.zBl | apply Kd.zBv)); exact Kd.N_mono HO_6.out (fun _ hk => ⟨hk.1.1, ⟨hk.2, hk.1.2.2⟩⟩)⟩, ⟨by (with_reducible repeat (first | refine zA6 ?_ _ | refine zA8 ?_ | refine zA5 ?_ _)); exact BK281.out⟩, ⟨by repeat (first | (with_reducible first | exact HB.out | apply zA2 | apply zA0 | apply zA3 | refine zA4 ?_ GE281.out) | exact HB.out)⟩⟩
         ·rw [if_neg c15] at H
          exact absurd H (by simp)
        ·replace c14 := Bool.eq_false_iff.mpr c14
         subst c14
         have H1 : (zAo.l0 k1 l1 x5_1 t282 (wrap64 (x7_1 + 1)) a0_0 l0_1) = some r := by rw [if_neg (show ¬ (false = true) by decide)] at H; exact H
         clear H
         have H := H1
         clear H1
         have H' := zA1.mk H
         clear H
         obtain ⟨Ao22, co22, eo22⟩ := Kd.N_slice HO_6.out
         subst eo22
         have p285 : 0 ≤ (x7_1 : Int) := of_decide_eq_true (by first | (with_reducible assumption) | assumption)
         have q285 : x7_1 < (t282.length : Int) := of_decide_eq_true (by first | (with_reducible assumption) | assumption)
         obtain ⟨ad285, A285_0, c285_0, e285, hx285_0, hl285_0, hi285_0⟩ := at_L6 (Kd.zBo HO_6.out).2.2 x7_1 p285 q285
         cases e285
         obtain ⟨ce285, hce285, hMe285, hcc285⟩ := Kd.N_get HO_6.out [] x7_1 p285 (by first | exact q285 | exact of_decide_eq_true (by first | (with_reducible assumption) | assumption) | (have e_ := (Kd.zBo HO_6.out).1; omega))
         obtain ⟨ua285_0, uc285_0, rfl, ul285_0, ge285_0⟩ := Kd.FK_slice_open hMe285
         have hv285_0 := hcc285 0 _ rfl
         rw [Nat.add_zero, show ((Kd.slice 3 (Kd.int .i64))).sz = 1 from rfl, Nat.mul_one] at hv285_0
         replace hv285_0 := Option.some.inj (hv285_0.symm.trans hx285_0)
         injection hv285_0 with hva_ hvn_ hvc_
         rw [hva_] at ge285_0
         rw [hvc_] at ul285_0
         have HL285_0 := zA1.mk (show Kd.V (Kd.int .i64) 3 _ w.heap.size _ _ (rd_L6 t282 x7_1) from Kd.V_mk ul285_0 ge285_0)
         clear hva_ hvn_ hvc_ ge285_0 ul285_0
         clear hcc285 hce285
         have HR285_0 := zA1.mk hi285_0
         have HC285_0 := zA1.mk hl285_0
         clear hi285_0 hl285_0
         replace p285 := eq_true p285
         replace q285 := eq_true q285
         try go_wp2_with (first | ((with_reducible refine zBc (f := 43) rfl ?_); refine zCf (some 26) rfl rfl Tryd.func43 (by kernel_rfl) rfl #[.slice A1 l1.length c1, .slice A285_0 (rd_L6 t282 x7_1).length c285_0] rfl (by (try simp only [List.map_toArray, List.map_cons, List.map_nil]); first | done | rfl | (simp only [List.length_drop, List.length_take]; rfl)) ?_; (with_reducible refine (zAu.calls k1 _ _ l1 _ _ (rd_L6 t282 x7_1) t286 _ ?side1 ?side2 ?side3 ?side4 A9.out).mono ?_); (case side1 => repeat (first | exact (Kd.zB1 HR1.out HB.out) | (with_reducible refine Kd.zAf ?_ _) | (with_reducible refine Kd.zAk ?_ _) | (with_reducible refine Kd.zAv ?_))); (case side2 => exact HC1.out); (case side3 => repeat (first | exact (by repeat (first | (with_reducible exact HR285_0.out) | (with_reducible refine Kd.zAf ?_ _) | (with_reducible refine Kd.zAk ?_ _) | (with_reducible refine Kd.zAv ?_) | exact HR285_0.out)) | (with_reducible refine Kd.zAf ?_ _) | (with_reducible refine Kd.zAk ?_ _) | (with_reducible refine Kd.zAv ?_))); (case side4 => exact HC285_0.out); rintro e w23 ⟨v287, rfl, ho0, hb⟩; refine ⟨_, rfl, ?_⟩; have n0_ := zA1.mk (Kd.N_elder' (by (with_reducible repeat (first | apply Kd.zBm | apply Kd.zBl | apply Kd.zBv)); exact HO_5.out) (Kd.R_base ho0) hb); have n1_ := zA1.mk (Kd.N_elder' (by (with_reducible repeat (first | apply Kd.zBm | apply Kd.zBl | apply Kd.zBv)); exact HO_6.out) (Kd.R_base ho0) hb); have n2_ := zA1.mk (Kd.V_elder' (by (with_reducible repeat (first | apply Kd.V_alloc | apply Kd.V_drewN | apply Kd.V_drew)); exact HL285_0.out) (Kd.R_base ho0) hb); have n3_ := zA1.mk (Kd.zCk (Kd.R_newM (M := fun k_ => (w.heap.size ≤ k_)) ho0 (zAb (by repeat (first | (with_reducible first | exact HB.out | apply zA2 | apply zA0 | apply zA3 | refine zA4 ?_ GE281.out) | exact HB.out))) (fun k_ h_ => h_)) (zAb (by repeat (first | (with_reducible first | exact HB.out | apply zA2 | apply zA0 | apply zA3 | refine zA4 ?_ GE281.out) | exact HB.out)))); have n4_ := zA1.mk (zAt (g := gb281) (o := .cells #[.int .i64 a0_0, .slice A0_1 l0_1.length c0_1] 28 (0, 0)) (by (with_reducible repeat (first | refine zA6 ?_ _ | refine zA8 ?_ | refine zA5 ?_ _)); exact BK281.out) hb); have n5_ := zA1.mk (Kd.zB1 (by repeat (first | (with_reducible exact HR285_0.out) | (with_reducible refine Kd.zAf ?_ _) | (with_reducible refine Kd.zAk ?_ _) | (with_reducible refine Kd.zAv ?_) | exact HR285_0.out)) hb); have n6_ := zA1.mk (zAe (by repeat (first | (with_reducible first | exact HB.out | apply zA2 | apply zA0 | apply zA3 | refine zA4 ?_ GE281.out) | exact HB.out)) hb); clear HO_5; clear HO_6; clear HL285_0; clear BK281; clear HR285_0; clear HB; have HO_5 := n0_; have HO_6 := n1_; have HL285_0 := n2_; have HO288 := n3_; have BK281 := n4_; have HR285_0 := n5_; have HB := n6_; clear n0_ n1_ n2_ n3_ n4_ n5_ n6_; (try clear hb); (try clear hb2); (try clear hk); (try clear hi); (try clear ho0)))
         have n0_ := zA1.mk (Kd.zBv HO_5.out)
         have n1_ := zA1.mk (Kd.zBv HO_6.out)
         have n2_ := zA1.mk (Kd.V_drew HL285_0.out)
         have n3_ := zA1.mk (Kd.zAp HO288.out)
         have n4_ := zA1.mk (zA8 BK281.out)
         have n5_ := zA1.mk (Kd.zAv HR285_0.out)
         have n6_ := zA1.mk (zA3 HB.out)
         clear HO_5
         clear HO_6
         clear HL285_0
         clear HO288
         clear BK281
         clear HR285_0
         clear HB
         have HO_5 := n0_
         have HO_6 := n1_
         have HL285_0 := n2_
         have HO288 := n3_
         have BK281 := n4_
         have HR285_0 := n5_
         have HB := n6_
         clear n0_ n1_ n2_ n3_ n4_ n5_ n6_
         have p289 : 0 ≤ (x7_1 : Int) := of_decide_eq_true (by first | (with_reducible assumption) | assumption)
         have q289 : x7_1 < (t282.length : Int) := of_decide_eq_true (by first | (with_reducible assumption) | assumption)
         obtain ⟨ad289, A289_0, c289_0, e289, hx289_0, hl289_0, hi289_0⟩ := at_L6 (Kd.zBo HO_6.out).2.2 x7_1 p289 q289
         obtain rfl : ad285 = ad289 := (by injection e289)
         obtain ⟨ce289, hce289, hMe289, hcc289⟩ := Kd.N_get HO_6.out [] x7_1 p289 (by first | exact q289 | exact of_decide_eq_true (by first | (with_reducible assumption) | assumption) | (have e_ := (Kd.zBo HO_6.out).1; omega))
         obtain ⟨ua289_0, uc289_0, rfl, ul289_0, ge289_0⟩ := Kd.FK_slice_open hMe289
         have hv289_0 := hcc289 0 _ rfl
         rw [Nat.add_zero, show ((Kd.slice 3 (Kd.int .i64))).sz = 1 from rfl, Nat.mul_one] at hv289_0
         replace hv289_0 := Option.some.inj (hv289_0.symm.trans hx289_0)
         injection hv289_0 with hva_ hvn_ hvc_
         rw [hva_] at ge289_0
         rw [hvc_] at ul289_0
         have HL289_0 := zA1.mk (show Kd.V (Kd.int .i64) 3 _ w.heap.size _ _ (rd_L6 t282 x7_1) from Kd.V_mk ul289_0 ge289_0)
         clear hva_ hvn_ hvc_ ge289_0 ul289_0
         clear hcc289 hce289
         have HR289_0 := zA1.mk hi289_0
         have HC289_0 := zA1.mk hl289_0
         clear hi289_0 hl289_0
         replace p289 := eq_true p289
         replace q289 := eq_true q289
         have p290 : 0 ≤ (0 : Int) := (by omega)
         have q290 : 0 < ((rd_L6 t282 x7_1).length : Int) := of_decide_eq_true (by first | (with_reducible assumption) | assumption)
         obtain ⟨ad290, e290, hx290_0⟩ := Kd.zCb (by repeat (first | (with_reducible exact HR289_0.out) | (with_reducible refine Kd.zAf ?_ _) | (with_reducible refine Kd.zAk ?_ _) | (with_reducible refine Kd.zAv ?_) | exact HR289_0.out)) 0 p290 q290
         cases e290
         have qi290 : (0 < (rd_L6 t282 x7_1).length) = True := eq_true (by omega)
         (try rw [show ((0 : Int)).toNat = 0 from rfl] at hx290_0)
         (try rw [Addr.add_zero'] at hx290_0)
         replace p290 := eq_true p290
         replace q290 := eq_true q290
         have p291 : 0 ≤ (0 : Int) := (by omega)
         have q291 : 0 < (l1.length : Int) := of_decide_eq_true (by first | (with_reducible assumption) | assumption)
         obtain ⟨ad291, e291, hx291_0⟩ := Kd.zCb HR1.out 0 p291 q291
         have hw291_0 := hx291_0
         (try rw [show ((0 : Int)).toNat = 0 from rfl] at hw291_0)
         (try rw [show 0 * 1 = 0 from rfl] at hw291_0)
         (try rw [Addr.add_zero'] at hw291_0)
         cases e291
         have qi291 : (0 < l1.length) = True := eq_true (by omega)
         (try rw [show ((0 : Int)).toNat = 0 from rfl] at hx291_0)
         (try rw [Addr.add_zero'] at hx291_0)
         replace hx291_0 := (HB.out.cell (World.block_lt_of_cell? w _ hx291_0)).trans hx291_0
         replace p291 := eq_true p291
         replace q291 := eq_true q291
         obtain ⟨Ao25, co25, eo25⟩ := Kd.zC5 HO288.out
         (first | subst eo25 | (injection eo25 with f1_ f2_ f3_; have f4_ := f1_.symm; have f5_ := f3_.symm; clear f1_ f2_ f3_; subst f4_; subst f5_))
         refine start_ (n := 15) (S := fun w' => w'.cell? ⟨gb281, 0, none⟩ = some (.int .i64 a0_0) ∧ w'.cell? ⟨gb281, 1, none⟩ = some (.slice A0_1 l0_1.length c0_1) ∧ w'.cell? (ad285.add (x7_1).toNat) = some (.slice (some ad290) (rd_L6 t282 x7_1).length c289_0) ∧ w'.cell? ad290 = some (.int .i64 (rd (rd_L6 t282 x7_1) 0)) ∧ w'.cell? ad291 = some (.int .i64 (rd l1 0))) (ds := []) #[false, false, false, false, false, false, false, false, false, false, false, false, false, false, false] (by kernel_rfl) rfl rfl ⟨(zA9 BK281.out 0).trans rfl, (zA9 BK281.out 1).trans rfl, hx289_0, hx290_0, ((HB.out.cell (World.block_lt_of_cell? w _ hw291_0)).trans hw291_0)⟩ (fun hHeld => ?_); refine with_tabW zAo.tab7 zAo.bits7 (fun HT_ HW_ => ?_)
         generalize w23.drew = w24 at HO_5 HO_6 HL285_0 HO288 BK281 HR285_0 HB HL289_0 HR289_0 hx289_0 hx290_0 hx291_0 hHeld ⊢
         refine pure_ (i := 0) (N := some 27) (v := ?_) (a' := ?_) #[true, false, false, false, false, false, false, false, false, false, false, false, false, false, false] rfl rfl (zB6 HT_.out (by kernel_rfl)) (fun _ _ _ h => h) (Or.inl ⟨by rfl, ?_⟩) ?_ ?_
         rotate_left
         ·intro w'
          go_simp
          with_reducible rfl
         rotate_left
         ·simp only [Act.put, List.setIfInBounds_toArray, List.set_cons_zero, List.set_cons_succ, i64_w, i32_w]
          rfl
         refine pure_ (i := 1) (N := some 28) (v := ?_) (a' := ?_) #[true, true, false, false, false, false, false, false, false, false, false, false, false, false, false] rfl rfl (zB6 HT_.out (by kernel_rfl)) (fun _ _ _ h => h) (Or.inl ⟨by rfl, ?_⟩) ?_ ?_
         rotate_left
         ·intro w'
          go_simp
          with_reducible rfl
         rotate_left
         ·simp only [Act.put, List.setIfInBounds_toArray, List.set_cons_zero, List.set_cons_succ, i64_w, i32_w]
          rfl
         refine pure_ (i := 2) (N := some 29) (v := ?_) (a' := ?_) #[true, true, true, false, false, false, false, false, false, false, false, false, false, false, false] rfl rfl (zB6 HT_.out (by kernel_rfl)) (fun _ _ _ h => h) (Or.inl ⟨by rfl, ?_⟩) ?_ ?_
         rotate_left
         ·intro w'
          go_simp
          with_reducible rfl
         rotate_left
         ·simp only [Act.put, List.setIfInBounds_toArray, List.set_cons_zero, List.set_cons_succ, i64_w, i32_w]
          rfl
         refine pure_ (i := 6) (N := some 33) (v := ?_) (a' := ?_) #[true, true, true, false, false, false, true, false, false, false, false, false, false, false, false] rfl rfl (zB6 HT_.out (by kernel_rfl)) (fun _ _ _ h => h) (Or.inl ⟨by rfl, ?_⟩) ?_ ?_
         rotate_left
         ·intro w'
          go_simp
          with_reducible rfl
         rotate_left
         ·simp only [Act.put, List.setIfInBounds_toArray, List.set_cons_zero, List.set_cons_succ, i64_w, i32_w]
          rfl
         refine pure_ (i := 7) (N := some 34) (v := ?_) (a' := ?_) #[true, true, true, false, false, false, true, true, false, false, false, false, false, false, false] rfl rfl (zB6 HT_.out (by kernel_rfl)) (fun _ _ _ h => h) (Or.inl ⟨by rfl, ?_⟩) ?_ ?_
         rotate_left
         ·intro w'
          go_simp
          with_reducible rfl
         rotate_left
         ·simp only [Act.put, List.setIfInBounds_toArray, List.set_cons_zero, List.set_cons_succ, i64_w, i32_w]
          rfl
         refine take_ (i := 3) (N := some 30) (v := ?_) (a' := ?_) #[true, true, true, true, false, false, true, true, false, false, false, false, false, false, false] rfl rfl (zBt HT_.out HW_.out (by kernel_rfl)) (fun _ _ _ h => h) (Or.inl ⟨by rfl, ?_⟩) hHeld ?_ ?_
         rotate_left
         ·rintro w' ⟨s0, s1, s2, s3, s4⟩
          go_simp
          with_reducible rfl
         rotate_left
         ·simp only [Act.put, List.setIfInBounds_toArray, List.set_cons_zero, List.set_cons_succ, i64_w, i32_w]
          rfl
         refine pure_ (i := 4) (N := some 31) (v := ?_) (a' := ?_) #[true, true, true, true, true, false, true, true, false, false, false, false, false, false, false] rfl rfl (zB6 HT_.out (by kernel_rfl)) (fun _ _ _ h => h) (Or.inl ⟨by rfl, ?_⟩) ?_ ?_
         rotate_left
         ·intro w'
          go_simp
          with_reducible rfl
         rotate_left
         ·simp only [Act.put, List.setIfInBounds_toArray, List.set_cons_zero, List.set_cons_succ, i64_w, i32_w]
          rfl
         refine take_ (i := 5) (N := some 32) (v := ?_) (a' := ?_) #[true, true, true, true, true, true, true, true, false, false, false, false, false, false, false] rfl rfl (zBt HT_.out HW_.out (by kernel_rfl)) (fun _ _ _ h => h) (Or.inl ⟨by rfl, ?_⟩) hHeld ?_ ?_
         rotate_left
         ·rintro w' ⟨s0, s1, s2, s3, s4⟩
          go_simp
          with_reducible rfl
         rotate_left
         ·simp only [Act.put, List.setIfInBounds_toArray, List.set_cons_zero, List.set_cons_succ, i64_w, i32_w]
          rfl
         refine take_ (i := 8) (N := some 35) (v := ?_) (a' := ?_) #[true, true, true, true, true, true, true, true, true, false, false, false, false, false, false] rfl rfl (zBt HT_.out HW_.out (by kernel_rfl)) (fun _ _ _ h => h) (Or.inl ⟨by rfl, ?_⟩) hHeld ?_ ?_
         rotate_left
         ·rintro w' ⟨s0, s1, s2, s3, s4⟩
          go_simp
          with_reducible rfl
         rotate_left
         ·simp only [Act.put, List.setIfInBounds_toArray, List.set_cons_zero, List.set_cons_succ, i64_w, i32_w]
          rfl
         refine pure_ (i := 9) (N := some 36) (v := ?_) (a' := ?_) #[true, true, true, true, true, true, true, true, true, true, false, false, false, false, false] rfl rfl (zB6 HT_.out (by kernel_rfl)) (fun _ _ _ h => h) (Or.inl ⟨by rfl, ?_⟩) ?_ ?_
         rotate_left
         ·intro w'
          go_simp
          with_reducible rfl
         rotate_left
         ·simp only [Act.put, List.setIfInBounds_toArray, List.set_cons_zero, List.set_cons_succ, i64_w, i32_w]
          rfl
         refine pure_ (i := 10) (N := some 37) (v := ?_) (a' := ?_) #[true, true, true, true, true, true, true, true, true, true, true, false, false, false, false] rfl rfl (zB6 HT_.out (by kernel_rfl)) (fun _ _ _ h => h) (Or.inl ⟨by rfl, ?_⟩) ?_ ?_
         rotate_left
         ·intro w'
          go_simp
          with_reducible rfl
         rotate_left
         ·simp only [Act.put, List.setIfInBounds_toArray, List.set_cons_zero, List.set_cons_succ, i64_w, i32_w]
          rfl
         refine pure_ (i := 12) (N := some 39) (v := ?_) (a' := ?_) #[true, true, true, true, true, true, true, true, true, true, true, false, true, false, false] rfl rfl (zB6 HT_.out (by kernel_rfl)) (fun _ _ _ h => h) (Or.inl ⟨by rfl, ?_⟩) ?_ ?_
         rotate_left
         ·intro w'
          go_simp
          with_reducible rfl
         rotate_left
         ·simp only [Act.put, List.setIfInBounds_toArray, List.set_cons_zero, List.set_cons_succ, i64_w, i32_w]
          rfl
         refine take_ (i := 11) (N := some 38) (v := ?_) (a' := ?_) #[true, true, true, true, true, true, true, true, true, true, true, true, true, false, false] rfl rfl (zBt HT_.out HW_.out (by kernel_rfl)) (fun _ _ _ h => h) (Or.inl ⟨by rfl, ?_⟩) hHeld ?_ ?_
         rotate_left
         ·rintro w' ⟨s0, s1, s2, s3, s4⟩
          go_simp
          with_reducible rfl
         rotate_left
         ·simp only [Act.put, List.setIfInBounds_toArray, List.set_cons_zero, List.set_cons_succ, i64_w, i32_w]
          rfl
         refine one_ (i := 13) (N := some 40) #[true, true, true, true, true, true, true, true, true, true, true, true, true, true, false] rfl rfl (one_of HT_.out (by kernel_rfl)) (by decide) (fun K hK => ?_)
         refine goes_ Tryd.func12 (by kernel_rfl) rfl #[.agg #[.int .i64 a0_0, .slice A0_1 l0_1.length c0_1], .slice Ao25 t286.length co25] (by rfl) rfl rfl (by (try simp only [List.map_toArray, List.map_cons, List.map_nil]); first | done | rfl | (simp only [List.length_drop, List.length_take]; rfl)) ?_
         with_reducible refine (zAm.calls k1 a0_0 _ _ l0_1 _ _ t286 false _ ?side1 ?side2 ?side3 ?side4 A13.out).mono ?_
         (case side1 => repeat (first | exact (Kd.zB1 HR0_1.out HB.out) | (with_reducible refine Kd.zAf ?_ _) | (with_reducible refine Kd.zAk ?_ _) | (with_reducible refine Kd.zAv ?_)))
         (case side2 => exact HC0_1.out)
         (case side3 => repeat (first | exact (Kd.zAw HO288.out).2.2 | (with_reducible refine Kd.zAf ?_ _) | (with_reducible refine Kd.zAk ?_ _) | (with_reducible refine Kd.zAv ?_)))
         (case side4 => exact (Kd.zAw HO288.out).2.1)
         rintro e w26 ⟨rfl, hb⟩
         have HS2_ := (hb.cell (World.block_lt_of_cell? _ _ (hHeld.2.2.1))).trans (hHeld.2.2.1)
         have HS3_ := (hb.cell (World.block_lt_of_cell? _ _ (hHeld.2.2.2.1))).trans (hHeld.2.2.2.1)
         refine ⟨_, rfl, ?_⟩
         have n0_ := zA1.mk (Kd.N_below (by (with_reducible repeat (first | apply Kd.zBm | apply Kd.zBl | apply Kd.zBv)); exact HO_5.out) hb)
         have n1_ := zA1.mk (Kd.N_below (by (with_reducible repeat (first | apply Kd.zBm | apply Kd.zBl | apply Kd.zBv)); exact HO_6.out) hb)
         have n2_ := zA1.mk (Kd.V_below (by (with_reducible repeat (first | apply Kd.V_alloc | apply Kd.V_drewN | apply Kd.V_drew)); exact HL285_0.out) hb)
         have n3_ := zA1.mk (Kd.zBi (by (with_reducible repeat (first | apply Kd.zAi | apply Kd.zAh | apply Kd.zAp)); exact HO288.out) hb)
         have n4_ := zA1.mk (Kd.V_below (by (with_reducible repeat (first | apply Kd.V_alloc | apply Kd.V_drewN | apply Kd.V_drew)); exact HL289_0.out) hb)
         have n5_ := zA1.mk (zAt (g := gb281) (o := .cells #[.int .i64 a0_0, .slice A0_1 l0_1.length c0_1] 28 (0, 0)) (by (with_reducible repeat (first | refine zA6 ?_ _ | refine zA8 ?_ | refine zA5 ?_ _)); exact BK281.out) hb)
         have n6_ := zA1.mk (Kd.zB1 (by repeat (first | (with_reducible exact HR285_0.out) | (with_reducible refine Kd.zAf ?_ _) | (with_reducible refine Kd.zAk ?_ _) | (with_reducible refine Kd.zAv ?_) | exact HR285_0.out)) hb)
         have n7_ := zA1.mk (Kd.zB1 (by repeat (first | (with_reducible exact HR289_0.out) | (with_reducible refine Kd.zAf ?_ _) | (with_reducible refine Kd.zAk ?_ _) | (with_reducible refine Kd.zAv ?_) | exact HR289_0.out)) hb)
         have n8_ := zA1.mk (zAe (by repeat (first | (with_reducible first | exact HB.out | apply zA2 | apply zA0 | apply zA3 | refine zA4 ?_ GE281.out) | exact HB.out)) hb)
         clear HO_5
         clear HO_6
         clear HL285_0
         clear HO288
         clear HL289_0
         clear BK281
         clear HR285_0
         clear HR289_0
         clear HB
         have HO_5 := n0_
         have HO_6 := n1_
         have HL285_0 := n2_
         have HO288 := n3_
         have HL289_0 := n4_
         have BK281 := n5_
         have HR285_0 := n6_
         have HR289_0 := n7_
         have HB := n8_
         clear n0_ n1_ n2_ n3_ n4_ n5_ n6_ n7_ n8_
         (try clear hb)
         (try clear hb2)
         (try clear hk)
         (try clear hi)
         refine hK.out _ _ ⟨(zA9 BK281.out 0).trans rfl, (zA9 BK281.out 1).trans rfl, HS2_, HS3_, ((HB.out.cell (World.block_lt_of_cell? w _ hw291_0)).trans hw291_0)⟩ (fun hHeld => ?_)
         clear hK K
         refine norm_ (a' := ?_) ?_ ?_
         rotate_left
         ·show Act.put _ (some 40) _ = _
          simp only [Act.put, List.setIfInBounds_toArray, List.set_cons_zero, List.set_cons_succ, i64_w, i32_w]
          rfl
         refine pure_ (i := 14) (N := some 41) (v := ?_) (a' := ?_) #[true, true, true, true, true, true, true, true, true, true, true, true, true, true, true] rfl rfl (zB6 HT_.out (by kernel_rfl)) (fun _ _ _ h => h) (Or.inl ⟨by rfl, ?_⟩) ?_ ?_
         rotate_left
         ·intro w'
          go_simp
          with_reducible rfl
         rotate_left
         ·simp only [Act.put, List.setIfInBounds_toArray, List.set_cons_zero, List.set_cons_succ, i64_w, i32_w]
          rfl
         refine done_ (done_of HT_.out (by kernel_rfl)) ?_
         try go_wp2
         go_roundg k1
         case measure => have := HK1.out; omega
         case rel => exact ⟨(x5_1), (wrap64 (x7_1 + 1)), (by first | rfl | (simp; done) | (simp [*]; done)), H', ⟨by have := HK1.out; omega⟩, ⟨by (with_reducible repeat (first | apply Kd.zBm | apply Kd.zBl | apply Kd.zBv)); exact Kd.N_mono HO_5.out (fun _ hk => ⟨hk.1.1, ⟨hk.1.2.1, hk.1.2.2⟩⟩)⟩, ⟨by (with_reducible repeat (first | apply Kd.zBm | apply Kd.zBl | apply Kd.zBv)); exact Kd.N_mono HO_6.out (fun _ hk => ⟨hk.1.1, ⟨hk.1.2.1, hk.1.2.2⟩⟩)⟩, ⟨by (with_reducible repeat (first | refine zA6 ?_ _ | refine zA8 ?_ | refine zA5 ?_ _)); exact BK281.out⟩, ⟨by repeat (first | (with_reducible first | exact HB.out | apply zA2 | apply zA0 | apply zA3 | refine zA4 ?_ GE281.out) | exact HB.out)⟩⟩
       ·rw [if_neg c12] at H
        have c12b0 : ((rd (rd_L6 t282 x7_1) 0) == (rd l1 0)) = false := beq_eq_false_iff_ne.mpr c12
        have c12b1 : ((rd (rd_L6 t282 x7_1) 0) != (rd l1 0)) = true := bne_iff_ne.mpr c12
        have H' := zA1.mk H
        clear H
        obtain ⟨Ao27, co27, eo27⟩ := Kd.N_slice HO_6.out
        subst eo27
        have p285 : 0 ≤ (x7_1 : Int) := of_decide_eq_true (by first | (with_reducible assumption) | assumption)
        have q285 : x7_1 < (t282.length : Int) := of_decide_eq_true (by first | (with_reducible assumption) | assumption)
        obtain ⟨ad285, A285_0, c285_0, e285, hx285_0, hl285_0, hi285_0⟩ := at_L6 (Kd.zBo HO_6.out).2.2 x7_1 p285 q285
        cases e285
        obtain ⟨ce285, hce285, hMe285, hcc285⟩ := Kd.N_get HO_6.out [] x7_1 p285 (by first | exact q285 | exact of_decide_eq_true (by first | (with_reducible assumption) | assumption) | (have e_ := (Kd.zBo HO_6.out).1; omega))
        obtain ⟨ua285_0, uc285_0, rfl, ul285_0, ge285_0⟩ := Kd.FK_slice_open hMe285
        have hv285_0 := hcc285 0 _ rfl
        rw [Nat.add_zero, show ((Kd.slice 3 (Kd.int .i64))).sz = 1 from rfl, Nat.mul_one] at hv285_0
        replace hv285_0 := Option.some.inj (hv285_0.symm.trans hx285_0)
        injection hv285_0 with hva_ hvn_ hvc_
        rw [hva_] at ge285_0
        rw [hvc_] at ul285_0
        have HL285_0 := zA1.mk (show Kd.V (Kd.int .i64) 3 _ w.heap.size _ _ (rd_L6 t282 x7_1) from Kd.V_mk ul285_0 ge285_0)
        clear hva_ hvn_ hvc_ ge285_0 ul285_0
        clear hcc285 hce285
        have HR285_0 := zA1.mk hi285_0
        have HC285_0 := zA1.mk hl285_0
        clear hi285_0 hl285_0
        replace p285 := eq_true p285
        replace q285 := eq_true q285
        try go_wp2_with (first | ((with_reducible refine zBc (f := 43) rfl ?_); refine zCf (some 26) rfl rfl Tryd.func43 (by kernel_rfl) rfl #[.slice A1 l1.length c1, .slice A285_0 (rd_L6 t282 x7_1).length c285_0] rfl (by (try simp only [List.map_toArray, List.map_cons, List.map_nil]); first | done | rfl | (simp only [List.length_drop, List.length_take]; rfl)) ?_; (with_reducible refine (zAu.calls k1 _ _ l1 _ _ (rd_L6 t282 x7_1) t286 _ ?side1 ?side2 ?side3 ?side4 A9.out).mono ?_); (case side1 => repeat (first | exact (Kd.zB1 HR1.out HB.out) | (with_reducible refine Kd.zAf ?_ _) | (with_reducible refine Kd.zAk ?_ _) | (with_reducible refine Kd.zAv ?_))); (case side2 => exact HC1.out); (case side3 => repeat (first | exact (by repeat (first | (with_reducible exact HR285_0.out) | (with_reducible refine Kd.zAf ?_ _) | (with_reducible refine Kd.zAk ?_ _) | (with_reducible refine Kd.zAv ?_) | exact HR285_0.out)) | (with_reducible refine Kd.zAf ?_ _) | (with_reducible refine Kd.zAk ?_ _) | (with_reducible refine Kd.zAv ?_))); (case side4 => exact HC285_0.out); rintro e w28 ⟨v287, rfl, ho0, hb⟩; refine ⟨_, rfl, ?_⟩; have n0_ := zA1.mk (Kd.N_elder' (by (with_reducible repeat (first | apply Kd.zBm | apply Kd.zBl | apply Kd.zBv)); exact HO_5.out) (Kd.R_base ho0) hb); have n1_ := zA1.mk (Kd.N_elder' (by (with_reducible repeat (first | apply Kd.zBm | apply Kd.zBl | apply Kd.zBv)); exact HO_6.out) (Kd.R_base ho0) hb); have n2_ := zA1.mk (Kd.V_elder' (by (with_reducible repeat (first | apply Kd.V_alloc | apply Kd.V_drewN | apply Kd.V_drew)); exact HL285_0.out) (Kd.R_base ho0) hb); have n3_ := zA1.mk (Kd.zCk (Kd.R_newM (M := fun k_ => (w.heap.size ≤ k_)) ho0 (zAb (by repeat (first | (with_reducible first | exact HB.out | apply zA2 | apply zA0 | apply zA3 | refine zA4 ?_ GE281.out) | exact HB.out))) (fun k_ h_ => h_)) (zAb (by repeat (first | (with_reducible first | exact HB.out | apply zA2 | apply zA0 | apply zA3 | refine zA4 ?_ GE281.out) | exact HB.out)))); have n4_ := zA1.mk (zAt (g := gb281) (o := .cells #[.int .i64 a0_0, .slice A0_1 l0_1.length c0_1] 28 (0, 0)) (by (with_reducible repeat (first | refine zA6 ?_ _ | refine zA8 ?_ | refine zA5 ?_ _)); exact BK281.out) hb); have n5_ := zA1.mk (Kd.zB1 (by repeat (first | (with_reducible exact HR285_0.out) | (with_reducible refine Kd.zAf ?_ _) | (with_reducible refine Kd.zAk ?_ _) | (with_reducible refine Kd.zAv ?_) | exact HR285_0.out)) hb); have n6_ := zA1.mk (zAe (by repeat (first | (with_reducible first | exact HB.out | apply zA2 | apply zA0 | apply zA3 | refine zA4 ?_ GE281.out) | exact HB.out)) hb); clear HO_5; clear HO_6; clear HL285_0; clear BK281; clear HR285_0; clear HB; have HO_5 := n0_; have HO_6 := n1_; have HL285_0 := n2_; have HO288 := n3_; have BK281 := n4_; have HR285_0 := n5_; have HB := n6_; clear n0_ n1_ n2_ n3_ n4_ n5_ n6_; (try clear hb); (try clear hb2); (try clear hk); (try clear hi); (try clear ho0)))
        have n0_ := zA1.mk (Kd.zBv HO_5.out)
        have n1_ := zA1.mk (Kd.zBv HO_6.out)
        have n2_ := zA1.mk (Kd.V_drew HL285_0.out)
        have n3_ := zA1.mk (Kd.zAp HO288.out)
        have n4_ := zA1.mk (zA8 BK281.out)
        have n5_ := zA1.mk (Kd.zAv HR285_0.out)
        have n6_ := zA1.mk (zA3 HB.out)
        clear HO_5
        clear HO_6
        clear HL285_0
        clear HO288
        clear BK281
        clear HR285_0
        clear HB
        have HO_5 := n0_
        have HO_6 := n1_
        have HL285_0 := n2_
        have HO288 := n3_
        have BK281 := n4_
        have HR285_0 := n5_
        have HB := n6_
        clear n0_ n1_ n2_ n3_ n4_ n5_ n6_
        have p289 : 0 ≤ (x7_1 : Int) := of_decide_eq_true (by first | (with_reducible assumption) | assumption)
        have q289 : x7_1 < (t282.length : Int) := of_decide_eq_true (by first | (with_reducible assumption) | assumption)
        obtain ⟨ad289, A289_0, c289_0, e289, hx289_0, hl289_0, hi289_0⟩ := at_L6 (Kd.zBo HO_6.out).2.2 x7_1 p289 q289
        obtain rfl : ad285 = ad289 := (by injection e289)
        obtain ⟨ce289, hce289, hMe289, hcc289⟩ := Kd.N_get HO_6.out [] x7_1 p289 (by first | exact q289 | exact of_decide_eq_true (by first | (with_reducible assumption) | assumption) | (have e_ := (Kd.zBo HO_6.out).1; omega))
        obtain ⟨ua289_0, uc289_0, rfl, ul289_0, ge289_0⟩ := Kd.FK_slice_open hMe289
        have hv289_0 := hcc289 0 _ rfl
        rw [Nat.add_zero, show ((Kd.slice 3 (Kd.int .i64))).sz = 1 from rfl, Nat.mul_one] at hv289_0
        replace hv289_0 := Option.some.inj (hv289_0.symm.trans hx289_0)
        injection hv289_0 with hva_ hvn_ hvc_
        rw [hva_] at ge289_0
        rw [hvc_] at ul289_0
        have HL289_0 := zA1.mk (show Kd.V (Kd.int .i64) 3 _ w.heap.size _ _ (rd_L6 t282 x7_1) from Kd.V_mk ul289_0 ge289_0)
        clear hva_ hvn_ hvc_ ge289_0 ul289_0
        clear hcc289 hce289
        have HR289_0 := zA1.mk hi289_0
        have HC289_0 := zA1.mk hl289_0
        clear hi289_0 hl289_0
        replace p289 := eq_true p289
        replace q289 := eq_true q289
        have p290 : 0 ≤ (0 : Int) := (by omega)
        have q290 : 0 < ((rd_L6 t282 x7_1).length : Int) := of_decide_eq_true (by first | (with_reducible assumption) | assumption)
        obtain ⟨ad290, e290, hx290_0⟩ := Kd.zCb (by repeat (first | (with_reducible exact HR289_0.out) | (with_reducible refine Kd.zAf ?_ _) | (with_reducible refine Kd.zAk ?_ _) | (with_reducible refine Kd.zAv ?_) | exact HR289_0.out)) 0 p290 q290
        cases e290
        have qi290 : (0 < (rd_L6 t282 x7_1).length) = True := eq_true (by omega)
        (try rw [show ((0 : Int)).toNat = 0 from rfl] at hx290_0)
        (try rw [Addr.add_zero'] at hx290_0)
        replace p290 := eq_true p290
        replace q290 := eq_true q290
        have p291 : 0 ≤ (0 : Int) := (by omega)
        have q291 : 0 < (l1.length : Int) := of_decide_eq_true (by first | (with_reducible assumption) | assumption)
        obtain ⟨ad291, e291, hx291_0⟩ := Kd.zCb HR1.out 0 p291 q291
        have hw291_0 := hx291_0
        (try rw [show ((0 : Int)).toNat = 0 from rfl] at hw291_0)
        (try rw [show 0 * 1 = 0 from rfl] at hw291_0)
        (try rw [Addr.add_zero'] at hw291_0)
        cases e291
        have qi291 : (0 < l1.length) = True := eq_true (by omega)
        (try rw [show ((0 : Int)).toNat = 0 from rfl] at hx291_0)
        (try rw [Addr.add_zero'] at hx291_0)
        replace hx291_0 := (HB.out.cell (World.block_lt_of_cell? w _ hx291_0)).trans hx291_0
        replace p291 := eq_true p291
        replace q291 := eq_true q291
        refine start_ (n := 15) (S := fun w' => w'.cell? (ad285.add (x7_1).toNat) = some (.slice (some ad290) (rd_L6 t282 x7_1).length c289_0) ∧ w'.cell? ad290 = some (.int .i64 (rd (rd_L6 t282 x7_1) 0)) ∧ w'.cell? ad291 = some (.int .i64 (rd l1 0))) (ds := []) #[false, false, false, false, false, false, false, false, false, false, false, false, false, false, false] (by kernel_rfl) rfl rfl ⟨hx289_0, hx290_0, ((HB.out.cell (World.block_lt_of_cell? w _ hw291_0)).trans hw291_0)⟩ (fun hHeld => ?_); refine with_tabW zAo.tab7 zAo.bits7 (fun HT_ HW_ => ?_)
        generalize w28.drew = w29 at HO_5 HO_6 HL285_0 HO288 BK281 HR285_0 HB HL289_0 HR289_0 hx289_0 hx290_0 hx291_0 hHeld ⊢
        refine pure_ (i := 0) (N := some 27) (v := ?_) (a' := ?_) #[true, false, false, false, false, false, false, false, false, false, false, false, false, false, false] rfl rfl (zB6 HT_.out (by kernel_rfl)) (fun _ _ _ h => h) (Or.inl ⟨by rfl, ?_⟩) ?_ ?_
        rotate_left
        ·intro w'
         go_simp
         with_reducible rfl
        rotate_left
        ·simp only [Act.put, List.setIfInBounds_toArray, List.set_cons_zero, List.set_cons_succ, i64_w, i32_w]
         rfl
        refine pure_ (i := 1) (N := some 28) (v := ?_) (a' := ?_) #[true, true, false, false, false, false, false, false, false, false, false, false, false, false, false] rfl rfl (zB6 HT_.out (by kernel_rfl)) (fun _ _ _ h => h) (Or.inl ⟨by rfl, ?_⟩) ?_ ?_
        rotate_left
        ·intro w'
         go_simp
         with_reducible rfl
        rotate_left
        ·simp only [Act.put, List.setIfInBounds_toArray, List.set_cons_zero, List.set_cons_succ, i64_w, i32_w]
         rfl
        refine pure_ (i := 2) (N := some 29) (v := ?_) (a' := ?_) #[true, true, true, false, false, false, false, false, false, false, false, false, false, false, false] rfl rfl (zB6 HT_.out (by kernel_rfl)) (fun _ _ _ h => h) (Or.inl ⟨by rfl, ?_⟩) ?_ ?_
        rotate_left
        ·intro w'
         go_simp
         with_reducible rfl
        rotate_left
        ·simp only [Act.put, List.setIfInBounds_toArray, List.set_cons_zero, List.set_cons_succ, i64_w, i32_w]
         rfl
        refine pure_ (i := 6) (N := some 33) (v := ?_) (a' := ?_) #[true, true, true, false, false, false, true, false, false, false, false, false, false, false, false] rfl rfl (zB6 HT_.out (by kernel_rfl)) (fun _ _ _ h => h) (Or.inl ⟨by rfl, ?_⟩) ?_ ?_
        rotate_left
        ·intro w'
         go_simp
         with_reducible rfl
        rotate_left
        ·simp only [Act.put, List.setIfInBounds_toArray, List.set_cons_zero, List.set_cons_succ, i64_w, i32_w]
         rfl
        refine pure_ (i := 7) (N := some 34) (v := ?_) (a' := ?_) #[true, true, true, false, false, false, true, true, false, false, false, false, false, false, false] rfl rfl (zB6 HT_.out (by kernel_rfl)) (fun _ _ _ h => h) (Or.inl ⟨by rfl, ?_⟩) ?_ ?_
        rotate_left
        ·intro w'
         go_simp
         with_reducible rfl
        rotate_left
        ·simp only [Act.put, List.setIfInBounds_toArray, List.set_cons_zero, List.set_cons_succ, i64_w, i32_w]
         rfl
        refine take_ (i := 3) (N := some 30) (v := ?_) (a' := ?_) #[true, true, true, true, false, false, true, true, false, false, false, false, false, false, false] rfl rfl (zBt HT_.out HW_.out (by kernel_rfl)) (fun _ _ _ h => h) (Or.inl ⟨by rfl, ?_⟩) hHeld ?_ ?_
        rotate_left
        ·rintro w' ⟨s0, s1, s2⟩
         go_simp
         with_reducible rfl
        rotate_left
        ·simp only [Act.put, List.setIfInBounds_toArray, List.set_cons_zero, List.set_cons_succ, i64_w, i32_w]
         rfl
        refine pure_ (i := 4) (N := some 31) (v := ?_) (a' := ?_) #[true, true, true, true, true, false, true, true, false, false, false, false, false, false, false] rfl rfl (zB6 HT_.out (by kernel_rfl)) (fun _ _ _ h => h) (Or.inl ⟨by rfl, ?_⟩) ?_ ?_
        rotate_left
        ·intro w'
         go_simp
         with_reducible rfl
        rotate_left
        ·simp only [Act.put, List.setIfInBounds_toArray, List.set_cons_zero, List.set_cons_succ, i64_w, i32_w]
         rfl
        refine take_ (i := 5) (N := some 32) (v := ?_) (a' := ?_) #[true, true, true, true, true, true, true, true, false, false, false, false, false, false, false] rfl rfl (zBt HT_.out HW_.out (by kernel_rfl)) (fun _ _ _ h => h) (Or.inl ⟨by rfl, ?_⟩) hHeld ?_ ?_
        rotate_left
        ·rintro w' ⟨s0, s1, s2⟩
         go_simp
         with_reducible rfl
        rotate_left
        ·simp only [Act.put, List.setIfInBounds_toArray, List.set_cons_zero, List.set_cons_succ, i64_w, i32_w]
         rfl
        refine take_ (i := 8) (N := some 35) (v := ?_) (a' := ?_) #[true, true, true, true, true, true, true, true, true, false, false, false, false, false, false] rfl rfl (zBt HT_.out HW_.out (by kernel_rfl)) (fun _ _ _ h => h) (Or.inl ⟨by rfl, ?_⟩) hHeld ?_ ?_
        rotate_left
        ·rintro w' ⟨s0, s1, s2⟩
         go_simp
         with_reducible rfl
        rotate_left
        ·simp only [Act.put, List.setIfInBounds_toArray, List.set_cons_zero, List.set_cons_succ, i64_w, i32_w]
         rfl
        refine pure_ (i := 9) (N := some 36) (v := ?_) (a' := ?_) #[true, true, true, true, true, true, true, true, true, true, false, false, false, false, false] rfl rfl (zB6 HT_.out (by kernel_rfl)) (fun _ _ _ h => h) (Or.inl ⟨by rfl, ?_⟩) ?_ ?_
        rotate_left
        ·intro w'
         go_simp
         with_reducible rfl
        rotate_left
        ·simp only [Act.put, List.setIfInBounds_toArray, List.set_cons_zero, List.set_cons_succ, i64_w, i32_w]
         rfl
        refine pure_ (i := 10) (N := some 37) (v := ?_) (a' := ?_) #[true, true, true, true, true, true, true, true, true, true, true, false, false, false, false] rfl rfl (zB6 HT_.out (by kernel_rfl)) (fun _ _ _ h => h) (Or.inl ⟨by rfl, ?_⟩) ?_ ?_
        rotate_left
        ·intro w'
         go_simp
         with_reducible rfl
        rotate_left
        ·simp only [Act.put, List.setIfInBounds_toArray, List.set_cons_zero, List.set_cons_succ, i64_w, i32_w]
         rfl
        refine pure_ (i := 11) (N := some 38) (v := undef) (a' := ?_) #[true, true, true, true, true, true, true, true, true, true, true, true, false, false, false] rfl rfl (zB6 HT_.out (by kernel_rfl)) (fun _ _ _ h => h) (Or.inr ⟨by rfl, rfl⟩) ?_ ?_
        rotate_left
        ·simp only [Act.put, List.setIfInBounds_toArray, List.set_cons_zero, List.set_cons_succ, i64_w, i32_w]
         rfl
        refine pure_ (i := 12) (N := some 39) (v := undef) (a' := ?_) #[true, true, true, true, true, true, true, true, true, true, true, true, true, false, false] rfl rfl (zB6 HT_.out (by kernel_rfl)) (fun _ _ _ h => h) (Or.inr ⟨by rfl, rfl⟩) ?_ ?_
        rotate_left
        ·simp only [Act.put, List.setIfInBounds_toArray, List.set_cons_zero, List.set_cons_succ, i64_w, i32_w]
         rfl
        refine pure_ (i := 13) (N := some 40) (v := undef) (a' := ?_) #[true, true, true, true, true, true, true, true, true, true, true, true, true, true, false] rfl rfl (zB6 HT_.out (by kernel_rfl)) (fun _ _ _ h => h) (Or.inr ⟨by rfl, rfl⟩) ?_ ?_
        rotate_left
        ·simp only [Act.put, List.setIfInBounds_toArray, List.set_cons_zero, List.set_cons_succ, i64_w, i32_w]
         rfl
        refine pure_ (i := 14) (N := some 41) (v := ?_) (a' := ?_) #[true, true, true, true, true, true, true, true, true, true, true, true, true, true, true] rfl rfl (zB6 HT_.out (by kernel_rfl)) (fun _ _ _ h => h) (Or.inl ⟨by rfl, ?_⟩) ?_ ?_
        rotate_left
        ·intro w'
         go_simp
         with_reducible rfl
        rotate_left
        ·simp only [Act.put, List.setIfInBounds_toArray, List.set_cons_zero, List.set_cons_succ, i64_w, i32_w]
         rfl
        refine done_ (done_of HT_.out (by kernel_rfl)) ?_
        try go_wp2
        go_roundg k1
        case measure => have := HK1.out; omega
        case rel => exact ⟨(x5_1), (wrap64 (x7_1 + 1)), (by first | rfl | (simp; done) | (simp [*]; done)), H', ⟨by have := HK1.out; omega⟩, ⟨by (with_reducible repeat (first | apply Kd.zBm | apply Kd.zBl | apply Kd.zBv)); exact Kd.N_mono HO_5.out (fun _ hk => ⟨hk.1.1, ⟨hk.1.2.1, hk.1.2.2⟩⟩)⟩, ⟨by (with_reducible repeat (first | apply Kd.zBm | apply Kd.zBl | apply Kd.zBv)); exact Kd.N_mono HO_6.out (fun _ hk => ⟨hk.1.1, ⟨hk.1.2.1, hk.1.2.2⟩⟩)⟩, ⟨by (with_reducible repeat (first | refine zA6 ?_ _ | refine zA8 ?_ | refine zA5 ?_ _)); exact BK281.out⟩, ⟨by repeat (first | (with_reducible first | exact HB.out | apply zA2 | apply zA0 | apply zA3 | refine zA4 ?_ GE281.out) | exact HB.out)⟩⟩
      ·rw [if_neg c11] at H
       exact absurd H (by simp)
     ·rw [if_neg c10] at H
      exact absurd H (by simp)
    ·rw [if_neg c8] at H
     exact absurd H (by simp)
   ·rw [if_neg c7] at H
    have c7b0 : decide (x7_1 < (t282.length : Int)) = false := decide_eq_false c7
    clear c7
    obtain rfl := Option.some.inj H
    obtain ⟨Ao30, co30, eo30⟩ := Kd.N_slice HO_6.out
    subst eo30
    go_wp2
    go_ret
    exact ⟨_, by first | rfl | (simp [zAy, zAx] <;> rfl) | (simp [*, zAy, zAx] <;> rfl), by (with_reducible repeat (first | apply Kd.zBm | apply Kd.zBl | apply Kd.zBv)); exact Kd.N_mono HO_5.out (fun _ hk => hk.1), by repeat (first | (with_reducible first | exact HB.out | apply zA2 | apply zA0 | apply zA3 | refine zA4 ?_ GE281.out) | exact HB.out)⟩
end
end Go.Proofs.YtbghfbhlbfcloaaDoor.PL
