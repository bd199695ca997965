/- Put together by this session's program pack.py. -/
import Derived.Below
import Derived.Deep.Draws
import Derived.Deep.AppendLies
import Derived.Maps.AppendAt
import Derived.OwnWalk
import Derived.Laws.BytesArg
import Derived.Laws.MakeOwn
import Derived.Laws.OwnMore
import Derived.Deep.OwnRows
import Derived.Tactics
import Derived.Lib.ConvBytes
import Derived.Laws.Slices
import Derived.WalkKit
import Derived.KernelRfl
import Derived.RowKit3
import Derived.Deep.LoopGhost
import Derived.Deep.QuietTactic
import Derived.BigQuiet
import Derived.WideLaws
import Derived.Deep.DeepCutAuto
import Derived.Deep.CutBlock
import Derived.Deep.RegionHeld3
import Derived.Laws.Rows
import Derived.Lib.AppendStr
import Derived.ArgAppend
import Derived.Laws.IdiomCopy
import Derived.OrdersHeld
import Derived.Laws.BitsLemmas
import Derived.RowKit
import Derived.Sort.Grow
import Derived.Shelf.SlicesQ.IndexFunc
import Derived.Shelf.GgClosure.StringsIndexFuncTop
import Derived.Shelf.SlGeneric
import Derived.Ground.SlgfProg
import Derived.Ground.GgwProg
import Derived.Laws.RangeAny
import Derived.Laws.RangeString
import Derived.Shelf.SlSortCmp.InsertionK
import Derived.Ground.SlsfProg
import Derived.Shelf.SlSortCmp.Insertion
import Derived.RangeFuncNested
import Derived.RangeFuncBound
import Derived.RangeFuncCalls
import Derived.RangeFuncLeaves
import Derived.Shelf.Abstract
import Derived.Shelf.RegionOpen
import Derived.OwnWalkIn
import Derived.TacticsInMore
import Derived.LoopNIn
import Derived.LoopIn
import Derived.OrdersIn
import Derived.RangeFuncKeeps
import Derived.Shelf.SlSortCmp.NoneTotal
import Derived.RangeFuncWrites
import Derived.WalkSpells
import Derived.Test.YtbghfbhlbfcloaaDoorGw0
import Derived.Test.YtbghfbhlbfcloaaDoorGp0
import Derived.Test.YtbghfbhlbfcloaaDoorGp1
import Derived.Test.YtbghfbhlbfcloaaDoorGp2
import Derived.Test.YtbghfbhlbfcloaaDoorGp3
namespace Go.Proofs.YtbghfbhlbfcloaaDoor.PL
section
open Go.RowKit Go.Proofs.YtbghfbhlbfcloaaDoorW.PrintWords Go.Proofs.YtbghfbhlbfcloaaDoorW.PrintLast Go.Proofs.YtbghfbhlbfcloaaDoorW.PrintMore
attribute [local go_sem] Oper.semAt_some
set_option linter.unusedVariables false
set_option linter.unusedSimpArgs false
theorem nodup_at {l : List S41} (h : (l.map fun x => x.f0).Nodup) {i j : Nat} (hi : i < l.length) (hj : j < l.length) (he : (l.getD i z41).f0 = (l.getD j z41).f0) : i = j := by
 rw [List.getD_eq_getElem?_getD, List.getD_eq_getElem?_getD, List.getElem?_eq_getElem hi, List.getElem?_eq_getElem hj] at he
 exact (List.getElem_inj (h₀ := by simpa using hi) (h₁ := by simpa using hj) h).1 (by simpa using he)
theorem sortC_eq (l : List S41) (hn : (l.map fun x => x.f0).Nodup) : (l.mergeSort fun x y => !(decide (befC y x < 0))) = sortC l := merge_cf befC (befL_swo (fun x : S41 => x.f0)) l (fun a b ha hb h1 h2 => by
 have e : a.f0 = b.f0 := befL_eq _ _ (by
  have := befL_neg a.f0 b.f0
  unfold befC at h1 h2
  omega)
 obtain ⟨i, hi, rfl⟩ := List.getElem_of_mem ha
 obtain ⟨j, hj, rfl⟩ := List.getElem_of_mem hb
 have h := (List.getElem_inj (h₀ := by simpa using hi) (h₁ := by simpa using hj) hn).1 (by simpa using e)
 subst h
 rfl)
theorem sortCallC (W : World) (base : Nat) (v : Value) (l : List S41) (hok : okC l = true) (HO : Kd.S k41 41 W base (fun _ => True) v l) :
  Calls Tryd.prog 38 #[v, .func (.func 39) #[] #[]] W fun e w' => e = .returned (.tuple #[]) ∧ Kd.S k41 41 w' base (fun _ => True) v (sortC l) ∧ W.grownBy w' v.ownBlock := by
 simp only [okC, Bool.and_eq_true, decide_eq_true_eq] at hok
 obtain ⟨⟨hl, hc⟩, hn⟩ := hok
 rcases Nat.eq_zero_or_pos l.length with h0 | h0
 ·obtain rfl := List.eq_nil_of_length_eq_zero h0
  obtain ⟨A, c, rfl⟩ := Kd.S_slice HO
  refine (sortNoneCut A c _ W).mono fun e w' h => ?_
  obtain ⟨he, rfl⟩ := h
  exact ⟨he, by simpa [sortC, isort] using HO, ⟨rfl, rfl, rfl, Nat.le_refl _, fun _ _ _ => rfl⟩⟩
 ·have HO' := Kd.S_R HO
  obtain ⟨_, inner, ⟨_, ho⟩, _⟩ := HO'
  rcases ho with ⟨_, hx⟩ | ⟨g, cap, cur, rfl, hg, _⟩
  ·omega
  ·refine (sortS sortsCut HO (by omega) h0 z41 befC (befL_swo (fun x : S41 => x.f0)) ?_ (enters_of Tryd.func39 (by kernel_rfl) rfl) ?_).mono fun e w' h => ⟨h.1, sortC_eq l hn ▸ h.2.1, h.2.2⟩
   ·intro i j hi hj h1 h2
    refine nodup_at hn hi hj (befL_eq _ _ ?_)
    have := befL_neg (l.getD i z41).f0 (l.getD j z41).f0
    unfold befC at h1 h2
    omega
   ·intro x y cx cy W' hx hy kx ky
    obtain ⟨A0, c0, A1, c1, rfl, g0, g1, g2, g3⟩ := k41_open kx
    obtain ⟨A2, c2, A3, c3, rfl, g4, g5, g6, g7⟩ := k41_open ky
    have h1 := List.all_eq_true.1 (List.all_eq_true.1 hc x hx) y hy
    exact (liaison_Cuts_1.exact CU.k A0 c0 x.f0 A1 c1 x.f1 A2 c2 y.f0 A3 c3 y.f1 (befC x y) W' g1 g0 g3 g2 g5 g4 g7 g6 (by simpa using h1)).mono fun e w' h => ⟨h.1, h.2.2⟩
def opsB : Code → Nat → Option (Array Oper)
 | .region id ops _, k => if id == k then some ops else none
 | .seq a b, k => match opsB a k with
  | some o => some o
  | none => opsB b k
 | .cond _ a b, k => match opsB a k with
  | some o => some o
  | none => opsB b k
 | .block _ c, k => opsB c k
 | .rangeFunc _ _ _ c, k => opsB c k
 | _, _ => none
def opsG (f : Func) (k : Nat) : Array Oper := ((f.body.bind fun c => opsB c k)).getD #[]
def notDefer : Op → Bool
 | .defer _ => false
 | _ => true
theorem nd_of {ops : Array Oper} (h : (ops.all fun o => notDefer o.op) = true) : ∀ (i : Nat) (o : Oper), ops[i]? = some o → ∀ c, o.op ≠ .defer c := by
 intro i o ho c e
 have h1 := Array.all_eq_true'.1 h o (Array.mem_of_getElem? ho)
 rw [e] at h1
 cases h1
def CU.T11 : Bool × List (List Nat × List Nat) := (true, [([], []), ([], []), ([1], [1]), ([], []), ([3, 2], [3]), ([2, 4], [2, 4]), ([5], [5]), ([0, 6, 4], [0, 6]), ([7, 7, 0, 1, 2, 3, 4, 5, 6, 7], [7])])
def CU.B11 : List Nat := [0, 0, 2, 0, 14, 30, 62, 127, 255]
theorem CU.tab11 : rtab .any (opsG Tryd.f10 11) = CU.T11 := by kernel_rfl
theorem CU.bits11 : waitsOk CU.T11.2 CU.B11 = true := by kernel_rfl
theorem cell_alloc_l {W : World} {a : Addr} {v : Value} (o : Obj) (h : W.cell? a = some v) : (W.alloc o).cell? a = some v := cell_kept h (World.grownBy_alloc W o none) (fun r e => by cases e)
set_option maxHeartbeats 1000000 in
theorem subsets_make (AL : Option Addr) (n cL : Nat) (m : Int) (w : World) :
  Calls Tryd.prog 36 #[.slice AL n cL, .int .u64 m] w fun e w' => e = .returned (.func (.func 66) #[] #[.pointer (some ⟨w.heap.size + 1, 0, none⟩), .pointer (some ⟨w.heap.size, 0, none⟩)]) ∧ w' = (w.alloc (.cells #[.slice AL n cL] 70)).alloc (.cells #[.int .u64 m] 71) := by
 go_enter Tryd.func36, Tryd.ntmps36
 go_wp2
 go_ret
 exact ⟨rfl, rfl⟩
set_option maxRecDepth 100000 in
set_option maxHeartbeats 4000000 in
theorem CU.calls (a0_0 : Int) (A0_1 : Option Addr) (c0_1 : Nat) (l0_1 : List (S68)) (A1 : Option Addr) (c1 : Nat) (l1 : List Int) (r1 : List (S41)) (r2 : Int) (w : World) (hr0_1 : Kd.C k68 w A0_1 l0_1.length l0_1) (hc0_1 : l0_1.length ≤ c0_1) (hr1 : Kd.C (Kd.int .i64) w A1 l1.length l1) (hc1 : l1.length ≤ c1) (hG : Kd.C (Kd.int .u8) w (some tabA) tabL.length tabL) (h : CU.f a0_0 l0_1 l1 = some (r1, r2)) :
  Calls Tryd.prog 10 #[.agg #[.int .i64 a0_0, .slice A0_1 l0_1.length c0_1], .slice A1 l1.length c1] w fun e w' => ∃ v0_ : Value, e = .returned (.tuple #[v0_, .int .i64 r2]) ∧ Kd.S k41 41 w' w.heap.size (fun _ => True) v0_ r1 ∧ Below w.heap.size w w' := by
 have hu28 := Tryd.underlying28
 have hu41 := Tryd.underlying41
 unfold CU.f at h
 obtain ⟨⟨L, m, er⟩, hop, h1⟩ := Option.bind_eq_some_iff.1 h
 dsimp only at h1
 have HR0 := zA1.mk hr0_1
 have HC0 := zA1.mk hc0_1
 have HR1 := zA1.mk hr1
 have HC1 := zA1.mk hc1
 have HG := zA1.mk hG
 have HOP := zA1.mk hop
 have H := zA1.mk h1
 have HOPC : ∀ w', Below w.heap.size w w' → _ := fun w' hb => (callsIn_wide (n := 5)).2 (zBx.calls CU.k a0_0 A0_1 c0_1 l0_1 A1 c1 l1 L m er w' (Kd.zAy hr0_1 hb) hc0_1 (Kd.zAy hr1 hb) hc1 hop)
 have HO := zA1.mk HOPC
 clear HOPC hr0_1 hc0_1 hr1 hc1 hG hop h h1
 refine (callsIn_wide (n := 6)).1 ?_
 refine callsIn_of_wp_marks Tryd.func10 rfl trivial ?_ rfl
 simp only [Tryd.ntmps10, List.size_toArray, List.length_cons, List.length_nil, Nat.reduceAdd, Nat.reduceSub, Array.replicate_succ, Array.replicate_zero, List.push_toArray, List.append_toArray, List.nil_append, List.cons_append]
 by_cases he : er = 0
 case neg =>
  have heb : (er != 0) = true := by simpa using he
  gi_wp2_with (refine ⟨trivial, ?_⟩; gi_at_call 34; refine (HO.out _ (zA2 (Below.refl _ _) _)).mono ?_; rintro e w2 ⟨vL, rfl, hL, hb⟩; obtain ⟨AL, cL, rfl⟩ := Kd.zCe hL; have hb2 := (zA2 (Below.refl w.heap.size w) (.cells #[.int .i64 a0_0, .slice A0_1 l0_1.length c0_1] 28)).trans (hb.mono (by simp)); clear hb; have HB := zA1.mk hb2; clear hb2)
  have hh := H.out
  rw [if_neg he] at hh
  injection hh with hh
  injection hh with e1 e2
  subst e1 e2
  exact ⟨.tuple #[.slice none 0 0, .int .i64 er], by simp [results, Tryd.f10, go_sem], .slice none 0 0, rfl, Kd.S_nil _ _ _ _ _, zA2 (zA2 HB.out _) _⟩
 case pos =>
  subst he
  have hh := H.out
  rw [if_pos rfl] at hh
  obtain ⟨c, hc, hh⟩ := Option.bind_eq_some_iff.1 hh
  have H2 := zA1.mk hh
  have HC := zA1.mk hc
  clear H hc hh
  cases c with
  | false =>
   gi_wp2_with (first
    | (refine ⟨trivial, ?_⟩; gi_at_call 34; refine (HO.out _ (zA2 (Below.refl _ _) _)).mono ?_; rintro e w2 ⟨vL, rfl, hL, hb⟩; obtain ⟨AL, cL, rfl⟩ := Kd.zCe hL; have hb2 := (zA2 (Below.refl w.heap.size w) (.cells #[.int .i64 a0_0, .slice A0_1 l0_1.length c0_1] 28)).trans (hb.mono (by simp)); clear hb; have HB := zA1.mk hb2; clear hb2; have HLC := zA1.mk (Kd.zBd hL); clear hL)
    | (refine ⟨trivial, ?_⟩; gi_at_call 35; refine (callsIn_wide.2 (zAz.calls CU.k _ _ L m false _ (Kd.zA8 (Kd.zA8 HLC.out.2.2 _) _) HLC.out.2.1 (Kd.zA8 (Kd.zA8 (Kd.zAy HG.out HB.out) _) _) HC.out)).mono ?_; rintro e w3 ⟨rfl, hb3⟩; have HB3 := zA1.mk ((zA2 (zA2 HB.out _) _).trans (hb3.mono (by have := HB.out.size; simp; omega))); clear hb3))
   have hh := H2.out
   rw [if_neg (by simp)] at hh
   injection hh with hh
   injection hh with e1 e2
   subst e1 e2
   exact ⟨.tuple #[.slice none 0 0, .int .i64 17], by simp [results, Tryd.f10, go_sem], .slice none 0 0, rfl, Kd.S_nil _ _ _ _ _, HB3.out⟩
  | true =>
   gi_wp2_with (first
    | (refine ⟨trivial, ?_⟩; gi_at_call 34; refine (HO.out _ (zA2 (Below.refl _ _) _)).mono ?_; rintro e w2 ⟨vL, rfl, hL, hb⟩; obtain ⟨AL, cL, rfl⟩ := Kd.zCe hL; have hb2 := (zA2 (Below.refl w.heap.size w) (.cells #[.int .i64 a0_0, .slice A0_1 l0_1.length c0_1] 28)).trans (hb.mono (by simp)); clear hb; have HB := zA1.mk hb2; clear hb2; have HLC := zA1.mk (Kd.zBd hL); clear hL)
    | (refine ⟨trivial, ?_⟩; gi_at_call 35; refine (callsIn_wide.2 (zAz.calls CU.k _ _ L m true _ (Kd.zA8 (Kd.zA8 HLC.out.2.2 _) _) HLC.out.2.1 (Kd.zA8 (Kd.zA8 (Kd.zAy HG.out HB.out) _) _) HC.out)).mono ?_; rintro e w3 ⟨rfl, hb3⟩; have HB3 := zA1.mk ((zA2 (zA2 HB.out _) _).trans (hb3.mono (by have := HB.out.size; simp; omega))); have HB4 := zA1.mk hb3; have HLB := zA1.mk (zBc (zAa (blk_new w2 (.cells #[.slice AL L.length cL] 70)) (.cells #[.int .u64 m] 71)) hb3); have HMB := zA1.mk (zBc (show ((w2.alloc (.cells #[.slice AL L.length cL] 70)).alloc (.cells #[.int .u64 m] 71)).heap[w2.heap.size + 1]? = _ from by have h_ := blk_new (w2.alloc (.cells #[.slice AL L.length cL] 70)) (.cells #[.int .u64 m] 71); rwa [World.size_alloc] at h_) hb3); have hl3 : w3.cell? ⟨w2.heap.size, 0, none⟩ = some (.slice AL L.length cL) := (zA9 HLB.out 0).trans rfl; have hm3 : w3.cell? ⟨w2.heap.size + 1, 0, none⟩ = some (.int .u64 m) := (zA9 HMB.out 0).trans rfl; have hl4 := cell_alloc_l (.cells #[.slice none 0 0] 30) hl3; have hm4 := cell_alloc_l (.cells #[.slice none 0 0] 30) hm3; clear hl3 hm3; clear hb3)
    | (refine ⟨trivial, ?_⟩; gi_at_call 36; refine (callsIn_wide.2 (subsets_make AL L.length cL m _)).mono ?_; rintro e w4 ⟨rfl, rfl⟩))
   have hh := H2.out
   simp only [if_true] at hh
   obtain ⟨ms, hms, hh⟩ := Option.bind_eq_some_iff.1 hh
   split at hh
   case isFalse => cases hh
   rename_i hsome
   obtain ⟨out, hout, hh⟩ := Option.bind_eq_some_iff.1 hh
   split at hh
   case isFalse => cases hh
   rename_i hok
   injection hh with hh
   injection hh with e1 e2
   subst e1 e2
   have hch := subs_chain m 1000 m ms hms
   have hlen := subs_len m 1000 m ms hms
   have hcn : ∀ s ∈ ms, zAz.f CU.k L s = some (cnB L s) := by
    intro s hs
    have h1 := List.all_eq_true.1 hsome s hs
    unfold cnB
    cases e : zAz.f CU.k L s with
    | none => rw [e] at h1; cases h1
    | some b => rfl
   have hat := fun x hx => allO_at hout x hx
   obtain ⟨W0, hW0⟩ : ∃ W0, ((w3.alloc (.cells #[.slice none 0 0] 30)).alloc (.cells #[.slice AL L.length cL] 70)).alloc (.cells #[.int .u64 m] 71) = W0 := ⟨_, rfl⟩
   have hs0 : W0.heap.size = w3.heap.size + 3 := by rw [← hW0]; simp
   have hO0 : W0.heap[w3.heap.size]? = some (.cells #[.slice none 0 0] 30 (0, 0)) := by rw [← hW0]; exact zAa (zAa (blk_new w3 _) _) _
   have hL0 : W0.heap[w3.heap.size + 1]? = some (.cells #[.slice AL L.length cL] 70 (0, 0)) := by
    rw [← hW0]; have h_ := blk_new (w3.alloc (.cells #[.slice none 0 0] 30)) (.cells #[.slice AL L.length cL] 70); rw [World.size_alloc] at h_; exact zAa h_ _
   have hM0 : W0.heap[w3.heap.size + 1 + 1]? = some (.cells #[.int .u64 m] 71 (0, 0)) := by
    rw [← hW0]; have h_ := blk_new ((w3.alloc (.cells #[.slice none 0 0] 30)).alloc (.cells #[.slice AL L.length cL] 70)) (.cells #[.int .u64 m] 71); rwa [World.size_alloc, World.size_alloc] at h_
   have h30 : Below w3.heap.size w3 W0 := by rw [← hW0]; exact zA2 (zA2 (zA2 (Below.refl _ _) _) _) _
   have hBW : Below w.heap.size w W0 := HB3.out.trans (h30.mono HB3.out.size)
   have h23 : w2.heap.size + 2 ≤ w3.heap.size := by have := HB4.out.size; simpa using this
   have hLC0 : ∀ W', Kq w3.heap.size (w3.heap.size + 1 + 1) (w3.heap.size + 1) W0 W' → Kd.C (Kd.int .u64) W' AL L.length L := fun W' h => Kd.zAy (Kd.zAy (Kd.zA8 (Kd.zA8 HLC.out.2.2 _) _) HB4.out) (h30.trans h.b)
   have hG0 : ∀ W', Kq w3.heap.size (w3.heap.size + 1 + 1) (w3.heap.size + 1) W0 W' → Kd.C (Kd.int .u8) W' (some tabA) tabL.length tabL := fun W' h => Kd.zAy (Kd.zAy HG.out HB3.out) (h30.trans h.b)
   rw [hW0]
   have HAT := zA1.mk hat
   have HLC0 := zA1.mk hLC0
   have HG0 := zA1.mk hG0
   have HS0 := zA1.mk hs0
   have HLEN := zA1.mk hlen
   have HOUT := zA1.mk hout
   have HOK := zA1.mk hok
   have HBW := zA1.mk hBW
   have hlb := h30.block w2.heap.size (by omega)
   rw [HLB.out] at hlb
   have hmb := h30.block (w2.heap.size + 1) (by omega)
   rw [HMB.out] at hmb
   have HLB0 := zA1.mk hlb
   have HMB0 := zA1.mk hmb
   have H23 := zA1.mk h23
   have HO0 := zA1.mk hO0
   clear hat hLC0 hG0 hs0 hlen hout hok hBW hlb hmb h23
   refine wpIn_rangeFunc_ownG (N := (ms.filter (cnB L)).length) rfl (by omega) (gf := 66) (lb := #[.pointer (some ⟨w3.heap.size + 1 + 1, 0, none⟩), .pointer (some ⟨w3.heap.size + 1, 0, none⟩)]) rfl trivial (enters_of Tryd.func66 (by kernel_rfl) rfl)
    (subsets_stops CU.k AL cL L m ms (cnB L) (w3.heap.size + 1 + 1) (w3.heap.size + 1) w3.heap.size 5 W0 (by have := HS0.out; omega) ((zA9 hM0 0).trans rfl) ((zA9 hL0 0).trans rfl) HLC0.out HLC.out.2.1 HG0.out hch hcn)
    (fun h k => h.trans k) ?hKb (Below.refl _ _) (fun _ => rfl)
    (fun pre W => ∃ v ys, allO L m (pre.map fun x => x.1) = some ys ∧ W.heap[w3.heap.size]? = some (.cells #[v] 30 (0, 0)) ∧ Kd.S k41 41 W (w3.heap.size + 3) (fun _ => True) v ys ∧ Kq w3.heap.size (w3.heap.size + 1 + 1) (w3.heap.size + 1) W0 W)
    (fun _ _ _ => False) ?hI (fun _ _ _ _ _ h => h.elim) ⟨_, [], rfl, HO0.out, Kd.S_nil _ _ _ _ _, Kq.refl _ _ _ _⟩
    (fun x => { tmps := #[.agg #[.int .i64 a0_0, .slice A0_1 l0_1.length c0_1], .slice A1 l1.length c1, .pointer (some ⟨w.heap.size, 0, none⟩), undef, .slice none 0 0, .int .i64 0, .pointer (some ⟨w2.heap.size, 0, none⟩), .pointer (some ⟨w2.heap.size + 1, 0, none⟩), .int .i64 0, .pointer (some ⟨w3.heap.size, 0, none⟩), .int .u64 x.1, undef, .tuple #[.slice AL L.length cL, .int .u64 m, .int .i64 0], .agg #[.int .i64 a0_0, .slice A0_1 l0_1.length c0_1], .slice A1 l1.length c1, .tuple #[.slice AL L.length cL, .int .u64 m, .int .i64 0], .slice AL L.length cL, .int .u64 m, .int .i64 0, .int .i64 0, .bool false, undef, .slice AL L.length cL, .int .u64 m, .bool true, .bool false, .slice AL L.length cL, .int .u64 m, .func (.func 66) #[] #[.pointer (some ⟨w3.heap.size + 1 + 1, 0, none⟩), .pointer (some ⟨w3.heap.size + 1, 0, none⟩)], .int .u64 x.1, undef, undef, undef, undef, undef, undef, undef, undef, undef, undef, undef, undef, undef, undef, undef, undef, undef, undef, undef, undef, undef, undef, undef, undef, undef, undef, undef, undef, undef, undef], defers := [] }) ?assign ?body ?done ?stop
   case hKb =>
    intro W l o o' hl ho hc hw
    exact ⟨belowK_b (w := W0) (by have := HS0.out; omega) W l o o' hl ho hc hw, World.putObj_heap_other (by have := HS0.out; omega), World.putObj_heap_other (by have := HS0.out; omega)⟩
   case hI =>
    rintro s A B row ⟨v, ys, hall, hO, hS, hK⟩ hg hr
    have hOl := (Array.getElem?_eq_some_iff.1 hO).1
    have hle := hK.b.size
    have hs := HS0.out
    refine ⟨v, ys, hall, (hg.block _ hOl (fun e => by have := (hr _ e.symm).1; omega)).trans hO, Kd.S_mono (Kd.S_step (Kd.S_bound hS) (fun k hk hlt => hg.block k hlt (fun e => ?_))) (fun _ _ => trivial), hK.trans ⟨(Below.refl _ A).grown hg (by omega) (fun k e => by have := (hr _ e).1; omega), hg.block _ (by omega) (fun e => by have := (hr _ e.symm).1; omega), hg.block _ (by omega) (fun e => by have := (hr _ e.symm).1; omega)⟩⟩
    obtain ⟨_, o, ho, hc⟩ := hr k e.symm
    obtain ⟨_, _, _, q, _, cells, hcell⟩ := hk
    rw [hcell] at ho
    cases ho
    cases hc
   case stop => intro D c pre W _ _ h; exact h.elim
   case assign =>
    intro l x W K hK
    gi_wp2
    exact hK
   case body =>
    rintro l pre x W ⟨v, ys, hall, hO, hS, hK⟩ hlt
    obtain ⟨a, ha⟩ := HAT.out x.1 x.2
    have hsn : allO L m ((pre ++ [x]).map fun x => x.1) = some (ys ++ a) := by rw [List.map_append]; exact allO_snoc hall ha
    have hys : ys.length ≤ 1000 := by
     have h1 := allO_len hall
     have h2 := List.length_filter_le (cnB L) ms
     have h3 := HLEN.out
     rw [List.length_map] at h1
     omega
    have hmC : W.cell? ⟨w2.heap.size + 1, 0, none⟩ = some (.int .u64 m) := (zA9 ((hK.b.block _ (by have := H23.out; omega)).trans HMB0.out) 0).trans rfl
    have hlC : W.cell? ⟨w2.heap.size, 0, none⟩ = some (.slice AL L.length cL) := (zA9 ((hK.b.block _ (by have := H23.out; omega)).trans HLB0.out) 0).trans rfl
    have hOc : W.cell? ⟨w3.heap.size, 0, none⟩ = some v := (zA9 hO 0).trans rfl
    have hOf := zAh hO 0
    have HLW := zA1.mk (HLC0.out W hK)
    have HGW := zA1.mk (HG0.out W hK)
    have HSN := zA1.mk hsn
    have HYS := zA1.mk hys
    have HOO := zA1.mk hO
    have HSS := zA1.mk hS
    have HKK := zA1.mk hK
    clear hall hsn hys hO hS hK
    unfold ctO at ha
    by_cases z1 : Go.bits .and .u64 x.1 (Go.bits .and .u64 m (IntKind.u64.wrap (-m))) = 0
    ·rw [if_pos z1] at ha
     injection ha with ha
     subst ha
     have zb : (Go.bits .and .u64 x.1 (Go.bits .and .u64 m (IntKind.u64.wrap (-m))) != 0) = false := by rw [z1]; rfl
     clear z1
     gi_wp2
     refine ⟨trivial, ?_⟩
     gi_wp2
     exact ⟨KeepsFrom.refl _ _, Kq.refl _ _ _ _, v, ys, by have := HSN.out; rwa [List.append_nil] at this, HOO.out, HSS.out, HKK.out⟩
    ·rw [if_neg z1] at ha
     have zb : (Go.bits .and .u64 x.1 (Go.bits .and .u64 m (IntKind.u64.wrap (-m))) != 0) = true := by simpa using z1
     clear z1
     by_cases z2 : Go.bits .andNot .u64 m x.1 = 0
     ·rw [if_pos z2] at ha
      injection ha with ha
      subst ha
      have zc : (Go.bits .andNot .u64 m x.1 != 0) = false := by rw [z2]; rfl
      clear z2
      gi_wp2
      refine ⟨trivial, ?_⟩
      gi_wp2
      exact ⟨KeepsFrom.refl _ _, Kq.refl _ _ _ _, v, ys, by have := HSN.out; rwa [List.append_nil] at this, HOO.out, HSS.out, HKK.out⟩
     ·rw [if_neg z2] at ha
      have zc : (Go.bits .andNot .u64 m x.1 != 0) = true := by simpa using z2
      clear z2
      obtain ⟨c, hc2, ha⟩ := Option.bind_eq_some_iff.1 ha
      have HC2 := zA1.mk hc2
      clear hc2
      cases c with
      | false =>
       simp only [Bool.false_eq_true, if_false] at ha
       injection ha with ha
       subst ha
       gi_wp2_with (refine ⟨trivial, ?_⟩; gi_at_call 35; refine (CallsIn.inRound l (callsIn_wide.2 (zAz.calls CU.k AL cL L _ false W HLW.out HLC.out.2.1 HGW.out HC2.out))).mono ?_; rintro e w5 ⟨rfl, hb5⟩)
       have hsz := HKK.out.b.size
       have hs := HS0.out
       exact ⟨KeepsFrom.of_grownBy (grown_of_below hb5) (fun _ e => by cases e), Kq.of hb5 (by omega) (by omega) (by omega), v, ys, by have := HSN.out; rwa [List.append_nil] at this, (hb5.block _ (by omega)).trans HOO.out, Kd.S_below HSS.out hb5, HKK.out.trans (Kq.of hb5 (by omega) (by omega) (by omega))⟩
      | true =>
       simp only [if_true] at ha
       obtain ⟨la, hla, ha⟩ := Option.bind_eq_some_iff.1 ha
       obtain ⟨lb, hlb, ha⟩ := Option.bind_eq_some_iff.1 ha
       injection ha with ha
       subst ha
       have HLA := zA1.mk hla
       have HLBB := zA1.mk hlb
       clear hla hlb
       gi_wp2_with (refine ⟨trivial, ?_⟩; gi_at_call 35; refine (CallsIn.inRound l (callsIn_wide.2 (zAz.calls CU.k AL cL L _ true W HLW.out HLC.out.2.1 HGW.out HC2.out))).mono ?_; rintro e w5 ⟨rfl, hb5⟩; have HB5 := zA1.mk hb5; clear hb5)
       have hsz := HKK.out.b.size
       have hs := HS0.out
       have hOl := blk_lt HOO.out
       have hb6 : Below W.heap.size W w5.drew := below_drew HB5.out
       have HS6 := zA1.mk (Kd.S_below HSS.out hb6)
       have hO6 := (hb6.block _ hOl).trans HOO.out
       have HG6 := zA1.mk (Kd.zAy HGW.out hb6)
       have HB6 := zA1.mk hb6
       clear hb6
       refine start_in (n := 9) (S := fun w' => w'.cell? ⟨w3.heap.size, 0, none⟩ = some v) (ds := [8]) #[false, false, false, false, false, false, false, false, false] (by kernel_rfl) rfl rfl (by rintro ⟨_, _, h_⟩; exact h_) (nd_of (by kernel_rfl)) ((zA9 hO6 0).trans rfl) (fun hHeld => ?_)
       refine with_tabW CU.tab11 CU.bits11 (fun HT_ HW_ => ?_)
       have HO6 := zA1.mk hO6
       clear hO6 hmC hlC hOc hOf zb zc
       generalize w5.drew = w6 at HS6 HO6 HG6 HB6 hHeld ⊢
       refine pure_ (i := 1) (N := some 50) (v := ?_) (a' := ?_) #[false, true, false, false, false, false, false, false, false] rfl rfl (zAq HT_.out (by kernel_rfl)) (fun _ _ _ h => h) (Or.inl ⟨by rfl, ?_⟩) ?_ ?_
       rotate_left
       ·intro w'
        go_simp
        with_reducible rfl
       rotate_left
       ·simp only [Act.put, List.setIfInBounds_toArray, List.set_cons_zero, List.set_cons_succ, i64_w, i32_w]
        rfl
       refine pure_ (i := 3) (N := some 52) (v := ?_) (a' := ?_) #[false, true, false, true, false, false, false, false, false] rfl rfl (zAq HT_.out (by kernel_rfl)) (fun _ _ _ h => h) (Or.inl ⟨by rfl, ?_⟩) ?_ ?_
       rotate_left
       ·intro w'
        go_simp
        with_reducible rfl
       rotate_left
       ·simp only [Act.put, List.setIfInBounds_toArray, List.set_cons_zero, List.set_cons_succ, i64_w, i32_w]
        rfl
       refine take_ (i := 0) (N := some 49) (v := ?_) (a' := ?_) #[true, true, false, true, false, false, false, false, false] rfl rfl (zC3 HT_.out HW_.out (by kernel_rfl)) (fun _ _ _ h => h) (Or.inl ⟨by rfl, ?_⟩) hHeld ?_ ?_
       rotate_left
       ·intro w' s0
        go_simp
        with_reducible rfl
       rotate_left
       ·simp only [Act.put, List.setIfInBounds_toArray, List.set_cons_zero, List.set_cons_succ, i64_w, i32_w]
        rfl
       refine one_ (i := 2) (N := some 51) #[true, true, true, true, false, false, false, false, false] rfl rfl (one_of HT_.out (by kernel_rfl)) (by decide) (fun K hK => ?_)
       refine goes_ Tryd.func37 (by kernel_rfl) rfl #[.int .u64 x.1] (by rfl) rfl rfl (by (try simp only [List.map_toArray, List.map_cons, List.map_nil]); first | done | rfl) ?_
       refine (zB9.calls CU.k _ la _ HG6.out HLA.out).mono ?_
       rintro e w7 ⟨va, rfl, hva, hb7⟩
       obtain ⟨Ava, ca, rfl⟩ := Kd.zCe hva
       refine ⟨_, rfl, ?_⟩
       refine hK.out _ _ ((hb7.cell (World.block_lt_of_cell? _ _ hHeld)).trans hHeld) (fun hHeld => ?_)
       clear hK K
       refine one_ (i := 4) (N := some 53) #[true, true, true, true, true, false, false, false, false] rfl rfl (one_of HT_.out (by kernel_rfl)) (by decide) (fun K hK => ?_)
       refine goes_ Tryd.func37 (by kernel_rfl) rfl #[.int .u64 (Go.bits .andNot .u64 m x.1)] (by rfl) rfl rfl (by (try simp only [List.map_toArray, List.map_cons, List.map_nil]); first | done | rfl) ?_
       refine (zB9.calls CU.k _ lb _ (Kd.zAy HG6.out hb7) HLBB.out).mono ?_
       rintro e w8 ⟨vb, rfl, hvb, hb8⟩
       obtain ⟨Avb, cb, rfl⟩ := Kd.zCe hvb
       refine ⟨_, rfl, ?_⟩
       refine hK.out _ _ ((hb8.cell (World.block_lt_of_cell? _ _ hHeld)).trans hHeld) (fun hHeld => ?_)
       clear hK K
       refine pure_ (i := 5) (N := some 54) (v := ?_) (a' := ?_) #[true, true, true, true, true, true, false, false, false] rfl rfl (zAq HT_.out (by kernel_rfl)) (fun _ _ _ h => h) (Or.inl ⟨by rfl, ?_⟩) ?_ ?_
       rotate_left
       ·intro w'
        go_simp
        with_reducible rfl
       rotate_left
       ·simp only [Act.put, List.setIfInBounds_toArray, List.set_cons_zero, List.set_cons_succ, i64_w, i32_w]
        rfl
       have hlt6 := HB6.out.size
       have hVA := zA1.mk (Kd.zCc (ok' := fun k => w6.heap.size ≤ k) (Kd.R_lower (Kd.R_bound (Kd.zCa hva hb8)) (base' := w3.heap.size + 3) (by omega)) (fun k hk => hk.2.1))
       have hVB := zA1.mk (Kd.zCc (ok' := fun k => w6.heap.size ≤ k) (Kd.R_lower (Kd.R_bound hvb) (base' := w3.heap.size + 3) (by have := hb7.size; omega)) (fun k hk => Nat.le_trans hb7.size hk.2.1))
       have hb68 := hb7.trans (hb8.mono hb7.size)
       have HB68 := zA1.mk hb68
       have HS8 := zA1.mk (Kd.S_mono (ok' := fun k => True ∧ ¬ w6.heap.size ≤ k) (Kd.S_below (Kd.S_bound HS6.out) hb68) (fun k hk => ⟨trivial, by have := hk.2.2.1; omega⟩))
       have hVne : ∀ k, w6.heap.size ≤ k → some k ≠ v.ownBlock := fun k hk e => by have := Kd.S_lt HS6.out k e.symm; omega
       have HO8 := zA1.mk ((hb68.block _ (blk_lt HO6.out)).trans HO6.out)
       have HSZ6 := zA1.mk hlt6
       have hle8 : w3.heap.size + 3 ≤ w8.heap.size := by have := hb68.size; omega
       clear hva hvb hb7 hb8 hb68 hsz hs hlt6
       refine one_ (i := 6) (N := some 55) #[true, true, true, true, true, true, true, false, false] rfl rfl (one_of HT_.out (by kernel_rfl)) (by decide) (fun K hK => ?_)
       refine event_step (v := ?_) (w1 := w8.alloc (.cells [.slice Ava la.length ca, .slice Avb lb.length cb].toArray 41)) (by rfl) ?_ ?_
       rotate_left
       ·go_simp
        rfl
       refine hK.out _ _ (cell_alloc_l _ hHeld) (fun hHeld => ?_)
       clear hK K
       refine one_ (i := 7) (N := some 56) #[true, true, true, true, true, true, true, true, false] rfl rfl (one_of HT_.out (by kernel_rfl)) (by decide) (fun K hK => ?_)
       refine Kd.S_append_step (w0 := w8) (W := w8) k41 (w3.heap.size + 3) (by rfl) (.tmp 49) (.tmp 55) 30 41 (.agg #[(.slice none 0 0), (.slice none 0 0)]) 48 rfl Tryd.underlying30 info41 rfl (by decide) (by omega) v ys ⟨la, lb⟩ [.slice Ava la.length ca, .slice Avb lb.length cb] (fun _ => True) (fun k => w6.heap.size ≤ k) rfl rfl (k41_mkM _ _ _ ⟨la, lb⟩ hVA.out hVB.out) (fun k hk => ⟨trivial, hVne k hk⟩) (fun _ _ => trivial) HS8.out (Below.refl _ _) hle8 (by have := HYS.out; omega) ?_
       intro v9 w9 hS9 hb9 hg9 _
       refine hK.out _ _ ?_ (fun hHeld => ?_)
       ·exact (zA9 ((hb9.block _ (by omega)).trans HO8.out) 0).trans rfl
       clear hK K
       refine last_ (i := 8) (N := none) #[true, true, true, true, true, true, true, true, true] rfl rfl (one_of HT_.out (by kernel_rfl)) (by decide) (fun K hK => ?_)
       obtain ⟨A9, c9, e9⟩ := Kd.S_slice hS9
       rw [show (ys ++ [(⟨la, lb⟩ : S41)]).length = ys.length + 1 by simp] at e9
       subst e9
       have hO9 := (hb9.block _ (show w3.heap.size < w3.heap.size + 3 by omega)).trans HO8.out
       have hf9 := zAh hO9 0
       refine skip_ (w1 := ?_) (by rfl) rfl ?_ ?_
       rotate_left
       ·go_simp
        rfl
       refine hK.out _ _ ?_
       clear hK K
       refine done_ (done_of HT_.out (by kernel_rfl)) ?_
       have hW8 : Below W.heap.size W w8 := HB6.out.trans (HB68.out.mono HSZ6.out)
       have hK8 : Kq w3.heap.size (w3.heap.size + 1 + 1) (w3.heap.size + 1) W w8 := Kq.of hW8 (by have := HKK.out.b.size; have := HS0.out; omega) (by have := HKK.out.b.size; have := HS0.out; omega) (by have := HKK.out.b.size; have := HS0.out; omega)
       have hKW : Kq w3.heap.size (w3.heap.size + 1 + 1) (w3.heap.size + 1) W (w9.setCell ⟨w3.heap.size, 0, none⟩ (.slice A9 (ys.length + 1) c9)) :=
        (hK8.trans (Kq.of hb9 (by omega) (by omega) (by omega))).trans ⟨(Below.refl _ _).setCell (p := ⟨w3.heap.size, 0, none⟩) (by simp) _, Below.heap_setCell _ _ _ _ (by simp; omega), Below.heap_setCell _ _ _ _ (by simp)⟩
       refine ⟨?_, hKW, _, _, HSN.out, blk_set hO9 0 _, ?_, HKK.out.trans hKW⟩
       ·refine ((KeepsFrom.of_grownBy (grown_of_below hW8) (fun _ e => by cases e)).trans ⟨hg9.size, fun k o hB hk ho => (hg9.block k (blk_lt hk) (fun e => ?_)).trans hk⟩).trans ((KeepsOthers.setCell _ _ _).from _)
        obtain ⟨cells, hc⟩ := Kd.S_typed HS8.out k e.symm
        rw [hc] at hk
        cases hk
        cases ho
       ·exact Kd.S_mono (Kd.S_far (Kd.S_bound hS9) (p := ⟨w3.heap.size, 0, none⟩) (fun k hk => by have := hk.2.1; simp; omega) _) (fun _ _ => trivial)
   case done =>
    rintro D xs W hD hxs ⟨v, ys, hall, hO, hS, hK⟩ hDef
    rw [hxs, HOUT.out] at hall
    injection hall with hall
    subst hall
    have hOc : W.cell? ⟨w3.heap.size, 0, none⟩ = some v := (zA9 hO 0).trans rfl
    obtain ⟨A, c, rfl⟩ := Kd.S_slice hS
    have hB : Below w.heap.size w W := HBW.out.trans (hK.b.mono HB3.out.size)
    have hB3s := HB3.out.size
    have HSS := zA1.mk hS
    have HOO := zA1.mk hO
    have HKK := zA1.mk hK
    have HBB := zA1.mk hB
    have HDD := zA1.mk hDef
    have HD := zA1.mk hD
    clear hS hO hK hB hDef hD
    gi_wp2_with (refine ⟨trivial, ?_⟩; gi_at_call 38; refine (callsIn_wide.2 (sortCallC W (w3.heap.size + 3) _ out HOK.out HSS.out)).mono ?_; rintro e w9 ⟨rfl, hS9, hg9⟩; have hSn := Kd.S_base HSS.out; have hO9 := blk_grown HOO.out hg9 (fun e_ => by have := hSn _ e_.symm; omega); have hOc9 : w9.cell? ⟨w3.heap.size, 0, none⟩ = some (.slice A out.length c) := (zA9 hO9 0).trans rfl; have hD9 := blk_grown HDD.out hg9 (fun e_ => by obtain ⟨cells, hc⟩ := Kd.S_typed HSS.out _ e_.symm; have h_ := HDD.out; rw [hc] at h_; cases h_))
    refine ⟨by simp, .inl ⟨_, _, rfl, run_takeDeferred hD9, ?_⟩⟩
    have hpD := grownBy_putObj' w9 D (.deferred none)
    have hDs := HD.out
    have hs := HS0.out
    have hB9 : Below w.heap.size w w9 := HBB.out.grown hg9 (by have := HKK.out.b.size; omega) (fun k hk => by have := hSn k hk; omega)
    refine ⟨.tuple #[.slice A out.length c, .int .i64 0], by simp [results, Tryd.f10, go_sem], .slice A out.length c, rfl, ?_, hB9.grown hpD (by have := HKK.out.b.size; have := hg9.size; omega) (fun k hk => by cases hk; omega)⟩
    refine Kd.S_lower (Kd.S_mono (Kd.S_step (Kd.S_bound hS9) (fun k hk hlt => hpD.block k hlt (fun e => ?_))) (fun _ _ => trivial)) (by omega)
    cases e
    obtain ⟨_, _, _, q, _, cells, hcell⟩ := hk
    rw [hcell] at hD9
    cases hD9
end
end Go.Proofs.YtbghfbhlbfcloaaDoor.PL
namespace Go.Proofs.YtbghfbhlbfcloaaDoor.PL
section
open Go.RowKit Go.Proofs.YtbghfbhlbfcloaaDoorW.PrintWords Go.Proofs.YtbghfbhlbfcloaaDoorW.PrintLast Go.Proofs.YtbghfbhlbfcloaaDoorW.PrintMore
attribute [local go_sem] zBw zBu zC7 zC6 zBo zBn zBv zBt   -- for this text's walks alone
set_option linter.unusedVariables false
set_option linter.unusedSimpArgs false
attribute [local go_sem high] eqA68
def liaison_Cuts.f (a0_0 : Int) (l0_1 : List (S68)) (l1 : List Int) : Option ((List (S41)) × Int) := CU.f a0_0 l0_1 l1
theorem liaison_Cuts.calls (a0_0 : Int) (A0_1 : Option Addr) (c0_1 : Nat) (l0_1 : List (S68)) (A1 : Option Addr) (c1 : Nat) (l1 : List Int) (r1 : List (S41)) (r2 : Int) (w : World) (hr0_1 : Kd.C k68 w A0_1 l0_1.length l0_1) (hc0_1 : l0_1.length ≤ c0_1) (hr1 : Kd.C (Kd.int .i64) w A1 l1.length l1) (hc1 : l1.length ≤ c1) (hG : Kd.C (Kd.int .u8) w (some tabA) tabL.length tabL) (h : liaison_Cuts.f a0_0 l0_1 l1 = some (r1, r2)) :
  Calls Tryd.prog 10 #[.agg #[.int .i64 a0_0, .slice A0_1 l0_1.length c0_1], .slice A1 l1.length c1] w fun e w' => ∃ v0_ : Value, e = .returned (.tuple #[v0_, .int .i64 r2]) ∧ Kd.S k41 41 w' w.heap.size (fun _ => True) v0_ r1 ∧ Below w.heap.size w w' :=
  CU.calls a0_0 A0_1 c0_1 l0_1 A1 c1 l1 r1 r2 w hr0_1 hc0_1 hr1 hc1 hG h
end
end Go.Proofs.YtbghfbhlbfcloaaDoor.PL
namespace Go.Proofs.YtbghfbhlbfcloaaDoor.PL
section
open Go.RowKit Go.Sort Go.Proofs Go.Proofs.YtbghfbhlbfcloaaDoorW.PrintWords Go.Proofs.YtbghfbhlbfcloaaDoorW.PrintLast Go.Proofs.YtbghfbhlbfcloaaDoorW.PrintMore
set_option linter.unusedVariables false
set_option linter.unusedSimpArgs false
theorem sixteen : 0 < 16 := by decide
theorem info68m : (Tryd.prog.info? 68).map (fun i => (i.zero, i.size, i.bytes)) = some (some (.agg #[.int .i64 0, .int .i64 0]), 2, 16) := by kernel_rfl
theorem emptyE (w : World) : Kd.R k68 68 (w.alloc (.cells #[] 68)) w.heap.size (fun _ => True) (.slice (some ⟨w.heap.size, 0, none⟩) 0 0) [] :=
 ⟨fun _ _ => trivial, OwnRow.lit w w.heap.size (Reps.none _ _) (Nat.le_refl _) (by simp)⟩
set_option maxHeartbeats 1000000 in
theorem cloneE (A : Option Addr) (c : Nat) (l : List S68) (w : World) (hr : Kd.C k68 w A l.length l) (hc : l.length ≤ c) (hl : l.length ≤ 1000) :
  Calls Tryd.prog 62 #[.slice A l.length c] w fun e w' => ∃ v, e = .returned v ∧ Kd.R k68 68 w' w.heap.size (fun _ => True) v l ∧ Below w.heap.size w w' := by
 rcases A with _ | ad
 ·have h0 : l = [] := by
   rcases Nat.eq_zero_or_pos l.length with h | h
   ·exact List.eq_nil_of_length_eq_zero h
   ·obtain ⟨ad, e, _⟩ := hr.2.2 h
    cases e
  subst h0
  have he := @Lib.run_eql_slice_nil Tryd.prog
  go_enter Tryd.func62, Tryd.ntmps62
  go_wp2
  go_ret
  exact ⟨_, rfl, Kd.R_nil _ _ _ _ _, Below.refl _ _⟩
 ·have HR := zA1.mk hr
  have HL := zA1.mk hl
  have HC := zA1.mk hc
  clear hr hl hc
  have he := Lib.run_eql_slice_nil (P := Tryd.prog) (t := 26) (e := 68) (h := Tryd.underlying26)
  go_enter Tryd.func62, Tryd.ntmps62
  go_wp2_with (at_builtin; go_loud (refine Kd.R_append_rows k68 (Rr := k68.K (w.alloc (.cells #[] 68))) (w0 := w) w.heap.size rfl (.tmp 5) (.tmp 6) 26 68 (.agg #[.int .i64 0, .int .i64 0]) 16 rfl Tryd.underlying26 info68m rfl Nat.zero_lt_two sixteen (.slice (some ⟨w.heap.size, 0, none⟩) 0 0) [] l (some ad) l.length c (fun _ => True) (fun _ => False) rfl rfl ?aO ?aR ?aK ?aN ?aF ?aB ?aS ?aL ?_); (case aO => exact emptyE w); (case aR => exact (Kd.zA8 HR.out _)); (case aK => intro x cs hK; obtain rfl := k68_open hK; exact k68_mkM _ _ _ _); (case aN => exact fun _ h => h.elim); (case aF => exact fun _ _ => trivial); (case aB => exact zA2 (Below.refl _ _) _); (case aS => simp); (case aL => have := HL.out; simp; omega); intro v1 w1 ho hb hg hat)
  go_ret
  exact ⟨_, rfl, ho, hb⟩
def adjB : List S68 → Bool
 | a :: b :: r => !(a.f0 == b.f0 && a.f1 == b.f1) && adjB (b :: r)
 | _ => true
theorem adj_at : ∀ (l : List S68) (k : Nat), adjB l = true → 1 ≤ k → k < l.length → ((zB4 l (k : Int)).f0 == (zB4 l ((k : Int) - 1)).f0 && (zB4 l (k : Int)).f1 == (zB4 l ((k : Int) - 1)).f1) = false
 | [], k, _, _, h => by simp at h
 | [a], k, _, h1, h => by simp at h; omega
 | a :: b :: r, k, hadj, h1, h => by
  simp only [adjB, Bool.and_eq_true] at hadj
  by_cases hk : k = 1
  ·subst hk
   have h2 := hadj.1
   simp only [Bool.not_eq_true'] at h2
   have e1 : zB4 (a :: b :: r) ((1 : Nat) : Int) = b := rfl
   have e2 : zB4 (a :: b :: r) (((1 : Nat) : Int) - 1) = a := rfl
   rw [e1, e2]
   rw [← h2]
   congr 1
   ·exact Bool.beq_comm ..
   ·exact Bool.beq_comm ..
  ·obtain ⟨j, rfl⟩ : ∃ j, k = j + 1 := ⟨k - 1, by omega⟩
   have ih := adj_at (b :: r) j hadj.2 (by omega) (by simpa using h)
   have e1 : zB4 (a :: b :: r) ((j + 1 : Nat) : Int) = zB4 (b :: r) (j : Int) := by
    simp [zB4]
   have e2 : zB4 (a :: b :: r) (((j + 1 : Nat) : Int) - 1) = zB4 (b :: r) ((j : Int) - 1) := by
    obtain ⟨i, rfl⟩ : ∃ i, j = i + 1 := ⟨j - 1, by omega⟩
    simp only [zB4]
    rw [show (((i + 1 + 1 : Nat) : Int) - 1).toNat = i + 1 by omega, show (((i + 1 : Nat) : Int) - 1).toNat = i by omega]
    rfl
   rw [e1, e2]
   exact ih
theorem adj_atI (l : List S68) (x : Int) (h : adjB l = true) (h1 : 1 ≤ x) (h2 : x < l.length) : ((zB4 l x).f0 == (zB4 l (x - 1)).f0 && ((zB4 l x).f1 == (zB4 l (x - 1)).f1)) = false := by
 have := adj_at l x.toNat h (by omega) (by omega)
 rwa [show ((x.toNat : Nat) : Int) = x by omega] at this
attribute [local go_sem high] eqA68
set_option maxHeartbeats 1000000 in
theorem compactE (A : Option Addr) (c : Nat) (l : List S68) (w : World) (hr : Kd.C k68 w A l.length l) (hc : l.length ≤ c) (hl : l.length ≤ 1000) (hadj : adjB l = true) :
  Calls Tryd.prog 65 #[.slice A l.length c] w fun e w' => e = .returned (.slice A l.length c) ∧ zAr w w' := by
 have HR := zA1.mk hr
 have HC := zA1.mk hc
 have HA := zA1.mk hadj
 clear hr hc hadj
 by_cases h2 : l.length < 2
 ·go_enter Tryd.func65, Tryd.ntmps65
  go_wp2
  go_ret
  exact ⟨rfl, ⟨0, rfl⟩⟩
 ·go_enter Tryd.func65, Tryd.ntmps65
  go_wp2
  go_loopw [3] (fun v3 w' => ∃ x : Int, v3 = .int .i64 x ∧ 1 ≤ x ∧ x ≤ l.length ∧ zAr w w') (fun v3 _ => l.length - (intOf v3).toNat)
  case atStart => exact ⟨1, rfl, by omega, by omega, ⟨0, rfl⟩⟩
  case round =>
   obtain ⟨x, rfl, hk1, hk2, hd⟩ := hrel
   obtain ⟨n, rfl⟩ := hd.out
   by_cases hlt : x < l.length
   ·obtain ⟨ad, e1, ha0, ha1⟩ := at_T68 HR.out x (by omega) (by omega)
    obtain ⟨ad', e2, hb0, hb1⟩ := at_T68 HR.out (x - 1) (by omega) (by omega)
    subst e1
    cases e2
    have hz := adj_atI l x HA.out hk1 hlt
    have b0 : 0 ≤ x := by omega
    have b1 : 0 ≤ x - 1 := by omega
    have b2 : x - 1 < l.length := by omega
    rw [show (x - 1).toNat = x.toNat - 1 by omega] at hb0 hb1
    have b3 : IntKind.i64.wrap (x - 1) = x - 1 := by rw [i64_w]; unfold wrap64; omega
    go_wp2
    go_quiet (fail)
    clear b3
    go_wp2
    go_roundw
    case rel => exact ⟨x + 1, by go_num, by omega, by omega, ⟨n + nq, rfl⟩⟩
    case measure => simp [intOf]; omega
   ·go_wp2
    go_ret
    exact ⟨rfl, ⟨n, rfl⟩⟩
end
end Go.Proofs.YtbghfbhlbfcloaaDoor.PL
namespace Go.Proofs.YtbghfbhlbfcloaaDoor.PL
section
open Go.RowKit Go.Sort Go.Proofs Go.Proofs.YtbghfbhlbfcloaaDoorW.PrintWords Go.Proofs.YtbghfbhlbfcloaaDoorW.PrintLast Go.Proofs.YtbghfbhlbfcloaaDoorW.PrintMore
set_option linter.unusedVariables false
set_option linter.unusedSimpArgs false
def ordE (x y : S68) : Int := if x.f0 < y.f0 then -1 else if y.f0 < x.f0 then 1 else if x.f1 < y.f1 then -1 else if y.f1 < x.f1 then 1 else 0
def okE (n : Int) (e : S68) : Bool := decide (0 ≤ e.f0) && decide (e.f0 < n) && (decide (0 ≤ e.f1) && decide (e.f1 < n))
def sortE (l : List S68) : List S68 := isort (leC ordE) l
def nodupE : List S68 → Bool
 | [] => true
 | a :: r => r.all (fun b => !(a.f0 == b.f0 && a.f1 == b.f1)) && nodupE r
def MK.f (a0 : Int) (l1 : List S68) : Option (Int × List S68 × Int) :=
 if 0 ≤ a0 ∧ a0 ≤ 64 ∧ l1.all (okE a0) = true ∧ l1.length ≤ 1000 ∧ nodupE l1 = true then some (a0, sortE l1, 0) else none
theorem cmp_f (a b : Int) : zCb.f a b = some (if a < b then -1 else if b < a then 1 else 0) := by
 unfold zCb.f zC4.f
 simp only [Option.bind_some, bne_self_eq_false, Bool.false_eq_true, if_false]
 by_cases h1 : a < b
 ·rw [if_pos h1, if_pos h1]
 ·rw [if_neg h1, if_neg h1]
  by_cases h2 : b < a
  ·rw [if_pos h2, if_pos h2]
  ·rw [if_neg h2, if_neg h2]
theorem or_f (k : Nat) (p q : Int) : zC0.f (k + 4) [p, q] = some (if p = 0 then q else p) := by
 unfold zC0.f
 by_cases hp : p = 0
 ·by_cases hq : q = 0
  ·subst hp hq
   simp [zC0.l0, Go.Proofs.YtbghfbhlbfcloaaDoorW.PrintWords.rd, wrap64]
  ·subst hp
   simp [zC0.l0, Go.Proofs.YtbghfbhlbfcloaaDoorW.PrintWords.rd, wrap64, hq]
 ·simp [zC0.l0, Go.Proofs.YtbghfbhlbfcloaaDoorW.PrintWords.rd, hp]
theorem order_f (k : Nat) (x y : S68) : zBy.f (k + 4) x.f0 x.f1 y.f0 y.f1 = some (ordE x y) := by
 unfold zBy.f ordE
 rw [cmp_f, cmp_f]
 simp only [Option.bind_some]
 rw [or_f]
 by_cases h1 : x.f0 < y.f0
 ·simp [h1]
 ·by_cases h2 : y.f0 < x.f0
  ·simp [h1, h2]
  ·simp [h1, h2]
theorem ordE_lt (x y : S68) : ltOf ordE x y = decide (x.f0 < y.f0 ∨ (x.f0 = y.f0 ∧ x.f1 < y.f1)) := by
 unfold ltOf ordE
 by_cases h1 : x.f0 < y.f0
 ·simp [h1]
 ·by_cases h2 : y.f0 < x.f0
  ·simp [h1, h2]; omega
  ·have : x.f0 = y.f0 := by omega
   by_cases h3 : x.f1 < y.f1
   ·simp [h3, this]
   ·by_cases h4 : y.f1 < x.f1 <;> simp [h1, h2, h3, h4]
theorem ordE_swo : SWO (ltOf ordE) where
 irrefl x := by rw [ordE_lt]; simp
 trans x y z h1 h2 := by rw [ordE_lt] at *; simp at *; omega
 ntrans x y z h1 h2 := by rw [ordE_lt] at *; simp at *; omega
theorem nodupE_at : ∀ (l : List S68), nodupE l = true → ∀ i j, i < j → j < l.length → ∀ z, ¬ ((l.getD i z).f0 = (l.getD j z).f0 ∧ (l.getD i z).f1 = (l.getD j z).f1)
 | [], _, i, j, _, h, _ => by simp at h
 | a :: r, hn, i, j, hij, hj, z => by
  simp only [nodupE, Bool.and_eq_true] at hn
  obtain ⟨j, rfl⟩ : ∃ q, j = q + 1 := ⟨j - 1, by omega⟩
  have hj' : j < r.length := by simpa using hj
  cases i with
  | zero =>
   have h1 := List.all_eq_true.1 hn.1 r[j] (List.getElem_mem hj')
   simp only [Bool.not_eq_true', Bool.and_eq_false_iff, beq_eq_false_iff_ne] at h1
   rw [List.getD_cons_zero, List.getD_cons_succ, List.getD_eq_getElem?_getD, List.getElem?_eq_getElem hj']
   rintro ⟨e1, e2⟩
   rcases h1 with h1 | h1
   ·exact h1 e1
   ·exact h1 e2
  | succ i =>
   rw [List.getD_cons_succ, List.getD_cons_succ]
   exact nodupE_at r hn.2 i j (by omega) hj' z
theorem nodupE_pair : ∀ (l : List S68), nodupE l = true → l.Pairwise fun a b => ¬ (a.f0 = b.f0 ∧ a.f1 = b.f1)
 | [], _ => List.Pairwise.nil
 | a :: r, hn => by
  simp only [nodupE, Bool.and_eq_true] at hn
  refine List.Pairwise.cons (fun b hb => ?_) (nodupE_pair r hn.2)
  have h1 := List.all_eq_true.1 hn.1 b hb
  simp only [Bool.not_eq_true', Bool.and_eq_false_iff, beq_eq_false_iff_ne] at h1
  rintro ⟨e1, e2⟩
  rcases h1 with h1 | h1
  ·exact h1 e1
  ·exact h1 e2
theorem adj_of_pair : ∀ (l : List S68), (l.Pairwise fun a b => ¬ (a.f0 = b.f0 ∧ a.f1 = b.f1)) → adjB l = true
 | [], _ => rfl
 | [a], _ => rfl
 | a :: b :: r, h => by
  have h1 := List.rel_of_pairwise_cons h (List.mem_cons_self (a := b) (l := r))
  have h2 := adj_of_pair (b :: r) (List.Pairwise.of_cons h)
  simp only [adjB, h2, Bool.and_true, Bool.not_eq_true', Bool.and_eq_false_iff, beq_eq_false_iff_ne]
  by_cases e : a.f0 = b.f0
  ·exact .inr (fun e2 => h1 ⟨e, e2⟩)
  ·exact .inl e
theorem sortE_adj (l : List S68) (h : nodupE l = true) : adjB (sortE l) = true :=
 adj_of_pair _ (((isort_perm _ l).pairwise_iff (fun h e => h ⟨e.1.symm, e.2.symm⟩)).2 (nodupE_pair l h))
theorem cmpE (x y : S68) (cx cy : List Value) (W : World) (hx : k68.K W x cx) (hy : k68.K W y cy) :
  Calls Tryd.prog 64 (#[.agg cx.toArray, .agg cy.toArray] ++ #[]) W fun e w' => e = .returned (.int .i64 (ordE x y)) ∧ Gr W w' := by
 obtain rfl := k68_open hx
 obtain rfl := k68_open hy
 exact (zBy.exact 4 x.f0 x.f1 y.f0 y.f1 (ordE x y) W (order_f 0 x y)).mono fun e w' h => ⟨h.1, h.2.2⟩
theorem sortE_eq (l : List S68) : (l.mergeSort fun x y => !(decide (ordE y x < 0))) = sortE l := merge_cf ordE ordE_swo l (fun a b _ _ h1 h2 => by
 have l1 := ordE_lt a b
 have l2 := ordE_lt b a
 unfold ltOf at l1 l2
 rw [decide_eq_false h1] at l1
 rw [decide_eq_false h2] at l2
 have l1' := of_decide_eq_false l1.symm
 have l2' := of_decide_eq_false l2.symm
 obtain ⟨a0, a1⟩ := a
 obtain ⟨b0, b1⟩ := b
 dsimp only at l1' l2'
 rw [show a0 = b0 by omega, show a1 = b1 by omega])
theorem sortCallE (W : World) (base : Nat) (v : Value) (l : List S68) (hl : l.length ≤ 1000) (hn : nodupE l = true) (HO : Kd.R k68 68 W base (fun _ => True) v l) (hb : base ≤ W.heap.size) :
  Calls Tryd.prog 63 #[v, .func (.func 64) #[] #[]] W fun e w' => e = .returned (.tuple #[]) ∧ Kd.R k68 68 w' base (fun _ => True) v (sortE l) ∧ Below base W w' := by
 rcases Nat.eq_zero_or_pos l.length with h0 | h0
 ·obtain rfl := List.eq_nil_of_length_eq_zero h0
  obtain ⟨A, c, rfl⟩ := Kd.zCe HO
  refine (sortNoneEdge A c _ W).mono fun e w' h => ?_
  obtain ⟨he, rfl⟩ := h
  exact ⟨he, by simpa [sortE, isort] using HO, Below.refl _ _⟩
 ·have HO' := HO
  obtain ⟨_, inner, ⟨_, ho⟩, _⟩ := HO'
  rcases ho with ⟨_, hx⟩ | ⟨g, cap, cur, rfl, hg, _⟩
  ·omega
  ·refine (sortR sortsEdge HO (by omega) h0 z68 ordE ordE_swo ?_ (enters_of Tryd.func64 (by kernel_rfl) rfl) (fun x y cx cy W' _ _ hx hy => cmpE x y cx cy W' hx hy)).mono fun e w' h => ⟨h.1, sortE_eq l ▸ h.2.1, (Below.refl base W).grown h.2.2 hb (fun k hk => by cases hk; exact hg)⟩
   intro i j hi hj h1 h2
   have l1 := ordE_lt (l.getD i z68) (l.getD j z68)
   have l2 := ordE_lt (l.getD j z68) (l.getD i z68)
   unfold ltOf at l1 l2
   rw [decide_eq_false h1] at l1
   rw [decide_eq_false h2] at l2
   have l1' := of_decide_eq_false l1.symm
   have l2' := of_decide_eq_false l2.symm
   rcases Nat.lt_trichotomy i j with h | h | h
   ·exact absurd (by omega) (nodupE_at l hn i j h hj z68)
   ·exact h
   ·exact absurd (by omega) (nodupE_at l hn j i h hi z68)
theorem okE_at {n : Int} {l : List S68} (h : l.all (okE n) = true) (x : Int) (h0 : 0 ≤ x) (h1 : x < l.length) : zCd.f n (zB4 l x).f0 = some false ∧ zCd.f n (zB4 l x).f1 = some false := by
 have hl : x.toNat < l.length := by omega
 have h2 := List.all_eq_true.1 h l[x.toNat] (List.getElem_mem hl)
 have e : zB4 l x = l[x.toNat] := by unfold zB4; rw [List.getD_eq_getElem?_getD, List.getElem?_eq_getElem hl]; rfl
 rw [← e] at h2
 simp only [okE, Bool.and_eq_true, decide_eq_true_eq] at h2
 obtain ⟨⟨a, b⟩, c, d⟩ := h2
 unfold zCd.f
 rw [if_neg (by omega), if_neg (by omega), decide_eq_false (by omega), decide_eq_false (by omega)]
 exact ⟨rfl, rfl⟩
theorem compactS (A : Option Addr) (c : Nat) (l : List S68) (W : World) {base : Nat} (hl : l.length ≤ 1000) (hn : nodupE l = true) (HO : Kd.R k68 68 W base (fun _ => True) (.slice A l.length c) (sortE l)) :
  Calls Tryd.prog 65 #[.slice A l.length c] W fun e w' => e = .returned (.slice A l.length c) ∧ zAr W w' := by
 have e : (sortE l).length = l.length := (isort_perm _ l).length_eq
 have h := compactE A c (sortE l) W (Kd.zBd HO).2.2 (by rw [e]; exact (Kd.zBd HO).2.1) (by omega) (sortE_adj l hn)
 rwa [e] at h
set_option maxHeartbeats 2000000 in
theorem MK.calls (a0 : Int) (A1 : Option Addr) (c1 : Nat) (l1 : List S68) (r1 : Int) (r2 : List S68) (r3 : Int) (w : World) (hr1 : Kd.C k68 w A1 l1.length l1) (hc1 : l1.length ≤ c1) (h : MK.f a0 l1 = some (r1, r2, r3)) :
  Calls Tryd.prog 33 #[.int .i64 a0, .slice A1 l1.length c1] w fun e w' => ∃ v1_ : Value, e = .returned (.tuple #[.agg #[.int .i64 r1, v1_], .int .i64 r3]) ∧ Kd.R k68 68 w' w.heap.size (fun _ => True) v1_ r2 ∧ Below w.heap.size w w' := by
 unfold MK.f at h
 split at h
 case isFalse => cases h
 case isTrue hh =>
  obtain ⟨h0, h64, hall, hlen, hnd⟩ := hh
  injection h with h
  injection h with e1 h
  injection h with e2 e3
  subst e1 e2 e3
  have HA := zA1.mk hall
  have HN := zA1.mk hnd
  have HR := zA1.mk hr1
  have HC := zA1.mk hc1
  have HL := zA1.mk hlen
  clear hall hnd hr1 hc1 hlen
  have hu28 := Tryd.underlying28
  have hu68 := Tryd.underlying68
  have g1 : ¬ a0 < 0 := by omega
  have g2 : ¬ 64 < a0 := by omega
  go_enter Tryd.func33, Tryd.ntmps33
  go_wp2
  go_loopw [18] (fun v18 wr => ∃ x : Int, v18 = .int .i64 x ∧ 0 ≤ x ∧ x ≤ l1.length ∧ zA1 (wr.heap[w.heap.size]? = some (.cells #[.int .i64 0, .slice none 0 0] 28 (0, 0))) ∧ zA1 (Below w.heap.size w wr)) (fun v18 _ => l1.length - (intOf v18).toNat)
  case atStart => exact ⟨0, rfl, by omega, by omega, ⟨blk_new w _⟩, ⟨zA2 (Below.refl _ _) _⟩⟩
  case round =>
   obtain ⟨x, rfl, hx0, hx1, HK, HB⟩ := hrel
   have hle : (l1.length : Int) ≤ 1000 := by have := HL.out; omega
   by_cases hlt : x < l1.length
   ·obtain ⟨ad, e1, ha0, ha1⟩ := at_T68 HR.out x hx0 hlt
    subst e1
    have hb0 := (HB.out.cell (World.block_lt_of_cell? w _ ha0)).trans ha0
    have hb1 := (HB.out.cell (World.block_lt_of_cell? w _ ha1)).trans ha1
    clear ha0 ha1
    have C := fun W => zCd.calls a0 (zB4 l1 x).f0 false W (okE_at HA.out x hx0 hlt).1
    have C' := fun W => zCd.calls a0 (zB4 l1 x).f1 false W (okE_at HA.out x hx0 hlt).2
    generalize (zB4 l1 x).f0 = p at hb0 C
    generalize (zB4 l1 x).f1 = q at hb1 C'
    have HC0 := zA1.mk C
    have HC1 := zA1.mk C'
    clear C C'
    go_wp2_with (go_at_call 61; (first | with_reducible refine (HC0.out _).mono ?_ | with_reducible refine (HC1.out _).mono ?_); rintro e w' ⟨rfl, ⟨nd, rfl⟩⟩)
    go_roundw
    case rel => exact ⟨x + 1, by go_num, by omega, by omega, ⟨by (with_reducible repeat (first | refine zAb ?_ _ | refine zAf ?_ | refine zAa ?_ _)); exact HK.out⟩, ⟨by repeat (first | (with_reducible first | exact HB.out | apply zA2 | apply zA0 | apply zA3) | exact HB.out)⟩⟩
    case measure => simp [intOf]; omega
   ·have CL := cloneE A1 c1 l1 wr (Kd.zAy HR.out HB.out) HC.out HL.out
    have HCL := zA1.mk CL
    clear CL
    go_wp2_with (first | (go_at_call 62; refine HCL.out.mono ?_; rintro e w2 ⟨v, rfl, ho, hb⟩; obtain ⟨Ao, co, rfl⟩ := Kd.zCe ho; have HO := zA1.mk ho; have HB2 := zA1.mk hb; clear ho hb) | (go_at_call 63; refine (sortCallE _ wr.heap.size _ l1 HL.out HN.out HO.out HB2.out.size).mono ?_; rintro e w3 ⟨rfl, ho3, hb3⟩; have HO3 := zA1.mk ho3; have HB3 := zA1.mk hb3; clear ho3 hb3) | (go_at_call 65; refine (compactS Ao co l1 _ HL.out HN.out HO3.out).mono ?_; rintro e w4 ⟨rfl, ⟨nd, rfl⟩⟩; have HK3 := zA1.mk ((HB3.out.block _ (blk_lt HK.out)).trans (zBc HK.out HB2.out)); have hcz0 : w3.cell? ⟨w.heap.size, 0, none⟩ = some (.int .i64 0) := (zA9 HK3.out 0).trans rfl; have hcz1 : w3.cell? ⟨w.heap.size, 1, none⟩ = some (.slice none 0 0) := (zA9 HK3.out 1).trans rfl; have hfz0 := zAh HK3.out 0; have hfz1 := zAh HK3.out 1))
    refine bodyPost_ret (results_list (rs := [.cell 4 28, .tmp 5]) rfl (by simp) (.cell w.heap.size 28 #[.int .i64 a0, .slice Ao l1.length co] (0, 0) _ rfl (by (with_reducible repeat (first | refine zAb ?_ _ | refine zAf ?_ | refine zAa ?_ _)); refine blk_put (cs := #[.int .i64 a0, .slice none 0 0]) ?_ 1 _ rfl; (with_reducible repeat (first | refine zAb ?_ _ | refine zAf ?_ | refine zAa ?_ _)); refine blk_put (cs := #[.int .i64 0, .slice none 0 0]) ?_ 0 _ rfl; (with_reducible repeat (first | refine zAb ?_ _ | refine zAf ?_ | refine zAa ?_ _)); exact HK3.out) Tryd.underlying28 rfl (by kernel_rfl) (.tmp .nil))) rfl ?_
    have hlt' : w.heap.size ≤ wr.heap.size := HB.out.size
    refine ⟨.slice Ao l1.length co, rfl, ?_, ?_⟩
    ·refine Kd.R_lower (Kd.zCc (Kd.R_far (p := ⟨w.heap.size, 1, none⟩) (Kd.R_far (p := ⟨w.heap.size, 0, none⟩) (Kd.zAj (Kd.R_types HO3.out HK3.out (by decide)) _) (fun _ hk => hk.2) (.int .i64 a0)) (fun _ hk => hk.2) (.slice Ao l1.length co)) (fun _ h_ => trivial)) hlt'
    ·refine zA7 (zA7 (zA0 ?_ _) (Nat.le_refl _)) (Nat.le_refl _)
     exact (HB.out.trans (HB2.out.mono hlt')).trans (HB3.out.mono hlt')
end
end Go.Proofs.YtbghfbhlbfcloaaDoor.PL
namespace Go.Proofs.YtbghfbhlbfcloaaDoor.PL
section
open Go.RowKit Go.Proofs.YtbghfbhlbfcloaaDoorW.PrintWords Go.Proofs.YtbghfbhlbfcloaaDoorW.PrintLast Go.Proofs.YtbghfbhlbfcloaaDoorW.PrintMore
attribute [local go_sem] zBw zBu zC7 zC6 zBo zBn zBv zBt   -- for this text's walks alone
set_option linter.unusedVariables false
set_option linter.unusedSimpArgs false
def graph_Make.f (a0 : Int) (l1 : List (S68)) : Option (Int × (List (S68)) × Int) := MK.f a0 l1
theorem graph_Make.calls (a0 : Int) (A1 : Option Addr) (c1 : Nat) (l1 : List (S68)) (r1 : Int) (r2 : List (S68)) (r3 : Int) (w : World) (hr1 : Kd.C k68 w A1 l1.length l1) (hc1 : l1.length ≤ c1) (h : graph_Make.f a0 l1 = some (r1, r2, r3)) :
  Calls Tryd.prog 33 #[.int .i64 a0, .slice A1 l1.length c1] w fun e w' => ∃ v1_ : Value, e = .returned (.tuple #[.agg #[.int .i64 r1, v1_], .int .i64 r3]) ∧ Kd.R k68 68 w' w.heap.size (fun _ => True) v1_ r2 ∧ Below w.heap.size w w' :=
  MK.calls a0 A1 c1 l1 r1 r2 r3 w hr1 hc1 h
end
end Go.Proofs.YtbghfbhlbfcloaaDoor.PL
namespace Go.Proofs.YtbghfbhlbfcloaaDoor.PL
section
open Go.RowKit Go.Proofs.YtbghfbhlbfcloaaDoorW.PrintWords Go.Proofs.YtbghfbhlbfcloaaDoorW.PrintLast Go.Proofs.YtbghfbhlbfcloaaDoorW.PrintMore
set_option linter.unusedVariables false
set_option linter.unusedSimpArgs false
theorem flat_get {sz : Nat} : ∀ (cs : List (List Value)) (_ : ∀ c ∈ cs, c.length = sz) (j i : Nat) (c : List Value), cs[j]? = some c → i < sz → cs.flatten[j * sz + i]? = c[i]?
 | [], _, j, i, c, h, _ => by simp at h
 | a :: r, hl, j, i, c, h, hi => by
  have ha := hl a (by simp)
  cases j with
  | zero =>
   simp at h
   subst h
   rw [List.flatten_cons, Nat.zero_mul, Nat.zero_add, List.getElem?_append_left (by omega)]
  | succ j =>
   simp at h
   rw [List.flatten_cons, List.getElem?_append_right (by rw [ha, Nat.add_mul]; omega), ha]
   rw [show (j + 1) * sz + i - sz = j * sz + i by rw [Nat.add_mul]; omega]
   exact flat_get r (fun q hq => hl q (by simp [hq])) j i c h hi
theorem litC {α : Type} (d : Kd α) (W : World) (e : Nat) (xs : List α) (cs : List (List Value)) (inner : Array Value) (hin : inner = cs.flatten.toArray) (hl : cs.length = xs.length) (hm : xs.length ≤ 1000)
  (hsz : ∀ c ∈ cs, c.length = d.sz) (hK : ∀ (j : Nat) (x : α) (c : List Value), xs[j]? = some x → cs[j]? = some c → d.K (W.alloc (.cells inner e)) x c) :
  Kd.C d (W.alloc (.cells inner e)) (some ⟨W.heap.size, 0, none⟩) xs.length xs := by
 refine ⟨rfl, by omega, fun _ => ⟨_, rfl, fun j x hj => ?_⟩⟩
 have hjl := (List.getElem?_eq_some_iff.1 hj).1
 have hc : cs[j]? = some cs[j] := List.getElem?_eq_getElem (by omega)
 refine ⟨cs[j], hsz _ (List.getElem_mem _), hK j x _ hj hc, fun i u hu => ?_⟩
 have hi : i < d.sz := by rw [← hsz cs[j] (List.getElem_mem _)]; exact (List.getElem?_eq_some_iff.1 hu).1
 have h1 := flat_get cs hsz j i _ hc hi
 have h2 := zA9 (blk_new W (.cells inner e)) (j * d.sz + i)
 rw [hin] at h2 ⊢
 rw [List.getElem?_toArray, h1, hu] at h2
 rw [show (⟨W.heap.size, 0, none⟩ : Addr).add (j * d.sz + i) = ⟨W.heap.size, j * d.sz + i, none⟩ by simp [Addr.add]; omega]
 exact h2
theorem flat_one (f : Int → Value) : ∀ xs : List Int, (xs.map fun x => [f x]).flatten = xs.map f
 | [] => rfl
 | a :: r => by rw [List.map_cons, List.flatten_cons, flat_one f r]; rfl
theorem litI (W : World) (xs : List Int) (inner : Array Value) (hin : inner = (xs.map fun x => Value.int .i64 x).toArray) (hm : xs.length ≤ 1000) : Kd.C (Kd.int .i64) (W.alloc (.cells inner 3)) (some ⟨W.heap.size, 0, none⟩) xs.length xs := by
 refine litC (Kd.int .i64) W 3 xs (xs.map fun x => [Value.int .i64 x]) inner ?_ (by simp) hm ?_ ?_
 ·rw [hin, flat_one]
 ·intro c hc
  obtain ⟨x, _, rfl⟩ := List.mem_map.1 hc
  rfl
 ·intro j x c hx hc
  rw [List.getElem?_map, hx] at hc
  cases hc
  rfl
def KE : List S68 := [⟨0, 1⟩, ⟨1, 0⟩, ⟨1, 2⟩, ⟨2, 1⟩, ⟨2, 3⟩, ⟨3, 2⟩]
def KG : List S57 := [⟨⟨#[97]⟩, [0, 1]⟩, ⟨⟨#[98]⟩, [0, 1, 2]⟩, ⟨⟨#[99]⟩, [3, 4]⟩]
def KC : List S41 := [⟨[0], [1, 2, 3]⟩, ⟨[0, 1], [2, 3]⟩, ⟨[0, 1, 2], [3]⟩]
theorem kn_make : graph_Make.f 4 KE = some (4, KE, 0) := by kernel_rfl
theorem kn_pieces : zBm.f 100 4 KE [0, 1, 3] = some ([[0, 1], [3]], 0) := by kernel_rfl
theorem kn_cuts : liaison_Cuts.f 4 KE [0, 1, 2, 3] = some (KC, 0) := by kernel_rfl
theorem kn_joints : zBi.f 100 4 KE [0, 1, 2, 3] = some ([1, 2], 0) := by kernel_rfl
theorem kn_parents : zAg.f 100 KG 5 = some ([1, -1, -1], 0) := by kernel_rfl
theorem kn_same1 : zBb.f 100 [[0, 1], [3]] [[0, 1], [3]] = some true := by kernel_rfl
theorem kn_same2 : zAo.f 100 [0, 1] [0, 1] = some true := by kernel_rfl
theorem kn_same3 : zAo.f 100 [2, 3] [2, 3] = some true := by kernel_rfl
theorem kn_same4 : zAo.f 100 [1, 2] [1, 2] = some true := by kernel_rfl
theorem kn_same5 : zAo.f 100 [1, -1, -1] [1, -1, -1] = some true := by kernel_rfl
def oneE (e : S68) : List Value := [.int .i64 e.f0, .int .i64 e.f1]
theorem litE (W : World) : Kd.C k68 (W.alloc (.cells #[.int .i64 0, .int .i64 1, .int .i64 1, .int .i64 0, .int .i64 1, .int .i64 2, .int .i64 2, .int .i64 1, .int .i64 2, .int .i64 3, .int .i64 3, .int .i64 2] 68)) (some ⟨W.heap.size, 0, none⟩) KE.length KE := by
 refine litC k68 W 68 KE (KE.map oneE) _ rfl rfl (by decide) (fun c hc => ?_) (fun j x c hx hc => ?_)
 ·obtain ⟨x, _, rfl⟩ := List.mem_map.1 hc
  rfl
 ·rw [List.getElem?_map, hx] at hc
  cases hc
  exact k68_mk _ x
theorem litG (W : World) : Kd.C k57 ((((W.alloc (.cells #[.int .i64 0, .int .i64 1] 3)).alloc (.cells #[.int .i64 0, .int .i64 1, .int .i64 2] 3)).alloc (.cells #[.int .i64 3, .int .i64 4] 3)).alloc (.cells #[.string ⟨#[97]⟩, .slice (some ⟨W.heap.size, 0, none⟩) 2 2, .string ⟨#[98]⟩, .slice (some ⟨W.heap.size + 1, 0, none⟩) 3 3, .string ⟨#[99]⟩, .slice (some ⟨W.heap.size + 1 + 1, 0, none⟩) 2 2] 57)) (some ⟨W.heap.size + 1 + 1 + 1, 0, none⟩) KG.length KG := by
 have h1 : Kd.C (Kd.int .i64) (W.alloc (.cells #[.int .i64 0, .int .i64 1] 3)) (some ⟨W.heap.size, 0, none⟩) 2 [0, 1] := litI W [0, 1] _ rfl (by decide)
 have h2 := litI (W.alloc (.cells #[.int .i64 0, .int .i64 1] 3)) [0, 1, 2] _ rfl (by decide)
 have h3 := litI ((W.alloc (.cells #[.int .i64 0, .int .i64 1] 3)).alloc (.cells #[.int .i64 0, .int .i64 1, .int .i64 2] 3)) [3, 4] _ rfl (by decide)
 have h4 := litC k57 (((W.alloc (.cells #[.int .i64 0, .int .i64 1] 3)).alloc (.cells #[.int .i64 0, .int .i64 1, .int .i64 2] 3)).alloc (.cells #[.int .i64 3, .int .i64 4] 3)) 57 KG [[.string ⟨#[97]⟩, .slice (some ⟨W.heap.size, 0, none⟩) 2 2], [.string ⟨#[98]⟩, .slice (some ⟨W.heap.size + 1, 0, none⟩) 3 3], [.string ⟨#[99]⟩, .slice (some ⟨W.heap.size + 1 + 1, 0, none⟩) 2 2]] #[.string ⟨#[97]⟩, .slice (some ⟨W.heap.size, 0, none⟩) 2 2, .string ⟨#[98]⟩, .slice (some ⟨W.heap.size + 1, 0, none⟩) 3 3, .string ⟨#[99]⟩, .slice (some ⟨W.heap.size + 1 + 1, 0, none⟩) 2 2] rfl rfl (by decide) (fun c hc => ?_) (fun j x c hx hc => ?_)
 ·simp only [World.size_alloc] at h4
  exact h4
 ·simp only [List.mem_cons, List.not_mem_nil, or_false] at hc
  rcases hc with rfl | rfl | rfl <;> rfl
 ·rw [World.size_alloc] at h2
  rw [World.size_alloc, World.size_alloc] at h3
  rcases j with _ | _ | _ | j
  ·cases hx; cases hc
   exact k57_mk _ ⟨⟨#[97]⟩, [0, 1]⟩ (Nat.le_refl _) (Kd.zA8 (Kd.zA8 (Kd.zA8 h1 _) _) _)
  ·cases hx; cases hc
   exact k57_mk _ ⟨⟨#[98]⟩, [0, 1, 2]⟩ (Nat.le_refl _) (Kd.zA8 (Kd.zA8 h2 _) _)
  ·cases hx; cases hc
   exact k57_mk _ ⟨⟨#[99]⟩, [3, 4]⟩ (Nat.le_refl _) (Kd.zA8 h3 _)
  ·simp [KG] at hx
theorem kn33 (W : World) : Calls Tryd.prog 33 #[.int .i64 4, .slice (some ⟨W.heap.size, 0, none⟩) 6 6] (W.alloc (.cells #[.int .i64 0, .int .i64 1, .int .i64 1, .int .i64 0, .int .i64 1, .int .i64 2, .int .i64 2, .int .i64 1, .int .i64 2, .int .i64 3, .int .i64 3, .int .i64 2] 68)) fun e w' => ∃ A1 c1, e = .returned (.tuple #[.agg #[.int .i64 4, .slice A1 6 c1], .int .i64 0]) ∧ (6 ≤ c1 ∧ Kd.C k68 w' A1 6 KE) ∧ Below W.heap.size W w' := by
 refine (graph_Make.calls 4 _ _ KE 4 KE 0 _ (litE W) (Nat.le_refl _) kn_make).mono ?_
 rintro e w1 ⟨v1, rfl, hR1, hb1⟩
 obtain ⟨A1, c1, rfl⟩ := Kd.zCe hR1
 have h := Kd.zBd hR1
 exact ⟨A1, c1, rfl, ⟨h.2.1, h.2.2⟩, (zA2 (Below.refl W.heap.size W) _).trans (hb1.mono (by simp))⟩
theorem kn17 (W : World) (A1 : Option Addr) (c1 : Nat) (h1 : Kd.C k68 W A1 6 KE) (hc : 6 ≤ c1) (hG : Kd.C (Kd.int .u8) W (some tabA) tabL.length tabL) : Calls Tryd.prog 17 #[.agg #[.int .i64 4, .slice A1 6 c1], .slice (some ⟨W.heap.size + 1, 0, none⟩) 3 3] ((W.alloc (.cells #[.int .i64 4, .slice A1 6 c1] 28)).alloc (.cells #[.int .i64 0, .int .i64 1, .int .i64 3] 3)) fun e w' => ∃ A2 c2, e = .returned (.tuple #[.slice A2 2 c2, .int .i64 0]) ∧ (2 ≤ c2 ∧ Kd.C (Kd.slice 3 (Kd.int .i64)) w' A2 2 [[0, 1], [3]]) ∧ Below W.heap.size W w' ∧ w'.heap[W.heap.size]? = some (.cells #[.int .i64 4, .slice A1 6 c1] 28 (0, 0)) := by
 have hl := litI (W.alloc (.cells #[.int .i64 4, .slice A1 6 c1] 28)) [0, 1, 3] _ rfl (by decide)
 rw [World.size_alloc] at hl
 refine (zBm.calls 100 4 A1 c1 KE _ 3 [0, 1, 3] [[0, 1], [3]] 0 _ (Kd.zA8 (Kd.zA8 h1 _) _) hc hl (Nat.le_refl _) (Kd.zA8 (Kd.zA8 hG _) _) kn_pieces).mono ?_
 rintro e w2 ⟨v2, rfl, hS2, hb2⟩
 obtain ⟨A2, c2, rfl⟩ := Kd.S_slice hS2
 have h := Kd.S_reads' hS2
 exact ⟨A2, c2, rfl, ⟨h.2.1, h.2.2⟩, (zA2 (zA2 (Below.refl W.heap.size W) _) _).trans (hb2.mono (by simp; omega)), zBc (zAa (blk_new W _) _) hb2⟩
theorem kn10 (W : World) (A1 : Option Addr) (c1 : Nat) (h1 : Kd.C k68 W A1 6 KE) (hc : 6 ≤ c1) (hG : Kd.C (Kd.int .u8) W (some tabA) tabL.length tabL) : Calls Tryd.prog 10 #[.agg #[.int .i64 4, .slice A1 6 c1], .slice (some ⟨W.heap.size, 0, none⟩) 4 4] (W.alloc (.cells #[.int .i64 0, .int .i64 1, .int .i64 2, .int .i64 3] 3)) fun e w' => ∃ A2 c2, e = .returned (.tuple #[.slice A2 3 c2, .int .i64 0]) ∧ (3 ≤ c2 ∧ Kd.C k41 w' A2 3 KC) ∧ Below W.heap.size W w' := by
 have hl := litI W [0, 1, 2, 3] _ rfl (by decide)
 refine (liaison_Cuts.calls 4 A1 c1 KE _ 4 [0, 1, 2, 3] KC 0 _ (Kd.zA8 h1 _) hc hl (Nat.le_refl _) (Kd.zA8 hG _) kn_cuts).mono ?_
 rintro e w2 ⟨v2, rfl, hS2, hb2⟩
 obtain ⟨A2, c2, rfl⟩ := Kd.S_slice hS2
 have h := Kd.S_reads' hS2
 exact ⟨A2, c2, rfl, ⟨h.2.1, h.2.2⟩, (zA2 (Below.refl W.heap.size W) _).trans (hb2.mono (by simp))⟩
theorem kn11 (W : World) (A1 : Option Addr) (c1 : Nat) (h1 : Kd.C k68 W A1 6 KE) (hc : 6 ≤ c1) (hG : Kd.C (Kd.int .u8) W (some tabA) tabL.length tabL) : Calls Tryd.prog 11 #[.agg #[.int .i64 4, .slice A1 6 c1], .slice (some ⟨W.heap.size, 0, none⟩) 4 4] (W.alloc (.cells #[.int .i64 0, .int .i64 1, .int .i64 2, .int .i64 3] 3)) fun e w' => ∃ A2 c2, e = .returned (.tuple #[.slice A2 2 c2, .int .i64 0]) ∧ (2 ≤ c2 ∧ Kd.C (Kd.int .i64) w' A2 2 [1, 2]) ∧ Below W.heap.size W w' := by
 have hl := litI W [0, 1, 2, 3] _ rfl (by decide)
 refine (zBi.calls 100 4 A1 c1 KE _ 4 [0, 1, 2, 3] [1, 2] 0 _ (Kd.zA8 h1 _) hc hl (Nat.le_refl _) (Kd.zA8 hG _) kn_joints).mono ?_
 rintro e w2 ⟨v2, rfl, hS2, hb2⟩
 obtain ⟨A2, c2, rfl⟩ := Kd.zCe hS2
 have h := Kd.zBd hS2
 exact ⟨A2, c2, rfl, ⟨h.2.1, h.2.2⟩, (zA2 (Below.refl W.heap.size W) _).trans (hb2.mono (by simp))⟩
theorem kn26 (W : World) : Calls Tryd.prog 26 #[.slice (some ⟨W.heap.size + 1 + 1 + 1, 0, none⟩) 3 3, .int .i64 5] ((((W.alloc (.cells #[.int .i64 0, .int .i64 1] 3)).alloc (.cells #[.int .i64 0, .int .i64 1, .int .i64 2] 3)).alloc (.cells #[.int .i64 3, .int .i64 4] 3)).alloc (.cells #[.string ⟨#[97]⟩, .slice (some ⟨W.heap.size, 0, none⟩) 2 2, .string ⟨#[98]⟩, .slice (some ⟨W.heap.size + 1, 0, none⟩) 3 3, .string ⟨#[99]⟩, .slice (some ⟨W.heap.size + 1 + 1, 0, none⟩) 2 2] 57)) fun e w' => ∃ A2 c2, e = .returned (.tuple #[.slice A2 3 c2, .int .i64 0]) ∧ (3 ≤ c2 ∧ Kd.C (Kd.int .i64) w' A2 3 [1, -1, -1]) ∧ Below W.heap.size W w' := by
 refine (zAg.calls 100 _ _ KG 5 [1, -1, -1] 0 _ (litG W) (Nat.le_refl _) kn_parents).mono ?_
 rintro e w2 ⟨v2, rfl, hS2, hb2⟩
 obtain ⟨A2, c2, rfl⟩ := Kd.zCe hS2
 have h := Kd.zBd hS2
 exact ⟨A2, c2, rfl, ⟨h.2.1, h.2.2⟩, (zA2 (zA2 (zA2 (zA2 (Below.refl W.heap.size W) _) _) _) _).trans (hb2.mono (by simp; omega))⟩
theorem kn21 (W : World) (A2 : Option Addr) (c2 : Nat) (h : Kd.C (Kd.slice 3 (Kd.int .i64)) W A2 2 [[0, 1], [3]]) (hc : 2 ≤ c2) : Calls Tryd.prog 21 #[.slice A2 2 c2, .slice (some ⟨W.heap.size + 1 + 1, 0, none⟩) 2 2] (((W.alloc (.cells #[.int .i64 0, .int .i64 1] 3)).alloc (.cells #[.int .i64 3] 3)).alloc (.cells #[.slice (some ⟨W.heap.size, 0, none⟩) 2 2, .slice (some ⟨W.heap.size + 1, 0, none⟩) 1 1] 23)) fun e w' => e = .returned (.bool true) ∧ Below W.heap.size W w' := by
 have h1 : Kd.C (Kd.int .i64) (W.alloc (.cells #[.int .i64 0, .int .i64 1] 3)) (some ⟨W.heap.size, 0, none⟩) 2 [0, 1] := litI W [0, 1] _ rfl (by decide)
 have h2 := litI (W.alloc (.cells #[.int .i64 0, .int .i64 1] 3)) [3] _ rfl (by decide)
 rw [World.size_alloc] at h2
 have h4 := litC (Kd.slice 3 (Kd.int .i64)) ((W.alloc (.cells #[.int .i64 0, .int .i64 1] 3)).alloc (.cells #[.int .i64 3] 3)) 23 [[0, 1], [3]] [[.slice (some ⟨W.heap.size, 0, none⟩) 2 2], [.slice (some ⟨W.heap.size + 1, 0, none⟩) 1 1]] #[.slice (some ⟨W.heap.size, 0, none⟩) 2 2, .slice (some ⟨W.heap.size + 1, 0, none⟩) 1 1] rfl rfl (by decide) (fun c hc => by simp only [List.mem_cons, List.not_mem_nil, or_false] at hc; rcases hc with rfl | rfl <;> rfl) (fun j x c hx hc => by
  rcases j with _ | _ | j
  ·cases hx; cases hc
   exact ⟨_, _, rfl, Nat.le_refl _, Kd.zA8 (Kd.zA8 h1 _) _⟩
  ·cases hx; cases hc
   exact ⟨_, _, rfl, Nat.le_refl _, Kd.zA8 h2 _⟩
  ·simp at hx)
 simp only [World.size_alloc] at h4
 refine (zBb.calls 100 A2 c2 [[0, 1], [3]] _ 2 [[0, 1], [3]] true _ (Kd.zA8 (Kd.zA8 (Kd.zA8 h _) _) _) hc h4 (Nat.le_refl _) kn_same1).mono ?_
 rintro e w2 ⟨rfl, ⟨n, rfl⟩⟩
 exact ⟨rfl, zA0 (zA2 (zA2 (zA2 (Below.refl _ _) _) _) _) n⟩
theorem kn14 (W : World) (A : Option Addr) (c : Nat) (a b : Int) (h : Kd.C (Kd.int .i64) W A 2 [a, b]) (hc : 2 ≤ c) (hs : zAo.f 100 [a, b] [a, b] = some true) : Calls Tryd.prog 14 #[.slice A 2 c, .slice (some ⟨W.heap.size, 0, none⟩) 2 2] (W.alloc (.cells #[.int .i64 a, .int .i64 b] 3)) fun e w' => e = .returned (.bool true) ∧ Below W.heap.size W w' := by
 have h1 := litI W [a, b] _ rfl (by simp)
 refine (zAo.calls 100 A c [a, b] _ 2 [a, b] true _ (Kd.zA8 h _) hc h1 (Nat.le_refl _) hs).mono ?_
 rintro e w2 ⟨rfl, ⟨n, rfl⟩⟩
 exact ⟨rfl, zA0 (zA2 (Below.refl _ _) _) n⟩
theorem kn14c (W : World) (A : Option Addr) (c : Nat) (a b d : Int) (h : Kd.C (Kd.int .i64) W A 3 [a, b, d]) (hc : 3 ≤ c) (hs : zAo.f 100 [a, b, d] [a, b, d] = some true) : Calls Tryd.prog 14 #[.slice A 3 c, .slice (some ⟨W.heap.size, 0, none⟩) 3 3] (W.alloc (.cells #[.int .i64 a, .int .i64 b, .int .i64 d] 3)) fun e w' => e = .returned (.bool true) ∧ Below W.heap.size W w' := by
 have h1 := litI W [a, b, d] _ rfl (by simp)
 refine (zAo.calls 100 A c [a, b, d] _ 3 [a, b, d] true _ (Kd.zA8 h _) hc h1 (Nat.le_refl _) hs).mono ?_
 rintro e w2 ⟨rfl, ⟨n, rfl⟩⟩
 exact ⟨rfl, zA0 (zA2 (Below.refl _ _) _) n⟩
theorem knRead (W : World) (A : Option Addr) (h : Kd.C k41 W A 3 KC) : ∃ ad B0 d0 B1 d1, A = some ad ∧ W.cell? ⟨ad.block, ad.off + 2, none⟩ = some (.slice B0 2 d0) ∧ W.cell? ⟨ad.block, ad.off + 2 + 1, none⟩ = some (.slice B1 2 d1) ∧ (2 ≤ d0 ∧ Kd.C (Kd.int .i64) W B0 2 [0, 1]) ∧ (2 ≤ d1 ∧ Kd.C (Kd.int .i64) W B1 2 [2, 3]) := by
 obtain ⟨ad, B0, d0, B1, d1, e, h0, h1, h2, h3, h4, h5⟩ := at_T41 h 1 (by decide) (by decide)
 exact ⟨ad, B0, d0, B1, d1, e, h0, h1, ⟨h2, h3⟩, ⟨h4, h5⟩⟩
def KN.f : Option Bool := some true
set_option maxRecDepth 100000 in
set_option maxHeartbeats 600000 in
theorem KN.calls (r : Bool) (w : World) (hG : Kd.C (Kd.int .u8) w (some tabA) tabL.length tabL) (h : KN.f = some r) :
  Calls Tryd.prog 8 #[] w fun e w' => e = .returned (.bool r) ∧ Below w.heap.size w w' := by
 have hu28 := Tryd.underlying28
 have hu41 := Tryd.underlying41
 have hu57 := Tryd.underlying57
 have hu68 := Tryd.underlying68
 obtain rfl : true = r := Option.some.inj h
 have HG := zA1.mk hG
 clear hG h
 go_enter Tryd.func8, Tryd.ntmps8
 go_wp2_with (first
  | (go_at_call 33; refine (kn33 w).mono ?_; rintro e w1 ⟨A1, c1, rfl, h1, hb1⟩; have H1 := zA1.mk h1; have HB1 := zA1.mk hb1; clear h1 hb1)
  | (go_at_call 17; refine (kn17 w1 A1 c1 H1.out.2 H1.out.1 (Kd.zAy HG.out HB1.out)).mono ?_; rintro e w2 ⟨A2, c2, rfl, h2, hb2, hk2⟩; have H2 := zA1.mk h2; have HB2 := zA1.mk hb2; have HK2 := zA1.mk hk2; have hz20 := (zA9 hk2 0).trans rfl; have hz21 := (zA9 hk2 1).trans rfl; clear h2 hb2 hk2)
  | (go_at_call 10; refine (kn10 w2 A1 c1 (Kd.zAy H1.out.2 HB2.out) H1.out.1 (Kd.zAy (Kd.zAy HG.out HB1.out) HB2.out)).mono ?_; rintro e w3 ⟨A3, c3, rfl, h3, hb3⟩; have H3 := zA1.mk h3; have HB3 := zA1.mk hb3; have hk3 := zBc HK2.out hb3; have HK3 := zA1.mk hk3; have hz30 := (zA9 hk3 0).trans rfl; have hz31 := (zA9 hk3 1).trans rfl; clear h3 hb3 hk3)
  | (go_at_call 11; refine (kn11 w3 A1 c1 (Kd.zAy (Kd.zAy H1.out.2 HB2.out) HB3.out) H1.out.1 (Kd.zAy (Kd.zAy (Kd.zAy HG.out HB1.out) HB2.out) HB3.out)).mono ?_; rintro e w4 ⟨A4, c4, rfl, h4, hb4⟩; have H4 := zA1.mk h4; have HB4 := zA1.mk hb4; clear h4 hb4)
  | (go_at_call 26; refine (kn26 w4).mono ?_; rintro e w5 ⟨A5, c5, rfl, h5, hb5⟩; have H5 := zA1.mk h5; have HB5 := zA1.mk hb5; clear h5 hb5)
  | (go_at_call 21; refine (kn21 w5 A2 c2 (Kd.zAy (Kd.zAy (Kd.zAy H2.out.2 HB3.out) HB4.out) HB5.out) H2.out.1).mono ?_; rintro e w6 ⟨rfl, hb6⟩; have HB6 := zA1.mk hb6; obtain ⟨ad, B0, d0, B1, d1, rfl, hy0, hy1, hL, hR⟩ := knRead w6 A3 (Kd.zAy (Kd.zAy (Kd.zAy H3.out.2 HB4.out) HB5.out) HB6.out); have HLL := zA1.mk hL; have HRR := zA1.mk hR; have HY1 := zA1.mk hy1; clear hb6 hL hR hy1)
  | (go_at_call 14; with_reducible refine (kn14 w6 B0 d0 0 1 HLL.out.2 HLL.out.1 kn_same2).mono ?_; rintro e w7 ⟨rfl, hb7⟩; have hy7 := (hb7.cell (World.block_lt_of_cell? w6 _ HY1.out)).trans HY1.out; have HB7 := zA1.mk hb7; clear hb7)
  | (go_at_call 14; with_reducible refine (kn14 w7 B1 d1 2 3 (Kd.zAy HRR.out.2 HB7.out) HRR.out.1 kn_same3).mono ?_; rintro e w8 ⟨rfl, hb8⟩; have HB8 := zA1.mk hb8; clear hb8)
  | (go_at_call 14; with_reducible refine (kn14 w8 A4 c4 1 2 (Kd.zAy (Kd.zAy (Kd.zAy (Kd.zAy H4.out.2 HB5.out) HB6.out) HB7.out) HB8.out) H4.out.1 kn_same4).mono ?_; rintro e w9 ⟨rfl, hb9⟩; have HB9 := zA1.mk hb9; clear hb9)
  | (go_at_call 14; with_reducible refine (kn14c w9 A5 c5 1 (-1) (-1) (Kd.zAy (Kd.zAy (Kd.zAy (Kd.zAy H5.out.2 HB6.out) HB7.out) HB8.out) HB9.out) H5.out.1 kn_same5).mono ?_; rintro e w10 ⟨rfl, hb10⟩; have HB10 := zA1.mk hb10; clear hb10))
 go_ret
 exact ⟨rfl, (zAm (zAm (zAm (zAm (zAm (zAm (zAm (zAm (zAm HB1.out HB2.out) HB3.out) HB4.out) HB5.out) HB6.out) HB7.out) HB8.out) HB9.out) HB10.out)⟩
end
end Go.Proofs.YtbghfbhlbfcloaaDoor.PL
namespace Go.Proofs.YtbghfbhlbfcloaaDoor.PL
section
open Go.RowKit Go.Proofs.YtbghfbhlbfcloaaDoorW.PrintWords Go.Proofs.YtbghfbhlbfcloaaDoorW.PrintLast Go.Proofs.YtbghfbhlbfcloaaDoorW.PrintMore
attribute [local go_sem] zBw zBu zC7 zC6 zBo zBn zBv zBt   -- for this text's walks alone
set_option linter.unusedVariables false
set_option linter.unusedSimpArgs false
def dowellaw29_known.f  : Option (Bool) := KN.f 
theorem dowellaw29_known.calls  (r : Bool) (w : World) (hG : Kd.C (Kd.int .u8) w (some tabA) tabL.length tabL) (h : dowellaw29_known.f  = some r) :
  Calls Tryd.prog 8 #[] w fun e w' => e = .returned (.bool r) ∧ Below w.heap.size w w' :=
  KN.calls r w hG h
end
end Go.Proofs.YtbghfbhlbfcloaaDoor.PL
namespace Go.Proofs.YtbghfbhlbfcloaaDoor.PL
section
open Go.RowKit Go.Proofs.YtbghfbhlbfcloaaDoorW.PrintWords Go.Proofs.YtbghfbhlbfcloaaDoorW.PrintLast Go.Proofs.YtbghfbhlbfcloaaDoorW.PrintMore
attribute [local go_sem] zBw zBu zC7 zC6 zBo zBn zBv zBt   -- for this text's walks alone
set_option linter.unusedVariables false
set_option linter.unusedSimpArgs false
mutual
def zAn.l0 : Nat → List (S57) → List Int → Int → Option (List Int)
 | 0, _, _, _ => none
 | k + 1, x0, x3, x4 => if x4 < (x0.length : Int) then (zAn.l1 k x0 x3 x4 (x3.length : Int)) else (some x3)
def zAn.l1 : Nat → List (S57) → List Int → Int → Int → Option (List Int)
 | 0, _, _, _, _ => none
 | k + 1, x0, x3, x4, x5 => if x5 > 0 then (if 0 ≤ (wrap64 (x5 - 1)) then (if (wrap64 (x5 - 1)) < (x3.length : Int) then (if 0 ≤ (rd x3 (wrap64 (x5 - 1))) then (if (rd x3 (wrap64 (x5 - 1))) < (x0.length : Int) then (if 0 ≤ x4 then (if x4 < (x0.length : Int) then (if (((zA6 x0 (rd x3 (wrap64 (x5 - 1)))).f1).length : Int) > (((zA6 x0 x4).f1).length : Int) then (zAn.l1 k x0 x3 x4 (wrap64 (x5 - 1))) else ((some (([] : List Int) : List Int)).bind fun y507 => (if 0 ≤ x5 then (if x5 ≤ (x3.length : Int) then ((some (x3.take (x5 : Int).toNat : List Int)).bind fun y510 => (if y507.length + y510.length < 17592186044416 then ((some (y507 ++ y510 : List Int)).bind fun y514 => (if y514.length < 17592186044416 then ((some (y514 ++ [x4] : List Int)).bind fun y517 => ((some (x3.drop (x5 : Int).toNat : List Int)).bind fun y520 => (if y517.length + y520.length < 17592186044416 then (zAn.l0 k x0 (y517 ++ y520) (wrap64 (x4 + 1))) else (none)))) else (none))) else (none))) else (none)) else (none)))) else (none)) else (none)) else (none)) else (none)) else (none)) else (none)) else ((some (([] : List Int) : List Int)).bind fun y527 => (if 0 ≤ x5 then (if x5 ≤ (x3.length : Int) then ((some (x3.take (x5 : Int).toNat : List Int)).bind fun y530 => (if y527.length + y530.length < 17592186044416 then ((some (y527 ++ y530 : List Int)).bind fun y534 => (if y534.length < 17592186044416 then ((some (y534 ++ [x4] : List Int)).bind fun y537 => ((some (x3.drop (x5 : Int).toNat : List Int)).bind fun y540 => (if y537.length + y540.length < 17592186044416 then (zAn.l0 k x0 (y537 ++ y540) (wrap64 (x4 + 1))) else (none)))) else (none))) else (none))) else (none)) else (none)))
end
def zAn.f (k : Nat) (l0 : List (S57)) : Option (List Int) := zAn.l0 k l0 ([] : List Int) 0
theorem zAn.zBq : ∀ k, (∀ y0 y1 y2, LeO (zAn.l0 k y0 y1 y2) (zAn.l0 (k + 1) y0 y1 y2)) ∧ (∀ y0 y1 y2 y3, LeO (zAn.l1 k y0 y1 y2 y3) (zAn.l1 (k + 1) y0 y1 y2 y3))
 | 0 => ⟨fun _ _ _ r h => by simp [zAn.l0] at h, fun _ _ _ _ r h => by simp [zAn.l1] at h⟩
 | k + 1 => by
  obtain ⟨ih0, ih1⟩ := zAn.zBq k
  refine ⟨?_, ?_⟩
  ·intro y0 y1 y2
   unfold zAn.l0
   repeat' first
   | (with_reducible exact ih0 _ _ _)
   | (with_reducible exact ih1 _ _ _ _)
   | (with_reducible exact LeO.refl _)
   | (with_reducible exact LeO.none _)
   | (with_reducible refine LeO.ite ?_ ?_)
   | (with_reducible refine LeO.bind ?_ (fun _ => ?_))
  ·intro y0 y1 y2 y3
   unfold zAn.l1
   repeat' first
   | (with_reducible exact ih0 _ _ _)
   | (with_reducible exact ih1 _ _ _ _)
   | (with_reducible exact LeO.refl _)
   | (with_reducible exact LeO.none _)
   | (with_reducible refine LeO.ite ?_ ?_)
   | (with_reducible refine LeO.bind ?_ (fun _ => ?_))
theorem zAn.mono : ∀ a0 k, LeO (zAn.f k a0) (zAn.f (k + 1) a0) := by
 intro a0 k
 obtain ⟨ih0, ih1⟩ := zAn.zBq k
 unfold zAn.f
 repeat' first
   | (with_reducible exact ih0 _ _ _)
   | (with_reducible exact ih1 _ _ _ _)
   | (with_reducible exact LeO.refl _)
   | (with_reducible exact LeO.none _)
   | (with_reducible refine LeO.ite ?_ ?_)
   | (with_reducible refine LeO.bind ?_ (fun _ => ?_))
set_option maxHeartbeats 8000000 in
set_option maxRecDepth 100000 in
theorem zAn.calls (k : Nat) (A0 : Option Addr) (c0 : Nat) (l0 : List (S57)) (r : List Int) (w : World) (hr0 : Kd.C k57 w A0 l0.length l0) (hc0 : l0.length ≤ c0) (h : zAn.f k l0 = some r) :
  Calls Tryd.prog 30 #[.slice A0 l0.length c0] w fun e w' => ∃ v0_ : Value, e = .returned (v0_) ∧ Kd.R (Kd.int .i64) 3 w' w.heap.size (fun _ => True) v0_ r ∧ Below w.heap.size w w' := by
 have HR0 := zA1.mk hr0
 have HC0 := zA1.mk hc0
 clear hr0 hc0
 have HB := zA1.mk (Below.refl w.heap.size w)
 have H : (zAn.l0 k l0 ([] : List Int) 0) = some r := h
 clear h
 have H' := zA1.mk H
 clear H
 go_enter Tryd.func30, Tryd.ntmps30
 go_wp2
 go_loopg [3, 4] k (fun kq v3 v4 w' => ∃ (x3_1 : List Int) (x4_1 : Int), v4 = .int .i64 x4_1 ∧ zA1 (zAn.l0 kq l0 x3_1 x4_1 = some r) ∧ zA1 (kq ≤ k) ∧ zA1 (Kd.R (Kd.int .i64) 3 w' w.heap.size (fun _ => True) v3 x3_1) ∧ zA1 (Below w.heap.size w w'))
 case atStart => exact ⟨(([] : List Int)), (0), (by first | rfl | (simp; done) | (simp [*]; done)), H', ⟨Nat.le_refl _⟩, ⟨by first | exact Kd.R_nil _ _ _ _ _ | exact Kd.N_nil _ _ _ _ _ | exact Kd.V_nil _ _ _ _ _ | exact Kd.Q_nil _ _ _ _ _ | exact Kd.S_nil _ _ _ _ _⟩, ⟨by repeat (first | (with_reducible first | exact HB.out | apply zA2 | apply zA0 | apply zA3) | exact HB.out)⟩⟩
 case round =>
  clear H'
  obtain ⟨x3_1, x4_1, rfl, HA, HK1, HO_3, HB⟩ := hrel
  cases gk with
  | zero => exact absurd HA.out (by simp [zAn.l0])
  | succ k1 =>
   have H := HA.out
   clear HA
   simp only [zAn.l0] at H
   by_cases c2 : x4_1 < (l0.length : Int)
   ·rw [if_pos c2] at H
    have c2b0 : decide (x4_1 < (l0.length : Int)) = true := decide_eq_true c2
    clear c2
    have H' := zA1.mk H
    clear H
    obtain ⟨Ao3, co3, eo3⟩ := Kd.zCe HO_3.out
    subst eo3
    go_wp2
    go_loopg [5] k1 (fun kq v5 w' => ∃ (x5_2 : Int), v5 = .int .i64 x5_2 ∧ zA1 (zAn.l1 kq l0 x3_1 x4_1 x5_2 = some r) ∧ zA1 (kq ≤ k1) ∧ zA1 (Kd.R (Kd.int .i64) 3 w' w.heap.size (fun _ => True) (.slice Ao3 x3_1.length co3) x3_1) ∧ zA1 (Below w.heap.size w w'))
    case atStart => exact ⟨((x3_1.length : Int)), (by first | rfl | (simp; done) | (simp [*]; done)), H', ⟨Nat.le_refl _⟩, ⟨by (with_reducible repeat (first | apply Kd.zAk | apply Kd.zAj | apply Kd.zAt)); exact HO_3.out⟩, ⟨by repeat (first | (with_reducible first | exact HB.out | apply zA2 | apply zA0 | apply zA3) | exact HB.out)⟩⟩
    case round =>
     clear H'
     try clear c2
     try clear c2b0
     try clear p2
     try clear c3
     obtain ⟨x5_2, rfl, HA, HK2, HO_3, HB⟩ := hrel
     cases gk with
     | zero => exact absurd HA.out (by simp [zAn.l1])
     | succ k2 =>
      have H := HA.out
      clear HA
      simp only [zAn.l1] at H
      by_cases c4 : x5_2 > 0
      ·rw [if_pos c4] at H
       have c4b0 : decide (0 < x5_2) = true := decide_eq_true c4
       clear c4
       obtain ⟨ji5, hji5⟩ : ∃ j_ : Int, (wrap64 (x5_2 - 1)) = j_ := ⟨_, rfl⟩
       replace H : (if 0 ≤ (ji5) then (if (ji5) < (x3_1.length : Int) then (if 0 ≤ (rd x3_1 (ji5)) then (if (rd x3_1 (ji5)) < (l0.length : Int) then (if 0 ≤ x4_1 then (if x4_1 < (l0.length : Int) then (if (((zA6 l0 (rd x3_1 (ji5))).f1).length : Int) > (((zA6 l0 x4_1).f1).length : Int) then (zAn.l1 k2 l0 x3_1 x4_1 ji5) else ((some (([] : List Int) : List Int)).bind fun y507 => (if 0 ≤ x5_2 then (if x5_2 ≤ (x3_1.length : Int) then ((some (x3_1.take (x5_2 : Int).toNat : List Int)).bind fun y510 => (if y507.length + y510.length < 17592186044416 then ((some (y507 ++ y510 : List Int)).bind fun y514 => (if y514.length < 17592186044416 then ((some (y514 ++ [x4_1] : List Int)).bind fun y517 => ((some (x3_1.drop (x5_2 : Int).toNat : List Int)).bind fun y520 => (if y517.length + y520.length < 17592186044416 then (zAn.l0 k2 l0 (y517 ++ y520) (wrap64 (x4_1 + 1))) else (none)))) else (none))) else (none))) else (none)) else (none)))) else (none)) else (none)) else (none)) else (none)) else (none)) else (none)) = some r := by first | (rw [hji5] at H; exact H) | (simp only [hji5] at H ⊢; exact H)
       have hji5w : (IntKind.i64.wrap (x5_2 - 1)) = ji5 := (i64_w _).trans hji5
       by_cases c6 : 0 ≤ (ji5)
       rotate_left
       ·rw [if_neg c6] at H
        exact absurd H (by simp)
       rw [if_pos c6] at H
       have c6b0 : decide (0 ≤ (ji5)) = true := decide_eq_true c6
       clear c6
       by_cases c7 : (ji5) < (x3_1.length : Int)
       rotate_left
       ·rw [if_neg c7] at H
        exact absurd H (by simp)
       rw [if_pos c7] at H
       have c7b0 : decide ((ji5) < (x3_1.length : Int)) = true := decide_eq_true c7
       clear c7
       by_cases c8 : 0 ≤ (rd x3_1 (ji5))
       rotate_left
       ·rw [if_neg c8] at H
        exact absurd H (by simp)
       rw [if_pos c8] at H
       have c8b0 : decide (0 ≤ (rd x3_1 (ji5))) = true := decide_eq_true c8
       clear c8
       by_cases c9 : (rd x3_1 (ji5)) < (l0.length : Int)
       rotate_left
       ·rw [if_neg c9] at H
        exact absurd H (by simp)
       rw [if_pos c9] at H
       have c9b0 : decide ((rd x3_1 (ji5)) < (l0.length : Int)) = true := decide_eq_true c9
       clear c9
       by_cases c10 : 0 ≤ x4_1
       rotate_left
       ·rw [if_neg c10] at H
        exact absurd H (by simp)
       rw [if_pos c10] at H
       have c10b0 : decide (0 ≤ x4_1) = true := decide_eq_true c10
       clear c10
       by_cases c11 : x4_1 < (l0.length : Int)
       rotate_left
       ·rw [if_neg c11] at H
        exact absurd H (by simp)
       rw [if_pos c11] at H
       have c11b0 : decide (x4_1 < (l0.length : Int)) = true := decide_eq_true c11
       clear c11
       by_cases c12 : (((zA6 l0 (rd x3_1 (ji5))).f1).length : Int) > (((zA6 l0 x4_1).f1).length : Int)
       ·rw [if_pos c12] at H
        have c12b0 : decide ((((zA6 l0 x4_1).f1).length : Int) < (((zA6 l0 (rd x3_1 (ji5))).f1).length : Int)) = true := decide_eq_true c12
        have c12b1 : decide (((zA6 l0 x4_1).f1).length < ((zA6 l0 (rd x3_1 (ji5))).f1).length) = true := decide_eq_true (Int.ofNat_lt.mp c12)
        clear c12
        have H' := zA1.mk H
        clear H
        have p504 : 0 ≤ ((ji5) : Int) := of_decide_eq_true (by first | (with_reducible assumption) | assumption)
        have q504 : (ji5) < (x3_1.length : Int) := of_decide_eq_true (by first | (with_reducible assumption) | assumption)
        obtain ⟨ad504, e504, hx504_0⟩ := Kd.at_int (Kd.zBd HO_3.out).2.2 (ji5) p504 q504
        cases e504
        replace p504 := eq_true p504
        replace q504 := eq_true q504
        have p505 : 0 ≤ ((rd x3_1 (ji5)) : Int) := of_decide_eq_true (by first | (with_reducible assumption) | assumption)
        have q505 : (rd x3_1 (ji5)) < (l0.length : Int) := of_decide_eq_true (by first | (with_reducible assumption) | assumption)
        obtain ⟨ad505, A505_1, c505_1, e505, hx505_0, hx505_1, hl505_1, hi505_1⟩ := zC5 HR0.out (rd x3_1 (ji5)) p505 q505
        cases e505
        replace hx505_0 := (HB.out.cell (World.block_lt_of_cell? w _ hx505_0)).trans hx505_0
        replace hx505_1 := (HB.out.cell (World.block_lt_of_cell? w _ hx505_1)).trans hx505_1
        have HR505_1 := zA1.mk hi505_1
        have HC505_1 := zA1.mk hl505_1
        clear hi505_1 hl505_1
        replace p505 := eq_true p505
        replace q505 := eq_true q505
        have p506 : 0 ≤ (x4_1 : Int) := of_decide_eq_true (by first | (with_reducible assumption) | assumption)
        have q506 : x4_1 < (l0.length : Int) := of_decide_eq_true (by first | (with_reducible assumption) | assumption)
        obtain ⟨ad506, A506_1, c506_1, e506, hx506_0, hx506_1, hl506_1, hi506_1⟩ := zC5 HR0.out x4_1 p506 q506
        obtain rfl : ad505 = ad506 := (by injection e506)
        replace hx506_0 := (HB.out.cell (World.block_lt_of_cell? w _ hx506_0)).trans hx506_0
        replace hx506_1 := (HB.out.cell (World.block_lt_of_cell? w _ hx506_1)).trans hx506_1
        have HR506_1 := zA1.mk hi506_1
        have HC506_1 := zA1.mk hl506_1
        clear hi506_1 hl506_1
        replace p506 := eq_true p506
        replace q506 := eq_true q506
        go_wp2
        repeat (go_quiet (fail); try go_wp2)
        go_roundg k2
        case measure => have := HK1.out; have := HK2.out; omega
        case rel => exact ⟨(ji5), (by first | rfl | (simp; done) | (simp only [← hji5] <;> (first | rfl | simp)) | (simp [*]; done)), H', ⟨by have := HK1.out; have := HK2.out; omega⟩, ⟨by (with_reducible repeat (first | apply Kd.zAk | apply Kd.zAj | apply Kd.zAt)); exact HO_3.out⟩, ⟨by repeat (first | (with_reducible first | exact HB.out | apply zA2 | apply zA0 | apply zA3) | exact HB.out)⟩⟩
       ·rw [if_neg c12] at H
        have c12b0 : decide ((((zA6 l0 x4_1).f1).length : Int) < (((zA6 l0 (rd x3_1 (ji5))).f1).length : Int)) = false := decide_eq_false c12
        have c12b1 : decide (((zA6 l0 x4_1).f1).length < ((zA6 l0 (rd x3_1 (ji5))).f1).length) = false := decide_eq_false (fun h => c12 (Int.ofNat_lt.mpr h))
        clear c12
        obtain ⟨y507, hy507⟩ : ∃ y_ : List Int, y_ = (([] : List Int)) := ⟨_, rfl⟩
        replace H : (if 0 ≤ x5_2 then (if x5_2 ≤ (x3_1.length : Int) then ((some (x3_1.take (x5_2 : Int).toNat : List Int)).bind fun y510 => (if y507.length + y510.length < 17592186044416 then ((some (y507 ++ y510 : List Int)).bind fun y514 => (if y514.length < 17592186044416 then ((some (y514 ++ [x4_1] : List Int)).bind fun y517 => ((some (x3_1.drop (x5_2 : Int).toNat : List Int)).bind fun y520 => (if y517.length + y520.length < 17592186044416 then (zAn.l0 k2 l0 (y517 ++ y520) (wrap64 (x4_1 + 1))) else (none)))) else (none))) else (none))) else (none)) else (none)) = some r := by first | (rw [hy507]; with_reducible exact H) | (have H2_ := (Option.bind_some _ _).symm.trans H; rw [hy507]; with_reducible exact H2_) | (have H2_ := (Option.bind_some _ _).symm.trans H; with_reducible exact H2_) | with_reducible exact H | (rw [hy507]; exact H) | exact H
        have Ny507 := zA1.mk hy507
        clear hy507
        by_cases c13 : 0 ≤ x5_2
        rotate_left
        ·rw [if_neg c13] at H
         exact absurd H (by simp)
        rw [if_pos c13] at H
        have c13b0 := eq_true c13
        have c13b1 : decide (0 ≤ x5_2) = true := decide_eq_true c13
        clear c13
        by_cases c14 : x5_2 ≤ (x3_1.length : Int)
        rotate_left
        ·rw [if_neg c14] at H
         exact absurd H (by simp)
        rw [if_pos c14] at H
        have c14b0 := eq_true c14
        have c14b1 : decide (x5_2 ≤ (x3_1.length : Int)) = true := decide_eq_true c14
        clear c14
        obtain ⟨y510, hy510⟩ : ∃ y_ : List Int, y_ = (x3_1.take (x5_2 : Int).toNat) := ⟨_, rfl⟩
        replace H : (if y507.length + y510.length < 17592186044416 then ((some (y507 ++ y510 : List Int)).bind fun y514 => (if y514.length < 17592186044416 then ((some (y514 ++ [x4_1] : List Int)).bind fun y517 => ((some (x3_1.drop (x5_2 : Int).toNat : List Int)).bind fun y520 => (if y517.length + y520.length < 17592186044416 then (zAn.l0 k2 l0 (y517 ++ y520) (wrap64 (x4_1 + 1))) else (none)))) else (none))) else (none)) = some r := by first | (rw [hy510]; with_reducible exact H) | (have H2_ := (Option.bind_some _ _).symm.trans H; rw [hy510]; with_reducible exact H2_) | (have H2_ := (Option.bind_some _ _).symm.trans H; with_reducible exact H2_) | with_reducible exact H | (rw [hy510]; exact H) | exact H
        have Ny510 := zA1.mk hy510
        clear hy510
        by_cases c15 : y507.length + y510.length < 17592186044416
        rotate_left
        ·rw [if_neg c15] at H
         exact absurd H (by simp)
        rw [if_pos c15] at H
        have LMc15 := zA1.mk c15
        clear c15
        obtain ⟨y514, hy514⟩ : ∃ y_ : List Int, y_ = (y507 ++ y510) := ⟨_, rfl⟩
        replace H : (if y514.length < 17592186044416 then ((some (y514 ++ [x4_1] : List Int)).bind fun y517 => ((some (x3_1.drop (x5_2 : Int).toNat : List Int)).bind fun y520 => (if y517.length + y520.length < 17592186044416 then (zAn.l0 k2 l0 (y517 ++ y520) (wrap64 (x4_1 + 1))) else (none)))) else (none)) = some r := by first | (rw [hy514]; with_reducible exact H) | (have H2_ := (Option.bind_some _ _).symm.trans H; rw [hy514]; with_reducible exact H2_) | (have H2_ := (Option.bind_some _ _).symm.trans H; with_reducible exact H2_) | with_reducible exact H | (rw [hy514]; exact H) | exact H
        have Ny514 := zA1.mk hy514
        clear hy514
        by_cases c16 : y514.length < 17592186044416
        rotate_left
        ·rw [if_neg c16] at H
         exact absurd H (by simp)
        rw [if_pos c16] at H
        have LMc16 := zA1.mk c16
        clear c16
        obtain ⟨y517, hy517⟩ : ∃ y_ : List Int, y_ = (y514 ++ [x4_1]) := ⟨_, rfl⟩
        replace H : ((some (x3_1.drop (x5_2 : Int).toNat : List Int)).bind fun y520 => (if y517.length + y520.length < 17592186044416 then (zAn.l0 k2 l0 (y517 ++ y520) (wrap64 (x4_1 + 1))) else (none))) = some r := by first | (rw [hy517]; with_reducible exact H) | (have H2_ := (Option.bind_some _ _).symm.trans H; rw [hy517]; with_reducible exact H2_) | (have H2_ := (Option.bind_some _ _).symm.trans H; with_reducible exact H2_) | with_reducible exact H | (rw [hy517]; exact H) | exact H
        have Ny517 := zA1.mk hy517
        clear hy517
        have c17b0 := eq_true (of_decide_eq_true (by first | (with_reducible assumption) | assumption) : 0 ≤ x5_2)
        have c18b0 := eq_true (of_decide_eq_true (by first | (with_reducible assumption) | assumption) : x5_2 ≤ (x3_1.length : Int))
        obtain ⟨y520, hy520⟩ : ∃ y_ : List Int, y_ = (x3_1.drop (x5_2 : Int).toNat) := ⟨_, rfl⟩
        replace H : (if y517.length + y520.length < 17592186044416 then (zAn.l0 k2 l0 (y517 ++ y520) (wrap64 (x4_1 + 1))) else (none)) = some r := by first | (rw [hy520]; with_reducible exact H) | (have H2_ := (Option.bind_some _ _).symm.trans H; rw [hy520]; with_reducible exact H2_) | (have H2_ := (Option.bind_some _ _).symm.trans H; with_reducible exact H2_) | with_reducible exact H | (rw [hy520]; exact H) | exact H
        have Ny520 := zA1.mk hy520
        clear hy520
        by_cases c19 : y517.length + y520.length < 17592186044416
        rotate_left
        ·rw [if_neg c19] at H
         exact absurd H (by simp)
        rw [if_pos c19] at H
        have LMc19 := zA1.mk c19
        clear c19
        obtain ⟨y524, hy524⟩ : ∃ y_ : List Int, y_ = (y517 ++ y520) := ⟨_, rfl⟩
        replace H : (zAn.l0 k2 l0 y524 (wrap64 (x4_1 + 1))) = some r := by first | (rw [hy524]; with_reducible exact H) | (have H2_ := (Option.bind_some _ _).symm.trans H; rw [hy524]; with_reducible exact H2_) | (have H2_ := (Option.bind_some _ _).symm.trans H; with_reducible exact H2_) | with_reducible exact H | (rw [hy524]; exact H) | exact H
        have Ny524 := zA1.mk hy524
        clear hy524
        have H' := zA1.mk H
        clear H
        have p504 : 0 ≤ ((ji5) : Int) := of_decide_eq_true (by first | (with_reducible assumption) | assumption)
        have q504 : (ji5) < (x3_1.length : Int) := of_decide_eq_true (by first | (with_reducible assumption) | assumption)
        obtain ⟨ad504, e504, hx504_0⟩ := Kd.at_int (Kd.zBd HO_3.out).2.2 (ji5) p504 q504
        cases e504
        replace p504 := eq_true p504
        replace q504 := eq_true q504
        have p505 : 0 ≤ ((rd x3_1 (ji5)) : Int) := of_decide_eq_true (by first | (with_reducible assumption) | assumption)
        have q505 : (rd x3_1 (ji5)) < (l0.length : Int) := of_decide_eq_true (by first | (with_reducible assumption) | assumption)
        obtain ⟨ad505, A505_1, c505_1, e505, hx505_0, hx505_1, hl505_1, hi505_1⟩ := zC5 HR0.out (rd x3_1 (ji5)) p505 q505
        cases e505
        replace hx505_0 := (HB.out.cell (World.block_lt_of_cell? w _ hx505_0)).trans hx505_0
        replace hx505_1 := (HB.out.cell (World.block_lt_of_cell? w _ hx505_1)).trans hx505_1
        have HR505_1 := zA1.mk hi505_1
        have HC505_1 := zA1.mk hl505_1
        clear hi505_1 hl505_1
        replace p505 := eq_true p505
        replace q505 := eq_true q505
        have p506 : 0 ≤ (x4_1 : Int) := of_decide_eq_true (by first | (with_reducible assumption) | assumption)
        have q506 : x4_1 < (l0.length : Int) := of_decide_eq_true (by first | (with_reducible assumption) | assumption)
        obtain ⟨ad506, A506_1, c506_1, e506, hx506_0, hx506_1, hl506_1, hi506_1⟩ := zC5 HR0.out x4_1 p506 q506
        obtain rfl : ad505 = ad506 := (by injection e506)
        replace hx506_0 := (HB.out.cell (World.block_lt_of_cell? w _ hx506_0)).trans hx506_0
        replace hx506_1 := (HB.out.cell (World.block_lt_of_cell? w _ hx506_1)).trans hx506_1
        have HR506_1 := zA1.mk hi506_1
        have HC506_1 := zA1.mk hl506_1
        clear hi506_1 hl506_1
        replace p506 := eq_true p506
        replace q506 := eq_true q506
        go_wp2_with (first | ((with_reducible refine zBl (N := 38) rfl ?_); (try (refine zBz (by rfl) ?_; dsimp only)); refine Kd.R_lit (Kd.int .i64) _ 3 ?hg (N := 38) ?hd (xs := ([] : List Int)) (inner := []) (ok := fun _ => True) (okp := fun _ => True) ?hr ?hp (fun _ hk => hk) trivial (Below.refl _ _) (Nat.le_refl _) (by simp) ?_; (case hd => rfl); (case hg => rfl); (case hr => first | (go_simp; done) | (go_simp; rfl)); (case hp => exact (Reps.none _ _)); intro v508 w20 ho21 hb hg_ hnew_; clear hg_ hnew_; (first | rw [← Ny507.out] at ho21 | (simp only [Int.reduceToNat] at ho21; rw [← Ny507.out] at ho21)); have n0_ := zA1.mk (Kd.R_elder' (by (with_reducible repeat (first | apply Kd.zAk | apply Kd.zAj | apply Kd.zAt)); exact HO_3.out) (Kd.R_base ho21) hb); have n1_ := zA1.mk (Kd.R_lower (Kd.R_new' ho21 (Kd.R_lt (by (with_reducible repeat (first | apply Kd.zAk | apply Kd.zAj | apply Kd.zAt)); exact HO_3.out))) (zAc (by repeat (first | (with_reducible first | exact HB.out | apply zA2 | apply zA0 | apply zA3) | exact HB.out)))); have n2_ := zA1.mk (zAm (by repeat (first | (with_reducible first | exact HB.out | apply zA2 | apply zA0 | apply zA3) | exact HB.out)) hb); clear HO_3; clear HB; have HO_3 := n0_; have HO509 := n1_; have HB := n2_; clear n0_ n1_ n2_; clear hb ho21; have q22 : (x5_2 : Int) ≤ ((x3_1.length : Int) : Int) := of_decide_eq_true (by first | (with_reducible assumption) | assumption); obtain ⟨i022, hi022, _, hsz22, _⟩ := info_parts info3; have hroom22 : x3_1.length ≤ co3 := (Kd.zBd HO_3.out).2.1; have hC22 : Kd.C (Kd.int .i64) _ (some ad504) x3_1.length x3_1 := (Kd.zBd HO_3.out).2.2; have hcut22 := cut_to (P := Tryd.prog) 23 3 .i64 Tryd.underlying23 hi022 (some ad504) x3_1.length co3 x5_2 (of_decide_eq_true (by first | (with_reducible assumption) | assumption)) q22 hroom22; have hr22 := Kd.C_take (m := (x5_2 : Int).toNat) hC22 (by omega); have hy22 : y510.length = (x5_2 : Int).toNat := (by rw [Ny510.out, List.length_take]; omega); rw [← Ny510.out] at hr22; rw [← hy22] at hcut22; have HR513 := zA1.mk hr22; have HC513 := zA1.mk (show y510.length ≤ co3 from by omega); clear hr22 hC22 hroom22 hi022 hsz22; have KY22 := zA1.mk hy22; clear hy22; have KL22 := zA1.mk (show (x5_2 : Int).toNat ≤ x3_1.length from by omega); replace q22 := eq_true q22) | ((with_reducible refine zC1 (b := .append) (xs := #[.tmp 38, .tmp 41]) rfl ?_); (try (refine zBz (by rfl) ?_; dsimp only)); at_builtin; refine Kd.R_append_rows (Kd.int .i64) (w0 := w) w.heap.size rfl (.tmp 38) (.tmp 41) 23 3 (.int .i64 0) 8 rfl Tryd.underlying23 info3 rfl (by decide) (by omega) v508 y507 y510 _ _ _ (fun k_ => some k_ ≠ (.slice (some ad504) x3_1.length co3 : Value).ownBlock) (fun _ => False) rfl rfl ?aO ?aR (fun _ _ h => h) (fun _ h => h.elim) ?aF ?aB ?aS ?aL ?_; (case aR => repeat (first | exact (by repeat (first | (with_reducible exact HR513.out) | (with_reducible refine Kd.zA8 ?_ _) | (with_reducible refine Kd.zAd ?_ _) | (with_reducible refine Kd.zAp ?_) | exact HR513.out)) | (with_reducible refine Kd.zA8 ?_ _) | (with_reducible refine Kd.zAd ?_ _) | (with_reducible refine Kd.zAp ?_))); (case aB => exact (by repeat (first | (with_reducible first | exact HB.out | apply zA2 | apply zA0 | apply zA3) | exact HB.out))); (case aF => exact (fun k_ hk => Kd.fresh' (Kd.R_lt (by (with_reducible repeat (first | apply Kd.zAk | apply Kd.zAj | apply Kd.zAt)); exact HO_3.out)) k_ hk)); (case aO => exact (by (with_reducible repeat (first | apply Kd.zAk | apply Kd.zAj | apply Kd.zAt)); exact Kd.zCc HO509.out (fun _ hk => hk.2))); (case aS => exact (zAc (by repeat (first | (with_reducible first | exact HB.out | apply zA2 | apply zA0 | apply zA3) | exact HB.out)))); (case aL => have := LMc15.out; omega); intro v515 w23 ho hb hg hat; rw [← Ny514.out] at ho; have n0_ := zA1.mk (Kd.zC8 (ok := (fun _ => True)) (by (with_reducible repeat (first | apply Kd.zAk | apply Kd.zAj | apply Kd.zAt)); exact HO_3.out) hg hat); have n1_ := zA1.mk (hb); have n2_ := zA1.mk ((show Kd.C (Kd.int .i64) w23 (some ad504) y510.length y510 from by rw [Ny510.out]; exact Kd.C_take (m := (x5_2 : Int).toNat) ((Kd.zBd (Kd.zC8 (ok := (fun _ => True)) (by (with_reducible repeat (first | apply Kd.zAk | apply Kd.zAj | apply Kd.zAt)); exact HO_3.out) hg hat)).2.2) KL22.out)); have n3_ := zA1.mk (ho); clear HO_3; clear HB; clear HR513; clear HO509; have HO_3 := n0_; have HB := n1_; have HR513 := n2_; have HO516 := n3_; clear n0_ n1_ n2_ n3_; clear ho hb hg hat) | ((with_reducible refine zC1 (b := .append) (xs := #[.tmp 43, .tmp 45]) rfl ?_); (try (refine zBz (by rfl) ?_; dsimp only)); at_builtin; refine Kd.R_append (Kd.int .i64) (w0 := w) w.heap.size rfl (.tmp 43) (.tmp 45) 23 3 (.int .i64 0) 8 rfl Tryd.underlying23 info3 rfl (by decide) (by omega) v515 y514 x4_1 [.int .i64 x4_1] (fun k_ => some k_ ≠ (.slice (some ad504) x3_1.length co3 : Value).ownBlock) (fun _ => False) rfl rfl ?aP (fun _ hk => hk.elim) ?aF ?aO ?aB ?aS ?aL ?_; (case aP => exact rfl); (case aB => exact (by repeat (first | (with_reducible first | exact HB.out | apply zA2 | apply zA0 | apply zA3) | exact HB.out))); (case aF => exact (fun k_ hk => Kd.fresh' (Kd.R_lt (by (with_reducible repeat (first | apply Kd.zAk | apply Kd.zAj | apply Kd.zAt)); exact HO_3.out)) k_ hk)); (case aO => exact (by (with_reducible repeat (first | apply Kd.zAk | apply Kd.zAj | apply Kd.zAt)); exact HO516.out)); (case aS => exact (zAc (by repeat (first | (with_reducible first | exact HB.out | apply zA2 | apply zA0 | apply zA3) | exact HB.out)))); (case aL => have := LMc16.out; omega); intro v518 w24 ho hb hg hat; rw [← Ny517.out] at ho; have n0_ := zA1.mk (Kd.zC8 (ok := (fun _ => True)) (by (with_reducible repeat (first | apply Kd.zAk | apply Kd.zAj | apply Kd.zAt)); exact HO_3.out) hg hat); have n1_ := zA1.mk (hb); have n2_ := zA1.mk ((show Kd.C (Kd.int .i64) w24 (some ad504) y510.length y510 from by rw [Ny510.out]; exact Kd.C_take (m := (x5_2 : Int).toNat) ((Kd.zBd (Kd.zC8 (ok := (fun _ => True)) (by (with_reducible repeat (first | apply Kd.zAk | apply Kd.zAj | apply Kd.zAt)); exact HO_3.out) hg hat)).2.2) KL22.out)); have n3_ := zA1.mk (ho); clear HO_3; clear HB; clear HR513; clear HO516; have HO_3 := n0_; have HB := n1_; have HR513 := n2_; have HO519 := n3_; clear n0_ n1_ n2_ n3_; clear ho hb hg hat; have q25 : (x5_2 : Int) ≤ ((x3_1.length : Int) : Int) := of_decide_eq_true (by first | (with_reducible assumption) | assumption); obtain ⟨i025, hi025, _, hsz25, _⟩ := info_parts info3; have hroom25 : x3_1.length ≤ co3 := (Kd.zBd HO_3.out).2.1; have hC25 : Kd.C (Kd.int .i64) _ (some ad504) x3_1.length x3_1 := (Kd.zBd HO_3.out).2.2; have q025 : (0 : Int) ≤ (x5_2 : Int) := of_decide_eq_true (by first | (with_reducible assumption) | assumption); have hcut25 := cut_from (P := Tryd.prog) 23 3 .i64 Tryd.underlying23 hi025 1 hsz25 (some ad504) x3_1.length co3 x5_2 q025 q25; have hr25 := Kd.C_drop (m := (x5_2 : Int).toNat) (c := co3) hC25 (by omega) hroom25; obtain ⟨A25, hA25⟩ : ∃ A1, A1 = (if co3 = (x5_2 : Int).toNat then (some ad504) else ((some ad504) : Option Addr).map (·.add ((x5_2 : Int).toNat * 1))) := ⟨_, rfl⟩; obtain ⟨c25, hc25⟩ : ∃ c1, c1 = co3 - (x5_2 : Int).toNat := ⟨_, rfl⟩; have hy25 : y520.length = x3_1.length - (x5_2 : Int).toNat := (by rw [Ny520.out, List.length_drop] <;> omega); rw [show (x3_1).drop (x5_2 : Int).toNat = y520 from Ny520.out.symm] at hr25; replace hr25 : Kd.C (Kd.int .i64) _ A25 y520.length y520 := (by rw [hA25]; exact hr25); rw [← hy25, ← hA25, ← hc25] at hcut25; have HR523 := zA1.mk hr25; have HC523 := zA1.mk (show y520.length ≤ c25 from by rw [hy25, hc25]; exact Nat.sub_le_sub_right hroom25 _); clear hr25 hC25 hroom25 hi025 hsz25 hc25; have KY25 := zA1.mk hy25; have KA25 := zA1.mk hA25; clear hy25 hA25; have KL25 := zA1.mk (show (x5_2 : Int).toNat ≤ x3_1.length from by omega); replace q25 := eq_true q25) | ((with_reducible refine zC1 (b := .append) (xs := #[.tmp 47, .tmp 50]) rfl ?_); (try (refine zBz (by rfl) ?_; dsimp only)); at_builtin; refine Kd.R_append_rows (Kd.int .i64) (w0 := w) w.heap.size rfl (.tmp 47) (.tmp 50) 23 3 (.int .i64 0) 8 rfl Tryd.underlying23 info3 rfl (by decide) (by omega) v518 y517 y520 _ _ _ (fun k_ => some k_ ≠ (.slice (some ad504) x3_1.length co3 : Value).ownBlock) (fun _ => False) rfl rfl ?aO ?aR (fun _ _ h => h) (fun _ h => h.elim) ?aF ?aB ?aS ?aL ?_; (case aR => repeat (first | exact (by repeat (first | (with_reducible exact HR523.out) | (with_reducible refine Kd.zA8 ?_ _) | (with_reducible refine Kd.zAd ?_ _) | (with_reducible refine Kd.zAp ?_) | exact HR523.out)) | (with_reducible refine Kd.zA8 ?_ _) | (with_reducible refine Kd.zAd ?_ _) | (with_reducible refine Kd.zAp ?_))); (case aB => exact (by repeat (first | (with_reducible first | exact HB.out | apply zA2 | apply zA0 | apply zA3) | exact HB.out))); (case aF => exact (fun k_ hk => Kd.fresh' (Kd.R_lt (by (with_reducible repeat (first | apply Kd.zAk | apply Kd.zAj | apply Kd.zAt)); exact HO_3.out)) k_ hk)); (case aO => exact (by (with_reducible repeat (first | apply Kd.zAk | apply Kd.zAj | apply Kd.zAt)); exact HO519.out)); (case aS => exact (zAc (by repeat (first | (with_reducible first | exact HB.out | apply zA2 | apply zA0 | apply zA3) | exact HB.out)))); (case aL => have := LMc19.out; omega); intro v525 w26 ho hb hg hat; rw [← Ny524.out] at ho; have n0_ := zA1.mk (Kd.zC8 (ok := (fun _ => True)) (by (with_reducible repeat (first | apply Kd.zAk | apply Kd.zAj | apply Kd.zAt)); exact HO_3.out) hg hat); have n1_ := zA1.mk (hb); have n2_ := zA1.mk ((show Kd.C (Kd.int .i64) w26 (some ad504) y510.length y510 from by rw [Ny510.out]; exact Kd.C_take (m := (x5_2 : Int).toNat) ((Kd.zBd (Kd.zC8 (ok := (fun _ => True)) (by (with_reducible repeat (first | apply Kd.zAk | apply Kd.zAj | apply Kd.zAt)); exact HO_3.out) hg hat)).2.2) KL22.out)); have n3_ := zA1.mk ((show Kd.C (Kd.int .i64) w26 A25 y520.length y520 from by rw [Ny520.out, KA25.out]; exact Kd.C_drop (m := (x5_2 : Int).toNat) (c := co3) ((Kd.zBd (Kd.zC8 (ok := (fun _ => True)) (by (with_reducible repeat (first | apply Kd.zAk | apply Kd.zAj | apply Kd.zAt)); exact HO_3.out) hg hat)).2.2) KL25.out ((Kd.zBd (Kd.zC8 (ok := (fun _ => True)) (by (with_reducible repeat (first | apply Kd.zAk | apply Kd.zAj | apply Kd.zAt)); exact HO_3.out) hg hat)).2.1))); have n4_ := zA1.mk (ho); clear HO_3; clear HB; clear HR513; clear HR523; clear HO519; have HO_3 := n0_; have HB := n1_; have HR513 := n2_; have HR523 := n3_; have HO526 := n4_; clear n0_ n1_ n2_ n3_ n4_; clear ho hb hg hat))
        repeat (go_quiet (first | ((with_reducible refine zBl (N := 38) rfl ?_); (try (refine zBz (by rfl) ?_; dsimp only)); refine Kd.R_lit (Kd.int .i64) _ 3 ?hg (N := 38) ?hd (xs := ([] : List Int)) (inner := []) (ok := fun _ => True) (okp := fun _ => True) ?hr ?hp (fun _ hk => hk) trivial (Below.refl _ _) (Nat.le_refl _) (by simp) ?_; (case hd => rfl); (case hg => rfl); (case hr => first | (go_simp; done) | (go_simp; rfl)); (case hp => exact (Reps.none _ _)); intro v508 w20 ho21 hb hg_ hnew_; clear hg_ hnew_; (first | rw [← Ny507.out] at ho21 | (simp only [Int.reduceToNat] at ho21; rw [← Ny507.out] at ho21)); have n0_ := zA1.mk (Kd.R_elder' (by (with_reducible repeat (first | apply Kd.zAk | apply Kd.zAj | apply Kd.zAt)); exact HO_3.out) (Kd.R_base ho21) hb); have n1_ := zA1.mk (Kd.R_lower (Kd.R_new' ho21 (Kd.R_lt (by (with_reducible repeat (first | apply Kd.zAk | apply Kd.zAj | apply Kd.zAt)); exact HO_3.out))) (zAc (by repeat (first | (with_reducible first | exact HB.out | apply zA2 | apply zA0 | apply zA3) | exact HB.out)))); have n2_ := zA1.mk (zAm (by repeat (first | (with_reducible first | exact HB.out | apply zA2 | apply zA0 | apply zA3) | exact HB.out)) hb); clear HO_3; clear HB; have HO_3 := n0_; have HO509 := n1_; have HB := n2_; clear n0_ n1_ n2_; clear hb ho21; have q22 : (x5_2 : Int) ≤ ((x3_1.length : Int) : Int) := of_decide_eq_true (by first | (with_reducible assumption) | assumption); obtain ⟨i022, hi022, _, hsz22, _⟩ := info_parts info3; have hroom22 : x3_1.length ≤ co3 := (Kd.zBd HO_3.out).2.1; have hC22 : Kd.C (Kd.int .i64) _ (some ad504) x3_1.length x3_1 := (Kd.zBd HO_3.out).2.2; have hcut22 := cut_to (P := Tryd.prog) 23 3 .i64 Tryd.underlying23 hi022 (some ad504) x3_1.length co3 x5_2 (of_decide_eq_true (by first | (with_reducible assumption) | assumption)) q22 hroom22; have hr22 := Kd.C_take (m := (x5_2 : Int).toNat) hC22 (by omega); have hy22 : y510.length = (x5_2 : Int).toNat := (by rw [Ny510.out, List.length_take]; omega); rw [← Ny510.out] at hr22; rw [← hy22] at hcut22; have HR513 := zA1.mk hr22; have HC513 := zA1.mk (show y510.length ≤ co3 from by omega); clear hr22 hC22 hroom22 hi022 hsz22; have KY22 := zA1.mk hy22; clear hy22; have KL22 := zA1.mk (show (x5_2 : Int).toNat ≤ x3_1.length from by omega); replace q22 := eq_true q22) | ((with_reducible refine zC1 (b := .append) (xs := #[.tmp 38, .tmp 41]) rfl ?_); (try (refine zBz (by rfl) ?_; dsimp only)); at_builtin; refine Kd.R_append_rows (Kd.int .i64) (w0 := w) w.heap.size rfl (.tmp 38) (.tmp 41) 23 3 (.int .i64 0) 8 rfl Tryd.underlying23 info3 rfl (by decide) (by omega) v508 y507 y510 _ _ _ (fun k_ => some k_ ≠ (.slice (some ad504) x3_1.length co3 : Value).ownBlock) (fun _ => False) rfl rfl ?aO ?aR (fun _ _ h => h) (fun _ h => h.elim) ?aF ?aB ?aS ?aL ?_; (case aR => repeat (first | exact (by repeat (first | (with_reducible exact HR513.out) | (with_reducible refine Kd.zA8 ?_ _) | (with_reducible refine Kd.zAd ?_ _) | (with_reducible refine Kd.zAp ?_) | exact HR513.out)) | (with_reducible refine Kd.zA8 ?_ _) | (with_reducible refine Kd.zAd ?_ _) | (with_reducible refine Kd.zAp ?_))); (case aB => exact (by repeat (first | (with_reducible first | exact HB.out | apply zA2 | apply zA0 | apply zA3) | exact HB.out))); (case aF => exact (fun k_ hk => Kd.fresh' (Kd.R_lt (by (with_reducible repeat (first | apply Kd.zAk | apply Kd.zAj | apply Kd.zAt)); exact HO_3.out)) k_ hk)); (case aO => exact (by (with_reducible repeat (first | apply Kd.zAk | apply Kd.zAj | apply Kd.zAt)); exact Kd.zCc HO509.out (fun _ hk => hk.2))); (case aS => exact (zAc (by repeat (first | (with_reducible first | exact HB.out | apply zA2 | apply zA0 | apply zA3) | exact HB.out)))); (case aL => have := LMc15.out; omega); intro v515 w23 ho hb hg hat; rw [← Ny514.out] at ho; have n0_ := zA1.mk (Kd.zC8 (ok := (fun _ => True)) (by (with_reducible repeat (first | apply Kd.zAk | apply Kd.zAj | apply Kd.zAt)); exact HO_3.out) hg hat); have n1_ := zA1.mk (hb); have n2_ := zA1.mk ((show Kd.C (Kd.int .i64) w23 (some ad504) y510.length y510 from by rw [Ny510.out]; exact Kd.C_take (m := (x5_2 : Int).toNat) ((Kd.zBd (Kd.zC8 (ok := (fun _ => True)) (by (with_reducible repeat (first | apply Kd.zAk | apply Kd.zAj | apply Kd.zAt)); exact HO_3.out) hg hat)).2.2) KL22.out)); have n3_ := zA1.mk (ho); clear HO_3; clear HB; clear HR513; clear HO509; have HO_3 := n0_; have HB := n1_; have HR513 := n2_; have HO516 := n3_; clear n0_ n1_ n2_ n3_; clear ho hb hg hat) | ((with_reducible refine zC1 (b := .append) (xs := #[.tmp 43, .tmp 45]) rfl ?_); (try (refine zBz (by rfl) ?_; dsimp only)); at_builtin; refine Kd.R_append (Kd.int .i64) (w0 := w) w.heap.size rfl (.tmp 43) (.tmp 45) 23 3 (.int .i64 0) 8 rfl Tryd.underlying23 info3 rfl (by decide) (by omega) v515 y514 x4_1 [.int .i64 x4_1] (fun k_ => some k_ ≠ (.slice (some ad504) x3_1.length co3 : Value).ownBlock) (fun _ => False) rfl rfl ?aP (fun _ hk => hk.elim) ?aF ?aO ?aB ?aS ?aL ?_; (case aP => exact rfl); (case aB => exact (by repeat (first | (with_reducible first | exact HB.out | apply zA2 | apply zA0 | apply zA3) | exact HB.out))); (case aF => exact (fun k_ hk => Kd.fresh' (Kd.R_lt (by (with_reducible repeat (first | apply Kd.zAk | apply Kd.zAj | apply Kd.zAt)); exact HO_3.out)) k_ hk)); (case aO => exact (by (with_reducible repeat (first | apply Kd.zAk | apply Kd.zAj | apply Kd.zAt)); exact HO516.out)); (case aS => exact (zAc (by repeat (first | (with_reducible first | exact HB.out | apply zA2 | apply zA0 | apply zA3) | exact HB.out)))); (case aL => have := LMc16.out; omega); intro v518 w24 ho hb hg hat; rw [← Ny517.out] at ho; have n0_ := zA1.mk (Kd.zC8 (ok := (fun _ => True)) (by (with_reducible repeat (first | apply Kd.zAk | apply Kd.zAj | apply Kd.zAt)); exact HO_3.out) hg hat); have n1_ := zA1.mk (hb); have n2_ := zA1.mk ((show Kd.C (Kd.int .i64) w24 (some ad504) y510.length y510 from by rw [Ny510.out]; exact Kd.C_take (m := (x5_2 : Int).toNat) ((Kd.zBd (Kd.zC8 (ok := (fun _ => True)) (by (with_reducible repeat (first | apply Kd.zAk | apply Kd.zAj | apply Kd.zAt)); exact HO_3.out) hg hat)).2.2) KL22.out)); have n3_ := zA1.mk (ho); clear HO_3; clear HB; clear HR513; clear HO516; have HO_3 := n0_; have HB := n1_; have HR513 := n2_; have HO519 := n3_; clear n0_ n1_ n2_ n3_; clear ho hb hg hat; have q25 : (x5_2 : Int) ≤ ((x3_1.length : Int) : Int) := of_decide_eq_true (by first | (with_reducible assumption) | assumption); obtain ⟨i025, hi025, _, hsz25, _⟩ := info_parts info3; have hroom25 : x3_1.length ≤ co3 := (Kd.zBd HO_3.out).2.1; have hC25 : Kd.C (Kd.int .i64) _ (some ad504) x3_1.length x3_1 := (Kd.zBd HO_3.out).2.2; have q025 : (0 : Int) ≤ (x5_2 : Int) := of_decide_eq_true (by first | (with_reducible assumption) | assumption); have hcut25 := cut_from (P := Tryd.prog) 23 3 .i64 Tryd.underlying23 hi025 1 hsz25 (some ad504) x3_1.length co3 x5_2 q025 q25; have hr25 := Kd.C_drop (m := (x5_2 : Int).toNat) (c := co3) hC25 (by omega) hroom25; obtain ⟨A25, hA25⟩ : ∃ A1, A1 = (if co3 = (x5_2 : Int).toNat then (some ad504) else ((some ad504) : Option Addr).map (·.add ((x5_2 : Int).toNat * 1))) := ⟨_, rfl⟩; obtain ⟨c25, hc25⟩ : ∃ c1, c1 = co3 - (x5_2 : Int).toNat := ⟨_, rfl⟩; have hy25 : y520.length = x3_1.length - (x5_2 : Int).toNat := (by rw [Ny520.out, List.length_drop] <;> omega); rw [show (x3_1).drop (x5_2 : Int).toNat = y520 from Ny520.out.symm] at hr25; replace hr25 : Kd.C (Kd.int .i64) _ A25 y520.length y520 := (by rw [hA25]; exact hr25); rw [← hy25, ← hA25, ← hc25] at hcut25; have HR523 := zA1.mk hr25; have HC523 := zA1.mk (show y520.length ≤ c25 from by rw [hy25, hc25]; exact Nat.sub_le_sub_right hroom25 _); clear hr25 hC25 hroom25 hi025 hsz25 hc25; have KY25 := zA1.mk hy25; have KA25 := zA1.mk hA25; clear hy25 hA25; have KL25 := zA1.mk (show (x5_2 : Int).toNat ≤ x3_1.length from by omega); replace q25 := eq_true q25) | ((with_reducible refine zC1 (b := .append) (xs := #[.tmp 47, .tmp 50]) rfl ?_); (try (refine zBz (by rfl) ?_; dsimp only)); at_builtin; refine Kd.R_append_rows (Kd.int .i64) (w0 := w) w.heap.size rfl (.tmp 47) (.tmp 50) 23 3 (.int .i64 0) 8 rfl Tryd.underlying23 info3 rfl (by decide) (by omega) v518 y517 y520 _ _ _ (fun k_ => some k_ ≠ (.slice (some ad504) x3_1.length co3 : Value).ownBlock) (fun _ => False) rfl rfl ?aO ?aR (fun _ _ h => h) (fun _ h => h.elim) ?aF ?aB ?aS ?aL ?_; (case aR => repeat (first | exact (by repeat (first | (with_reducible exact HR523.out) | (with_reducible refine Kd.zA8 ?_ _) | (with_reducible refine Kd.zAd ?_ _) | (with_reducible refine Kd.zAp ?_) | exact HR523.out)) | (with_reducible refine Kd.zA8 ?_ _) | (with_reducible refine Kd.zAd ?_ _) | (with_reducible refine Kd.zAp ?_))); (case aB => exact (by repeat (first | (with_reducible first | exact HB.out | apply zA2 | apply zA0 | apply zA3) | exact HB.out))); (case aF => exact (fun k_ hk => Kd.fresh' (Kd.R_lt (by (with_reducible repeat (first | apply Kd.zAk | apply Kd.zAj | apply Kd.zAt)); exact HO_3.out)) k_ hk)); (case aO => exact (by (with_reducible repeat (first | apply Kd.zAk | apply Kd.zAj | apply Kd.zAt)); exact HO519.out)); (case aS => exact (zAc (by repeat (first | (with_reducible first | exact HB.out | apply zA2 | apply zA0 | apply zA3) | exact HB.out)))); (case aL => have := LMc19.out; omega); intro v525 w26 ho hb hg hat; rw [← Ny524.out] at ho; have n0_ := zA1.mk (Kd.zC8 (ok := (fun _ => True)) (by (with_reducible repeat (first | apply Kd.zAk | apply Kd.zAj | apply Kd.zAt)); exact HO_3.out) hg hat); have n1_ := zA1.mk (hb); have n2_ := zA1.mk ((show Kd.C (Kd.int .i64) w26 (some ad504) y510.length y510 from by rw [Ny510.out]; exact Kd.C_take (m := (x5_2 : Int).toNat) ((Kd.zBd (Kd.zC8 (ok := (fun _ => True)) (by (with_reducible repeat (first | apply Kd.zAk | apply Kd.zAj | apply Kd.zAt)); exact HO_3.out) hg hat)).2.2) KL22.out)); have n3_ := zA1.mk ((show Kd.C (Kd.int .i64) w26 A25 y520.length y520 from by rw [Ny520.out, KA25.out]; exact Kd.C_drop (m := (x5_2 : Int).toNat) (c := co3) ((Kd.zBd (Kd.zC8 (ok := (fun _ => True)) (by (with_reducible repeat (first | apply Kd.zAk | apply Kd.zAj | apply Kd.zAt)); exact HO_3.out) hg hat)).2.2) KL25.out ((Kd.zBd (Kd.zC8 (ok := (fun _ => True)) (by (with_reducible repeat (first | apply Kd.zAk | apply Kd.zAj | apply Kd.zAt)); exact HO_3.out) hg hat)).2.1))); have n4_ := zA1.mk (ho); clear HO_3; clear HB; clear HR513; clear HR523; clear HO519; have HO_3 := n0_; have HB := n1_; have HR513 := n2_; have HR523 := n3_; have HO526 := n4_; clear n0_ n1_ n2_ n3_ n4_; clear ho hb hg hat)); try go_wp2_with (first | ((with_reducible refine zBl (N := 38) rfl ?_); (try (refine zBz (by rfl) ?_; dsimp only)); refine Kd.R_lit (Kd.int .i64) _ 3 ?hg (N := 38) ?hd (xs := ([] : List Int)) (inner := []) (ok := fun _ => True) (okp := fun _ => True) ?hr ?hp (fun _ hk => hk) trivial (Below.refl _ _) (Nat.le_refl _) (by simp) ?_; (case hd => rfl); (case hg => rfl); (case hr => first | (go_simp; done) | (go_simp; rfl)); (case hp => exact (Reps.none _ _)); intro v508 w20 ho21 hb hg_ hnew_; clear hg_ hnew_; (first | rw [← Ny507.out] at ho21 | (simp only [Int.reduceToNat] at ho21; rw [← Ny507.out] at ho21)); have n0_ := zA1.mk (Kd.R_elder' (by (with_reducible repeat (first | apply Kd.zAk | apply Kd.zAj | apply Kd.zAt)); exact HO_3.out) (Kd.R_base ho21) hb); have n1_ := zA1.mk (Kd.R_lower (Kd.R_new' ho21 (Kd.R_lt (by (with_reducible repeat (first | apply Kd.zAk | apply Kd.zAj | apply Kd.zAt)); exact HO_3.out))) (zAc (by repeat (first | (with_reducible first | exact HB.out | apply zA2 | apply zA0 | apply zA3) | exact HB.out)))); have n2_ := zA1.mk (zAm (by repeat (first | (with_reducible first | exact HB.out | apply zA2 | apply zA0 | apply zA3) | exact HB.out)) hb); clear HO_3; clear HB; have HO_3 := n0_; have HO509 := n1_; have HB := n2_; clear n0_ n1_ n2_; clear hb ho21; have q22 : (x5_2 : Int) ≤ ((x3_1.length : Int) : Int) := of_decide_eq_true (by first | (with_reducible assumption) | assumption); obtain ⟨i022, hi022, _, hsz22, _⟩ := info_parts info3; have hroom22 : x3_1.length ≤ co3 := (Kd.zBd HO_3.out).2.1; have hC22 : Kd.C (Kd.int .i64) _ (some ad504) x3_1.length x3_1 := (Kd.zBd HO_3.out).2.2; have hcut22 := cut_to (P := Tryd.prog) 23 3 .i64 Tryd.underlying23 hi022 (some ad504) x3_1.length co3 x5_2 (of_decide_eq_true (by first | (with_reducible assumption) | assumption)) q22 hroom22; have hr22 := Kd.C_take (m := (x5_2 : Int).toNat) hC22 (by omega); have hy22 : y510.length = (x5_2 : Int).toNat := (by rw [Ny510.out, List.length_take]; omega); rw [← Ny510.out] at hr22; rw [← hy22] at hcut22; have HR513 := zA1.mk hr22; have HC513 := zA1.mk (show y510.length ≤ co3 from by omega); clear hr22 hC22 hroom22 hi022 hsz22; have KY22 := zA1.mk hy22; clear hy22; have KL22 := zA1.mk (show (x5_2 : Int).toNat ≤ x3_1.length from by omega); replace q22 := eq_true q22) | ((with_reducible refine zC1 (b := .append) (xs := #[.tmp 38, .tmp 41]) rfl ?_); (try (refine zBz (by rfl) ?_; dsimp only)); at_builtin; refine Kd.R_append_rows (Kd.int .i64) (w0 := w) w.heap.size rfl (.tmp 38) (.tmp 41) 23 3 (.int .i64 0) 8 rfl Tryd.underlying23 info3 rfl (by decide) (by omega) v508 y507 y510 _ _ _ (fun k_ => some k_ ≠ (.slice (some ad504) x3_1.length co3 : Value).ownBlock) (fun _ => False) rfl rfl ?aO ?aR (fun _ _ h => h) (fun _ h => h.elim) ?aF ?aB ?aS ?aL ?_; (case aR => repeat (first | exact (by repeat (first | (with_reducible exact HR513.out) | (with_reducible refine Kd.zA8 ?_ _) | (with_reducible refine Kd.zAd ?_ _) | (with_reducible refine Kd.zAp ?_) | exact HR513.out)) | (with_reducible refine Kd.zA8 ?_ _) | (with_reducible refine Kd.zAd ?_ _) | (with_reducible refine Kd.zAp ?_))); (case aB => exact (by repeat (first | (with_reducible first | exact HB.out | apply zA2 | apply zA0 | apply zA3) | exact HB.out))); (case aF => exact (fun k_ hk => Kd.fresh' (Kd.R_lt (by (with_reducible repeat (first | apply Kd.zAk | apply Kd.zAj | apply Kd.zAt)); exact HO_3.out)) k_ hk)); (case aO => exact (by (with_reducible repeat (first | apply Kd.zAk | apply Kd.zAj | apply Kd.zAt)); exact Kd.zCc HO509.out (fun _ hk => hk.2))); (case aS => exact (zAc (by repeat (first | (with_reducible first | exact HB.out | apply zA2 | apply zA0 | apply zA3) | exact HB.out)))); (case aL => have := LMc15.out; omega); intro v515 w23 ho hb hg hat; rw [← Ny514.out] at ho; have n0_ := zA1.mk (Kd.zC8 (ok := (fun _ => True)) (by (with_reducible repeat (first | apply Kd.zAk | apply Kd.zAj | apply Kd.zAt)); exact HO_3.out) hg hat); have n1_ := zA1.mk (hb); have n2_ := zA1.mk ((show Kd.C (Kd.int .i64) w23 (some ad504) y510.length y510 from by rw [Ny510.out]; exact Kd.C_take (m := (x5_2 : Int).toNat) ((Kd.zBd (Kd.zC8 (ok := (fun _ => True)) (by (with_reducible repeat (first | apply Kd.zAk | apply Kd.zAj | apply Kd.zAt)); exact HO_3.out) hg hat)).2.2) KL22.out)); have n3_ := zA1.mk (ho); clear HO_3; clear HB; clear HR513; clear HO509; have HO_3 := n0_; have HB := n1_; have HR513 := n2_; have HO516 := n3_; clear n0_ n1_ n2_ n3_; clear ho hb hg hat) | ((with_reducible refine zC1 (b := .append) (xs := #[.tmp 43, .tmp 45]) rfl ?_); (try (refine zBz (by rfl) ?_; dsimp only)); at_builtin; refine Kd.R_append (Kd.int .i64) (w0 := w) w.heap.size rfl (.tmp 43) (.tmp 45) 23 3 (.int .i64 0) 8 rfl Tryd.underlying23 info3 rfl (by decide) (by omega) v515 y514 x4_1 [.int .i64 x4_1] (fun k_ => some k_ ≠ (.slice (some ad504) x3_1.length co3 : Value).ownBlock) (fun _ => False) rfl rfl ?aP (fun _ hk => hk.elim) ?aF ?aO ?aB ?aS ?aL ?_; (case aP => exact rfl); (case aB => exact (by repeat (first | (with_reducible first | exact HB.out | apply zA2 | apply zA0 | apply zA3) | exact HB.out))); (case aF => exact (fun k_ hk => Kd.fresh' (Kd.R_lt (by (with_reducible repeat (first | apply Kd.zAk | apply Kd.zAj | apply Kd.zAt)); exact HO_3.out)) k_ hk)); (case aO => exact (by (with_reducible repeat (first | apply Kd.zAk | apply Kd.zAj | apply Kd.zAt)); exact HO516.out)); (case aS => exact (zAc (by repeat (first | (with_reducible first | exact HB.out | apply zA2 | apply zA0 | apply zA3) | exact HB.out)))); (case aL => have := LMc16.out; omega); intro v518 w24 ho hb hg hat; rw [← Ny517.out] at ho; have n0_ := zA1.mk (Kd.zC8 (ok := (fun _ => True)) (by (with_reducible repeat (first | apply Kd.zAk | apply Kd.zAj | apply Kd.zAt)); exact HO_3.out) hg hat); have n1_ := zA1.mk (hb); have n2_ := zA1.mk ((show Kd.C (Kd.int .i64) w24 (some ad504) y510.length y510 from by rw [Ny510.out]; exact Kd.C_take (m := (x5_2 : Int).toNat) ((Kd.zBd (Kd.zC8 (ok := (fun _ => True)) (by (with_reducible repeat (first | apply Kd.zAk | apply Kd.zAj | apply Kd.zAt)); exact HO_3.out) hg hat)).2.2) KL22.out)); have n3_ := zA1.mk (ho); clear HO_3; clear HB; clear HR513; clear HO516; have HO_3 := n0_; have HB := n1_; have HR513 := n2_; have HO519 := n3_; clear n0_ n1_ n2_ n3_; clear ho hb hg hat; have q25 : (x5_2 : Int) ≤ ((x3_1.length : Int) : Int) := of_decide_eq_true (by first | (with_reducible assumption) | assumption); obtain ⟨i025, hi025, _, hsz25, _⟩ := info_parts info3; have hroom25 : x3_1.length ≤ co3 := (Kd.zBd HO_3.out).2.1; have hC25 : Kd.C (Kd.int .i64) _ (some ad504) x3_1.length x3_1 := (Kd.zBd HO_3.out).2.2; have q025 : (0 : Int) ≤ (x5_2 : Int) := of_decide_eq_true (by first | (with_reducible assumption) | assumption); have hcut25 := cut_from (P := Tryd.prog) 23 3 .i64 Tryd.underlying23 hi025 1 hsz25 (some ad504) x3_1.length co3 x5_2 q025 q25; have hr25 := Kd.C_drop (m := (x5_2 : Int).toNat) (c := co3) hC25 (by omega) hroom25; obtain ⟨A25, hA25⟩ : ∃ A1, A1 = (if co3 = (x5_2 : Int).toNat then (some ad504) else ((some ad504) : Option Addr).map (·.add ((x5_2 : Int).toNat * 1))) := ⟨_, rfl⟩; obtain ⟨c25, hc25⟩ : ∃ c1, c1 = co3 - (x5_2 : Int).toNat := ⟨_, rfl⟩; have hy25 : y520.length = x3_1.length - (x5_2 : Int).toNat := (by rw [Ny520.out, List.length_drop] <;> omega); rw [show (x3_1).drop (x5_2 : Int).toNat = y520 from Ny520.out.symm] at hr25; replace hr25 : Kd.C (Kd.int .i64) _ A25 y520.length y520 := (by rw [hA25]; exact hr25); rw [← hy25, ← hA25, ← hc25] at hcut25; have HR523 := zA1.mk hr25; have HC523 := zA1.mk (show y520.length ≤ c25 from by rw [hy25, hc25]; exact Nat.sub_le_sub_right hroom25 _); clear hr25 hC25 hroom25 hi025 hsz25 hc25; have KY25 := zA1.mk hy25; have KA25 := zA1.mk hA25; clear hy25 hA25; have KL25 := zA1.mk (show (x5_2 : Int).toNat ≤ x3_1.length from by omega); replace q25 := eq_true q25) | ((with_reducible refine zC1 (b := .append) (xs := #[.tmp 47, .tmp 50]) rfl ?_); (try (refine zBz (by rfl) ?_; dsimp only)); at_builtin; refine Kd.R_append_rows (Kd.int .i64) (w0 := w) w.heap.size rfl (.tmp 47) (.tmp 50) 23 3 (.int .i64 0) 8 rfl Tryd.underlying23 info3 rfl (by decide) (by omega) v518 y517 y520 _ _ _ (fun k_ => some k_ ≠ (.slice (some ad504) x3_1.length co3 : Value).ownBlock) (fun _ => False) rfl rfl ?aO ?aR (fun _ _ h => h) (fun _ h => h.elim) ?aF ?aB ?aS ?aL ?_; (case aR => repeat (first | exact (by repeat (first | (with_reducible exact HR523.out) | (with_reducible refine Kd.zA8 ?_ _) | (with_reducible refine Kd.zAd ?_ _) | (with_reducible refine Kd.zAp ?_) | exact HR523.out)) | (with_reducible refine Kd.zA8 ?_ _) | (with_reducible refine Kd.zAd ?_ _) | (with_reducible refine Kd.zAp ?_))); (case aB => exact (by repeat (first | (with_reducible first | exact HB.out | apply zA2 | apply zA0 | apply zA3) | exact HB.out))); (case aF => exact (fun k_ hk => Kd.fresh' (Kd.R_lt (by (with_reducible repeat (first | apply Kd.zAk | apply Kd.zAj | apply Kd.zAt)); exact HO_3.out)) k_ hk)); (case aO => exact (by (with_reducible repeat (first | apply Kd.zAk | apply Kd.zAj | apply Kd.zAt)); exact HO519.out)); (case aS => exact (zAc (by repeat (first | (with_reducible first | exact HB.out | apply zA2 | apply zA0 | apply zA3) | exact HB.out)))); (case aL => have := LMc19.out; omega); intro v525 w26 ho hb hg hat; rw [← Ny524.out] at ho; have n0_ := zA1.mk (Kd.zC8 (ok := (fun _ => True)) (by (with_reducible repeat (first | apply Kd.zAk | apply Kd.zAj | apply Kd.zAt)); exact HO_3.out) hg hat); have n1_ := zA1.mk (hb); have n2_ := zA1.mk ((show Kd.C (Kd.int .i64) w26 (some ad504) y510.length y510 from by rw [Ny510.out]; exact Kd.C_take (m := (x5_2 : Int).toNat) ((Kd.zBd (Kd.zC8 (ok := (fun _ => True)) (by (with_reducible repeat (first | apply Kd.zAk | apply Kd.zAj | apply Kd.zAt)); exact HO_3.out) hg hat)).2.2) KL22.out)); have n3_ := zA1.mk ((show Kd.C (Kd.int .i64) w26 A25 y520.length y520 from by rw [Ny520.out, KA25.out]; exact Kd.C_drop (m := (x5_2 : Int).toNat) (c := co3) ((Kd.zBd (Kd.zC8 (ok := (fun _ => True)) (by (with_reducible repeat (first | apply Kd.zAk | apply Kd.zAj | apply Kd.zAt)); exact HO_3.out) hg hat)).2.2) KL25.out ((Kd.zBd (Kd.zC8 (ok := (fun _ => True)) (by (with_reducible repeat (first | apply Kd.zAk | apply Kd.zAj | apply Kd.zAt)); exact HO_3.out) hg hat)).2.1))); have n4_ := zA1.mk (ho); clear HO_3; clear HB; clear HR513; clear HR523; clear HO519; have HO_3 := n0_; have HB := n1_; have HR513 := n2_; have HR523 := n3_; have HO526 := n4_; clear n0_ n1_ n2_ n3_ n4_; clear ho hb hg hat)))
        go_roundg k2
        case measure => have := HK1.out; have := HK2.out; omega
        case rel => exact ⟨(y524), (wrap64 (x4_1 + 1)), (by first | rfl | (simp; done) | (simp [*]; done)), H', ⟨by have := HK1.out; have := HK2.out; omega⟩, ⟨by (with_reducible repeat (first | apply Kd.zAk | apply Kd.zAj | apply Kd.zAt)); exact Kd.zCc HO526.out (fun _ hk => trivial)⟩, ⟨by repeat (first | (with_reducible first | exact HB.out | apply zA2 | apply zA0 | apply zA3) | exact HB.out)⟩⟩
      ·rw [if_neg c4] at H
       have c4b0 : decide (0 < x5_2) = false := decide_eq_false c4
       clear c4
       obtain ⟨y527, hy527⟩ : ∃ y_ : List Int, y_ = (([] : List Int)) := ⟨_, rfl⟩
       replace H : (if 0 ≤ x5_2 then (if x5_2 ≤ (x3_1.length : Int) then ((some (x3_1.take (x5_2 : Int).toNat : List Int)).bind fun y530 => (if y527.length + y530.length < 17592186044416 then ((some (y527 ++ y530 : List Int)).bind fun y534 => (if y534.length < 17592186044416 then ((some (y534 ++ [x4_1] : List Int)).bind fun y537 => ((some (x3_1.drop (x5_2 : Int).toNat : List Int)).bind fun y540 => (if y537.length + y540.length < 17592186044416 then (zAn.l0 k2 l0 (y537 ++ y540) (wrap64 (x4_1 + 1))) else (none)))) else (none))) else (none))) else (none)) else (none)) = some r := by first | (rw [hy527]; with_reducible exact H) | (have H2_ := (Option.bind_some _ _).symm.trans H; rw [hy527]; with_reducible exact H2_) | (have H2_ := (Option.bind_some _ _).symm.trans H; with_reducible exact H2_) | with_reducible exact H | (rw [hy527]; exact H) | exact H
       have Ny527 := zA1.mk hy527
       clear hy527
       by_cases c27 : 0 ≤ x5_2
       rotate_left
       ·rw [if_neg c27] at H
        exact absurd H (by simp)
       rw [if_pos c27] at H
       have c27b0 := eq_true c27
       have c27b1 : decide (0 ≤ x5_2) = true := decide_eq_true c27
       clear c27
       by_cases c28 : x5_2 ≤ (x3_1.length : Int)
       rotate_left
       ·rw [if_neg c28] at H
        exact absurd H (by simp)
       rw [if_pos c28] at H
       have c28b0 := eq_true c28
       have c28b1 : decide (x5_2 ≤ (x3_1.length : Int)) = true := decide_eq_true c28
       clear c28
       obtain ⟨y530, hy530⟩ : ∃ y_ : List Int, y_ = (x3_1.take (x5_2 : Int).toNat) := ⟨_, rfl⟩
       replace H : (if y527.length + y530.length < 17592186044416 then ((some (y527 ++ y530 : List Int)).bind fun y534 => (if y534.length < 17592186044416 then ((some (y534 ++ [x4_1] : List Int)).bind fun y537 => ((some (x3_1.drop (x5_2 : Int).toNat : List Int)).bind fun y540 => (if y537.length + y540.length < 17592186044416 then (zAn.l0 k2 l0 (y537 ++ y540) (wrap64 (x4_1 + 1))) else (none)))) else (none))) else (none)) = some r := by first | (rw [hy530]; with_reducible exact H) | (have H2_ := (Option.bind_some _ _).symm.trans H; rw [hy530]; with_reducible exact H2_) | (have H2_ := (Option.bind_some _ _).symm.trans H; with_reducible exact H2_) | with_reducible exact H | (rw [hy530]; exact H) | exact H
       have Ny530 := zA1.mk hy530
       clear hy530
       by_cases c29 : y527.length + y530.length < 17592186044416
       rotate_left
       ·rw [if_neg c29] at H
        exact absurd H (by simp)
       rw [if_pos c29] at H
       have LMc29 := zA1.mk c29
       clear c29
       obtain ⟨y534, hy534⟩ : ∃ y_ : List Int, y_ = (y527 ++ y530) := ⟨_, rfl⟩
       replace H : (if y534.length < 17592186044416 then ((some (y534 ++ [x4_1] : List Int)).bind fun y537 => ((some (x3_1.drop (x5_2 : Int).toNat : List Int)).bind fun y540 => (if y537.length + y540.length < 17592186044416 then (zAn.l0 k2 l0 (y537 ++ y540) (wrap64 (x4_1 + 1))) else (none)))) else (none)) = some r := by first | (rw [hy534]; with_reducible exact H) | (have H2_ := (Option.bind_some _ _).symm.trans H; rw [hy534]; with_reducible exact H2_) | (have H2_ := (Option.bind_some _ _).symm.trans H; with_reducible exact H2_) | with_reducible exact H | (rw [hy534]; exact H) | exact H
       have Ny534 := zA1.mk hy534
       clear hy534
       by_cases c30 : y534.length < 17592186044416
       rotate_left
       ·rw [if_neg c30] at H
        exact absurd H (by simp)
       rw [if_pos c30] at H
       have LMc30 := zA1.mk c30
       clear c30
       obtain ⟨y537, hy537⟩ : ∃ y_ : List Int, y_ = (y534 ++ [x4_1]) := ⟨_, rfl⟩
       replace H : ((some (x3_1.drop (x5_2 : Int).toNat : List Int)).bind fun y540 => (if y537.length + y540.length < 17592186044416 then (zAn.l0 k2 l0 (y537 ++ y540) (wrap64 (x4_1 + 1))) else (none))) = some r := by first | (rw [hy537]; with_reducible exact H) | (have H2_ := (Option.bind_some _ _).symm.trans H; rw [hy537]; with_reducible exact H2_) | (have H2_ := (Option.bind_some _ _).symm.trans H; with_reducible exact H2_) | with_reducible exact H | (rw [hy537]; exact H) | exact H
       have Ny537 := zA1.mk hy537
       clear hy537
       have c31b0 := eq_true (of_decide_eq_true (by first | (with_reducible assumption) | assumption) : 0 ≤ x5_2)
       have c32b0 := eq_true (of_decide_eq_true (by first | (with_reducible assumption) | assumption) : x5_2 ≤ (x3_1.length : Int))
       obtain ⟨y540, hy540⟩ : ∃ y_ : List Int, y_ = (x3_1.drop (x5_2 : Int).toNat) := ⟨_, rfl⟩
       replace H : (if y537.length + y540.length < 17592186044416 then (zAn.l0 k2 l0 (y537 ++ y540) (wrap64 (x4_1 + 1))) else (none)) = some r := by first | (rw [hy540]; with_reducible exact H) | (have H2_ := (Option.bind_some _ _).symm.trans H; rw [hy540]; with_reducible exact H2_) | (have H2_ := (Option.bind_some _ _).symm.trans H; with_reducible exact H2_) | with_reducible exact H | (rw [hy540]; exact H) | exact H
       have Ny540 := zA1.mk hy540
       clear hy540
       by_cases c33 : y537.length + y540.length < 17592186044416
       rotate_left
       ·rw [if_neg c33] at H
        exact absurd H (by simp)
       rw [if_pos c33] at H
       have LMc33 := zA1.mk c33
       clear c33
       obtain ⟨y544, hy544⟩ : ∃ y_ : List Int, y_ = (y537 ++ y540) := ⟨_, rfl⟩
       replace H : (zAn.l0 k2 l0 y544 (wrap64 (x4_1 + 1))) = some r := by first | (rw [hy544]; with_reducible exact H) | (have H2_ := (Option.bind_some _ _).symm.trans H; rw [hy544]; with_reducible exact H2_) | (have H2_ := (Option.bind_some _ _).symm.trans H; with_reducible exact H2_) | with_reducible exact H | (rw [hy544]; exact H) | exact H
       have Ny544 := zA1.mk hy544
       clear hy544
       have H' := zA1.mk H
       clear H
       go_wp2_with (first | ((with_reducible refine zBl (N := 38) rfl ?_); (try (refine zBz (by rfl) ?_; dsimp only)); refine Kd.R_lit (Kd.int .i64) _ 3 ?hg (N := 38) ?hd (xs := ([] : List Int)) (inner := []) (ok := fun _ => True) (okp := fun _ => True) ?hr ?hp (fun _ hk => hk) trivial (Below.refl _ _) (Nat.le_refl _) (by simp) ?_; (case hd => rfl); (case hg => rfl); (case hr => first | (go_simp; done) | (go_simp; rfl)); (case hp => exact (Reps.none _ _)); intro v528 w34 ho35 hb hg_ hnew_; clear hg_ hnew_; (first | rw [← Ny527.out] at ho35 | (simp only [Int.reduceToNat] at ho35; rw [← Ny527.out] at ho35)); have n0_ := zA1.mk (Kd.R_elder' (by (with_reducible repeat (first | apply Kd.zAk | apply Kd.zAj | apply Kd.zAt)); exact HO_3.out) (Kd.R_base ho35) hb); have n1_ := zA1.mk (Kd.R_lower (Kd.R_new' ho35 (Kd.R_lt (by (with_reducible repeat (first | apply Kd.zAk | apply Kd.zAj | apply Kd.zAt)); exact HO_3.out))) (zAc (by repeat (first | (with_reducible first | exact HB.out | apply zA2 | apply zA0 | apply zA3) | exact HB.out)))); have n2_ := zA1.mk (zAm (by repeat (first | (with_reducible first | exact HB.out | apply zA2 | apply zA0 | apply zA3) | exact HB.out)) hb); clear HO_3; clear HB; have HO_3 := n0_; have HO529 := n1_; have HB := n2_; clear n0_ n1_ n2_; clear hb ho35; have q36 : (x5_2 : Int) ≤ ((x3_1.length : Int) : Int) := of_decide_eq_true (by first | (with_reducible assumption) | assumption); obtain ⟨i036, hi036, _, hsz36, _⟩ := info_parts info3; have hroom36 : x3_1.length ≤ co3 := (Kd.zBd HO_3.out).2.1; have hC36 : Kd.C (Kd.int .i64) _ Ao3 x3_1.length x3_1 := (Kd.zBd HO_3.out).2.2; have hcut36 := cut_to (P := Tryd.prog) 23 3 .i64 Tryd.underlying23 hi036 Ao3 x3_1.length co3 x5_2 (of_decide_eq_true (by first | (with_reducible assumption) | assumption)) q36 hroom36; have hr36 := Kd.C_take (m := (x5_2 : Int).toNat) hC36 (by omega); have hy36 : y530.length = (x5_2 : Int).toNat := (by rw [Ny530.out, List.length_take]; omega); rw [← Ny530.out] at hr36; rw [← hy36] at hcut36; have HR533 := zA1.mk hr36; have HC533 := zA1.mk (show y530.length ≤ co3 from by omega); clear hr36 hC36 hroom36 hi036 hsz36; have KY36 := zA1.mk hy36; clear hy36; have KL36 := zA1.mk (show (x5_2 : Int).toNat ≤ x3_1.length from by omega); replace q36 := eq_true q36) | ((with_reducible refine zC1 (b := .append) (xs := #[.tmp 38, .tmp 41]) rfl ?_); (try (refine zBz (by rfl) ?_; dsimp only)); at_builtin; refine Kd.R_append_rows (Kd.int .i64) (w0 := w) w.heap.size rfl (.tmp 38) (.tmp 41) 23 3 (.int .i64 0) 8 rfl Tryd.underlying23 info3 rfl (by decide) (by omega) v528 y527 y530 _ _ _ (fun k_ => some k_ ≠ (.slice Ao3 x3_1.length co3 : Value).ownBlock) (fun _ => False) rfl rfl ?aO ?aR (fun _ _ h => h) (fun _ h => h.elim) ?aF ?aB ?aS ?aL ?_; (case aR => repeat (first | exact (by repeat (first | (with_reducible exact HR533.out) | (with_reducible refine Kd.zA8 ?_ _) | (with_reducible refine Kd.zAd ?_ _) | (with_reducible refine Kd.zAp ?_) | exact HR533.out)) | (with_reducible refine Kd.zA8 ?_ _) | (with_reducible refine Kd.zAd ?_ _) | (with_reducible refine Kd.zAp ?_))); (case aB => exact (by repeat (first | (with_reducible first | exact HB.out | apply zA2 | apply zA0 | apply zA3) | exact HB.out))); (case aF => exact (fun k_ hk => Kd.fresh' (Kd.R_lt (by (with_reducible repeat (first | apply Kd.zAk | apply Kd.zAj | apply Kd.zAt)); exact HO_3.out)) k_ hk)); (case aO => exact (by (with_reducible repeat (first | apply Kd.zAk | apply Kd.zAj | apply Kd.zAt)); exact Kd.zCc HO529.out (fun _ hk => hk.2))); (case aS => exact (zAc (by repeat (first | (with_reducible first | exact HB.out | apply zA2 | apply zA0 | apply zA3) | exact HB.out)))); (case aL => have := LMc29.out; omega); intro v535 w37 ho hb hg hat; rw [← Ny534.out] at ho; have n0_ := zA1.mk (Kd.zC8 (ok := (fun _ => True)) (by (with_reducible repeat (first | apply Kd.zAk | apply Kd.zAj | apply Kd.zAt)); exact HO_3.out) hg hat); have n1_ := zA1.mk (hb); have n2_ := zA1.mk ((show Kd.C (Kd.int .i64) w37 Ao3 y530.length y530 from by rw [Ny530.out]; exact Kd.C_take (m := (x5_2 : Int).toNat) ((Kd.zBd (Kd.zC8 (ok := (fun _ => True)) (by (with_reducible repeat (first | apply Kd.zAk | apply Kd.zAj | apply Kd.zAt)); exact HO_3.out) hg hat)).2.2) KL36.out)); have n3_ := zA1.mk (ho); clear HO_3; clear HB; clear HR533; clear HO529; have HO_3 := n0_; have HB := n1_; have HR533 := n2_; have HO536 := n3_; clear n0_ n1_ n2_ n3_; clear ho hb hg hat) | ((with_reducible refine zC1 (b := .append) (xs := #[.tmp 43, .tmp 45]) rfl ?_); (try (refine zBz (by rfl) ?_; dsimp only)); at_builtin; refine Kd.R_append (Kd.int .i64) (w0 := w) w.heap.size rfl (.tmp 43) (.tmp 45) 23 3 (.int .i64 0) 8 rfl Tryd.underlying23 info3 rfl (by decide) (by omega) v535 y534 x4_1 [.int .i64 x4_1] (fun k_ => some k_ ≠ (.slice Ao3 x3_1.length co3 : Value).ownBlock) (fun _ => False) rfl rfl ?aP (fun _ hk => hk.elim) ?aF ?aO ?aB ?aS ?aL ?_; (case aP => exact rfl); (case aB => exact (by repeat (first | (with_reducible first | exact HB.out | apply zA2 | apply zA0 | apply zA3) | exact HB.out))); (case aF => exact (fun k_ hk => Kd.fresh' (Kd.R_lt (by (with_reducible repeat (first | apply Kd.zAk | apply Kd.zAj | apply Kd.zAt)); exact HO_3.out)) k_ hk)); (case aO => exact (by (with_reducible repeat (first | apply Kd.zAk | apply Kd.zAj | apply Kd.zAt)); exact HO536.out)); (case aS => exact (zAc (by repeat (first | (with_reducible first | exact HB.out | apply zA2 | apply zA0 | apply zA3) | exact HB.out)))); (case aL => have := LMc30.out; omega); intro v538 w38 ho hb hg hat; rw [← Ny537.out] at ho; have n0_ := zA1.mk (Kd.zC8 (ok := (fun _ => True)) (by (with_reducible repeat (first | apply Kd.zAk | apply Kd.zAj | apply Kd.zAt)); exact HO_3.out) hg hat); have n1_ := zA1.mk (hb); have n2_ := zA1.mk ((show Kd.C (Kd.int .i64) w38 Ao3 y530.length y530 from by rw [Ny530.out]; exact Kd.C_take (m := (x5_2 : Int).toNat) ((Kd.zBd (Kd.zC8 (ok := (fun _ => True)) (by (with_reducible repeat (first | apply Kd.zAk | apply Kd.zAj | apply Kd.zAt)); exact HO_3.out) hg hat)).2.2) KL36.out)); have n3_ := zA1.mk (ho); clear HO_3; clear HB; clear HR533; clear HO536; have HO_3 := n0_; have HB := n1_; have HR533 := n2_; have HO539 := n3_; clear n0_ n1_ n2_ n3_; clear ho hb hg hat; have q39 : (x5_2 : Int) ≤ ((x3_1.length : Int) : Int) := of_decide_eq_true (by first | (with_reducible assumption) | assumption); obtain ⟨i039, hi039, _, hsz39, _⟩ := info_parts info3; have hroom39 : x3_1.length ≤ co3 := (Kd.zBd HO_3.out).2.1; have hC39 : Kd.C (Kd.int .i64) _ Ao3 x3_1.length x3_1 := (Kd.zBd HO_3.out).2.2; have q039 : (0 : Int) ≤ (x5_2 : Int) := of_decide_eq_true (by first | (with_reducible assumption) | assumption); have hcut39 := cut_from (P := Tryd.prog) 23 3 .i64 Tryd.underlying23 hi039 1 hsz39 Ao3 x3_1.length co3 x5_2 q039 q39; have hr39 := Kd.C_drop (m := (x5_2 : Int).toNat) (c := co3) hC39 (by omega) hroom39; obtain ⟨A39, hA39⟩ : ∃ A1, A1 = (if co3 = (x5_2 : Int).toNat then Ao3 else (Ao3 : Option Addr).map (·.add ((x5_2 : Int).toNat * 1))) := ⟨_, rfl⟩; obtain ⟨c39, hc39⟩ : ∃ c1, c1 = co3 - (x5_2 : Int).toNat := ⟨_, rfl⟩; have hy39 : y540.length = x3_1.length - (x5_2 : Int).toNat := (by rw [Ny540.out, List.length_drop] <;> omega); rw [show (x3_1).drop (x5_2 : Int).toNat = y540 from Ny540.out.symm] at hr39; replace hr39 : Kd.C (Kd.int .i64) _ A39 y540.length y540 := (by rw [hA39]; exact hr39); rw [← hy39, ← hA39, ← hc39] at hcut39; have HR543 := zA1.mk hr39; have HC543 := zA1.mk (show y540.length ≤ c39 from by rw [hy39, hc39]; exact Nat.sub_le_sub_right hroom39 _); clear hr39 hC39 hroom39 hi039 hsz39 hc39; have KY39 := zA1.mk hy39; have KA39 := zA1.mk hA39; clear hy39 hA39; have KL39 := zA1.mk (show (x5_2 : Int).toNat ≤ x3_1.length from by omega); replace q39 := eq_true q39) | ((with_reducible refine zC1 (b := .append) (xs := #[.tmp 47, .tmp 50]) rfl ?_); (try (refine zBz (by rfl) ?_; dsimp only)); at_builtin; refine Kd.R_append_rows (Kd.int .i64) (w0 := w) w.heap.size rfl (.tmp 47) (.tmp 50) 23 3 (.int .i64 0) 8 rfl Tryd.underlying23 info3 rfl (by decide) (by omega) v538 y537 y540 _ _ _ (fun k_ => some k_ ≠ (.slice Ao3 x3_1.length co3 : Value).ownBlock) (fun _ => False) rfl rfl ?aO ?aR (fun _ _ h => h) (fun _ h => h.elim) ?aF ?aB ?aS ?aL ?_; (case aR => repeat (first | exact (by repeat (first | (with_reducible exact HR543.out) | (with_reducible refine Kd.zA8 ?_ _) | (with_reducible refine Kd.zAd ?_ _) | (with_reducible refine Kd.zAp ?_) | exact HR543.out)) | (with_reducible refine Kd.zA8 ?_ _) | (with_reducible refine Kd.zAd ?_ _) | (with_reducible refine Kd.zAp ?_))); (case aB => exact (by repeat (first | (with_reducible first | exact HB.out | apply zA2 | apply zA0 | apply zA3) | exact HB.out))); (case aF => exact (fun k_ hk => Kd.fresh' (Kd.R_lt (by (with_reducible repeat (first | apply Kd.zAk | apply Kd.zAj | apply Kd.zAt)); exact HO_3.out)) k_ hk)); (case aO => exact (by (with_reducible repeat (first | apply Kd.zAk | apply Kd.zAj | apply Kd.zAt)); exact HO539.out)); (case aS => exact (zAc (by repeat (first | (with_reducible first | exact HB.out | apply zA2 | apply zA0 | apply zA3) | exact HB.out)))); (case aL => have := LMc33.out; omega); intro v545 w40 ho hb hg hat; rw [← Ny544.out] at ho; have n0_ := zA1.mk (Kd.zC8 (ok := (fun _ => True)) (by (with_reducible repeat (first | apply Kd.zAk | apply Kd.zAj | apply Kd.zAt)); exact HO_3.out) hg hat); have n1_ := zA1.mk (hb); have n2_ := zA1.mk ((show Kd.C (Kd.int .i64) w40 Ao3 y530.length y530 from by rw [Ny530.out]; exact Kd.C_take (m := (x5_2 : Int).toNat) ((Kd.zBd (Kd.zC8 (ok := (fun _ => True)) (by (with_reducible repeat (first | apply Kd.zAk | apply Kd.zAj | apply Kd.zAt)); exact HO_3.out) hg hat)).2.2) KL36.out)); have n3_ := zA1.mk ((show Kd.C (Kd.int .i64) w40 A39 y540.length y540 from by rw [Ny540.out, KA39.out]; exact Kd.C_drop (m := (x5_2 : Int).toNat) (c := co3) ((Kd.zBd (Kd.zC8 (ok := (fun _ => True)) (by (with_reducible repeat (first | apply Kd.zAk | apply Kd.zAj | apply Kd.zAt)); exact HO_3.out) hg hat)).2.2) KL39.out ((Kd.zBd (Kd.zC8 (ok := (fun _ => True)) (by (with_reducible repeat (first | apply Kd.zAk | apply Kd.zAj | apply Kd.zAt)); exact HO_3.out) hg hat)).2.1))); have n4_ := zA1.mk (ho); clear HO_3; clear HB; clear HR533; clear HR543; clear HO539; have HO_3 := n0_; have HB := n1_; have HR533 := n2_; have HR543 := n3_; have HO546 := n4_; clear n0_ n1_ n2_ n3_ n4_; clear ho hb hg hat))
       repeat (go_quiet (first | ((with_reducible refine zBl (N := 38) rfl ?_); (try (refine zBz (by rfl) ?_; dsimp only)); refine Kd.R_lit (Kd.int .i64) _ 3 ?hg (N := 38) ?hd (xs := ([] : List Int)) (inner := []) (ok := fun _ => True) (okp := fun _ => True) ?hr ?hp (fun _ hk => hk) trivial (Below.refl _ _) (Nat.le_refl _) (by simp) ?_; (case hd => rfl); (case hg => rfl); (case hr => first | (go_simp; done) | (go_simp; rfl)); (case hp => exact (Reps.none _ _)); intro v528 w34 ho35 hb hg_ hnew_; clear hg_ hnew_; (first | rw [← Ny527.out] at ho35 | (simp only [Int.reduceToNat] at ho35; rw [← Ny527.out] at ho35)); have n0_ := zA1.mk (Kd.R_elder' (by (with_reducible repeat (first | apply Kd.zAk | apply Kd.zAj | apply Kd.zAt)); exact HO_3.out) (Kd.R_base ho35) hb); have n1_ := zA1.mk (Kd.R_lower (Kd.R_new' ho35 (Kd.R_lt (by (with_reducible repeat (first | apply Kd.zAk | apply Kd.zAj | apply Kd.zAt)); exact HO_3.out))) (zAc (by repeat (first | (with_reducible first | exact HB.out | apply zA2 | apply zA0 | apply zA3) | exact HB.out)))); have n2_ := zA1.mk (zAm (by repeat (first | (with_reducible first | exact HB.out | apply zA2 | apply zA0 | apply zA3) | exact HB.out)) hb); clear HO_3; clear HB; have HO_3 := n0_; have HO529 := n1_; have HB := n2_; clear n0_ n1_ n2_; clear hb ho35; have q36 : (x5_2 : Int) ≤ ((x3_1.length : Int) : Int) := of_decide_eq_true (by first | (with_reducible assumption) | assumption); obtain ⟨i036, hi036, _, hsz36, _⟩ := info_parts info3; have hroom36 : x3_1.length ≤ co3 := (Kd.zBd HO_3.out).2.1; have hC36 : Kd.C (Kd.int .i64) _ Ao3 x3_1.length x3_1 := (Kd.zBd HO_3.out).2.2; have hcut36 := cut_to (P := Tryd.prog) 23 3 .i64 Tryd.underlying23 hi036 Ao3 x3_1.length co3 x5_2 (of_decide_eq_true (by first | (with_reducible assumption) | assumption)) q36 hroom36; have hr36 := Kd.C_take (m := (x5_2 : Int).toNat) hC36 (by omega); have hy36 : y530.length = (x5_2 : Int).toNat := (by rw [Ny530.out, List.length_take]; omega); rw [← Ny530.out] at hr36; rw [← hy36] at hcut36; have HR533 := zA1.mk hr36; have HC533 := zA1.mk (show y530.length ≤ co3 from by omega); clear hr36 hC36 hroom36 hi036 hsz36; have KY36 := zA1.mk hy36; clear hy36; have KL36 := zA1.mk (show (x5_2 : Int).toNat ≤ x3_1.length from by omega); replace q36 := eq_true q36) | ((with_reducible refine zC1 (b := .append) (xs := #[.tmp 38, .tmp 41]) rfl ?_); (try (refine zBz (by rfl) ?_; dsimp only)); at_builtin; refine Kd.R_append_rows (Kd.int .i64) (w0 := w) w.heap.size rfl (.tmp 38) (.tmp 41) 23 3 (.int .i64 0) 8 rfl Tryd.underlying23 info3 rfl (by decide) (by omega) v528 y527 y530 _ _ _ (fun k_ => some k_ ≠ (.slice Ao3 x3_1.length co3 : Value).ownBlock) (fun _ => False) rfl rfl ?aO ?aR (fun _ _ h => h) (fun _ h => h.elim) ?aF ?aB ?aS ?aL ?_; (case aR => repeat (first | exact (by repeat (first | (with_reducible exact HR533.out) | (with_reducible refine Kd.zA8 ?_ _) | (with_reducible refine Kd.zAd ?_ _) | (with_reducible refine Kd.zAp ?_) | exact HR533.out)) | (with_reducible refine Kd.zA8 ?_ _) | (with_reducible refine Kd.zAd ?_ _) | (with_reducible refine Kd.zAp ?_))); (case aB => exact (by repeat (first | (with_reducible first | exact HB.out | apply zA2 | apply zA0 | apply zA3) | exact HB.out))); (case aF => exact (fun k_ hk => Kd.fresh' (Kd.R_lt (by (with_reducible repeat (first | apply Kd.zAk | apply Kd.zAj | apply Kd.zAt)); exact HO_3.out)) k_ hk)); (case aO => exact (by (with_reducible repeat (first | apply Kd.zAk | apply Kd.zAj | apply Kd.zAt)); exact Kd.zCc HO529.out (fun _ hk => hk.2))); (case aS => exact (zAc (by repeat (first | (with_reducible first | exact HB.out | apply zA2 | apply zA0 | apply zA3) | exact HB.out)))); (case aL => have := LMc29.out; omega); intro v535 w37 ho hb hg hat; rw [← Ny534.out] at ho; have n0_ := zA1.mk (Kd.zC8 (ok := (fun _ => True)) (by (with_reducible repeat (first | apply Kd.zAk | apply Kd.zAj | apply Kd.zAt)); exact HO_3.out) hg hat); have n1_ := zA1.mk (hb); have n2_ := zA1.mk ((show Kd.C (Kd.int .i64) w37 Ao3 y530.length y530 from by rw [Ny530.out]; exact Kd.C_take (m := (x5_2 : Int).toNat) ((Kd.zBd (Kd.zC8 (ok := (fun _ => True)) (by (with_reducible repeat (first | apply Kd.zAk | apply Kd.zAj | apply Kd.zAt)); exact HO_3.out) hg hat)).2.2) KL36.out)); have n3_ := zA1.mk (ho); clear HO_3; clear HB; clear HR533; clear HO529; have HO_3 := n0_; have HB := n1_; have HR533 := n2_; have HO536 := n3_; clear n0_ n1_ n2_ n3_; clear ho hb hg hat) | ((with_reducible refine zC1 (b := .append) (xs := #[.tmp 43, .tmp 45]) rfl ?_); (try (refine zBz (by rfl) ?_; dsimp only)); at_builtin; refine Kd.R_append (Kd.int .i64) (w0 := w) w.heap.size rfl (.tmp 43) (.tmp 45) 23 3 (.int .i64 0) 8 rfl Tryd.underlying23 info3 rfl (by decide) (by omega) v535 y534 x4_1 [.int .i64 x4_1] (fun k_ => some k_ ≠ (.slice Ao3 x3_1.length co3 : Value).ownBlock) (fun _ => False) rfl rfl ?aP (fun _ hk => hk.elim) ?aF ?aO ?aB ?aS ?aL ?_; (case aP => exact rfl); (case aB => exact (by repeat (first | (with_reducible first | exact HB.out | apply zA2 | apply zA0 | apply zA3) | exact HB.out))); (case aF => exact (fun k_ hk => Kd.fresh' (Kd.R_lt (by (with_reducible repeat (first | apply Kd.zAk | apply Kd.zAj | apply Kd.zAt)); exact HO_3.out)) k_ hk)); (case aO => exact (by (with_reducible repeat (first | apply Kd.zAk | apply Kd.zAj | apply Kd.zAt)); exact HO536.out)); (case aS => exact (zAc (by repeat (first | (with_reducible first | exact HB.out | apply zA2 | apply zA0 | apply zA3) | exact HB.out)))); (case aL => have := LMc30.out; omega); intro v538 w38 ho hb hg hat; rw [← Ny537.out] at ho; have n0_ := zA1.mk (Kd.zC8 (ok := (fun _ => True)) (by (with_reducible repeat (first | apply Kd.zAk | apply Kd.zAj | apply Kd.zAt)); exact HO_3.out) hg hat); have n1_ := zA1.mk (hb); have n2_ := zA1.mk ((show Kd.C (Kd.int .i64) w38 Ao3 y530.length y530 from by rw [Ny530.out]; exact Kd.C_take (m := (x5_2 : Int).toNat) ((Kd.zBd (Kd.zC8 (ok := (fun _ => True)) (by (with_reducible repeat (first | apply Kd.zAk | apply Kd.zAj | apply Kd.zAt)); exact HO_3.out) hg hat)).2.2) KL36.out)); have n3_ := zA1.mk (ho); clear HO_3; clear HB; clear HR533; clear HO536; have HO_3 := n0_; have HB := n1_; have HR533 := n2_; have HO539 := n3_; clear n0_ n1_ n2_ n3_; clear ho hb hg hat; have q39 : (x5_2 : Int) ≤ ((x3_1.length : Int) : Int) := of_decide_eq_true (by first | (with_reducible assumption) | assumption); obtain ⟨i039, hi039, _, hsz39, _⟩ := info_parts info3; have hroom39 : x3_1.length ≤ co3 := (Kd.zBd HO_3.out).2.1; have hC39 : Kd.C (Kd.int .i64) _ Ao3 x3_1.length x3_1 := (Kd.zBd HO_3.out).2.2; have q039 : (0 : Int) ≤ (x5_2 : Int) := of_decide_eq_true (by first | (with_reducible assumption) | assumption); have hcut39 := cut_from (P := Tryd.prog) 23 3 .i64 Tryd.underlying23 hi039 1 hsz39 Ao3 x3_1.length co3 x5_2 q039 q39; have hr39 := Kd.C_drop (m := (x5_2 : Int).toNat) (c := co3) hC39 (by omega) hroom39; obtain ⟨A39, hA39⟩ : ∃ A1, A1 = (if co3 = (x5_2 : Int).toNat then Ao3 else (Ao3 : Option Addr).map (·.add ((x5_2 : Int).toNat * 1))) := ⟨_, rfl⟩; obtain ⟨c39, hc39⟩ : ∃ c1, c1 = co3 - (x5_2 : Int).toNat := ⟨_, rfl⟩; have hy39 : y540.length = x3_1.length - (x5_2 : Int).toNat := (by rw [Ny540.out, List.length_drop] <;> omega); rw [show (x3_1).drop (x5_2 : Int).toNat = y540 from Ny540.out.symm] at hr39; replace hr39 : Kd.C (Kd.int .i64) _ A39 y540.length y540 := (by rw [hA39]; exact hr39); rw [← hy39, ← hA39, ← hc39] at hcut39; have HR543 := zA1.mk hr39; have HC543 := zA1.mk (show y540.length ≤ c39 from by rw [hy39, hc39]; exact Nat.sub_le_sub_right hroom39 _); clear hr39 hC39 hroom39 hi039 hsz39 hc39; have KY39 := zA1.mk hy39; have KA39 := zA1.mk hA39; clear hy39 hA39; have KL39 := zA1.mk (show (x5_2 : Int).toNat ≤ x3_1.length from by omega); replace q39 := eq_true q39) | ((with_reducible refine zC1 (b := .append) (xs := #[.tmp 47, .tmp 50]) rfl ?_); (try (refine zBz (by rfl) ?_; dsimp only)); at_builtin; refine Kd.R_append_rows (Kd.int .i64) (w0 := w) w.heap.size rfl (.tmp 47) (.tmp 50) 23 3 (.int .i64 0) 8 rfl Tryd.underlying23 info3 rfl (by decide) (by omega) v538 y537 y540 _ _ _ (fun k_ => some k_ ≠ (.slice Ao3 x3_1.length co3 : Value).ownBlock) (fun _ => False) rfl rfl ?aO ?aR (fun _ _ h => h) (fun _ h => h.elim) ?aF ?aB ?aS ?aL ?_; (case aR => repeat (first | exact (by repeat (first | (with_reducible exact HR543.out) | (with_reducible refine Kd.zA8 ?_ _) | (with_reducible refine Kd.zAd ?_ _) | (with_reducible refine Kd.zAp ?_) | exact HR543.out)) | (with_reducible refine Kd.zA8 ?_ _) | (with_reducible refine Kd.zAd ?_ _) | (with_reducible refine Kd.zAp ?_))); (case aB => exact (by repeat (first | (with_reducible first | exact HB.out | apply zA2 | apply zA0 | apply zA3) | exact HB.out))); (case aF => exact (fun k_ hk => Kd.fresh' (Kd.R_lt (by (with_reducible repeat (first | apply Kd.zAk | apply Kd.zAj | apply Kd.zAt)); exact HO_3.out)) k_ hk)); (case aO => exact (by (with_reducible repeat (first | apply Kd.zAk | apply Kd.zAj | apply Kd.zAt)); exact HO539.out)); (case aS => exact (zAc (by repeat (first | (with_reducible first | exact HB.out | apply zA2 | apply zA0 | apply zA3) | exact HB.out)))); (case aL => have := LMc33.out; omega); intro v545 w40 ho hb hg hat; rw [← Ny544.out] at ho; have n0_ := zA1.mk (Kd.zC8 (ok := (fun _ => True)) (by (with_reducible repeat (first | apply Kd.zAk | apply Kd.zAj | apply Kd.zAt)); exact HO_3.out) hg hat); have n1_ := zA1.mk (hb); have n2_ := zA1.mk ((show Kd.C (Kd.int .i64) w40 Ao3 y530.length y530 from by rw [Ny530.out]; exact Kd.C_take (m := (x5_2 : Int).toNat) ((Kd.zBd (Kd.zC8 (ok := (fun _ => True)) (by (with_reducible repeat (first | apply Kd.zAk | apply Kd.zAj | apply Kd.zAt)); exact HO_3.out) hg hat)).2.2) KL36.out)); have n3_ := zA1.mk ((show Kd.C (Kd.int .i64) w40 A39 y540.length y540 from by rw [Ny540.out, KA39.out]; exact Kd.C_drop (m := (x5_2 : Int).toNat) (c := co3) ((Kd.zBd (Kd.zC8 (ok := (fun _ => True)) (by (with_reducible repeat (first | apply Kd.zAk | apply Kd.zAj | apply Kd.zAt)); exact HO_3.out) hg hat)).2.2) KL39.out ((Kd.zBd (Kd.zC8 (ok := (fun _ => True)) (by (with_reducible repeat (first | apply Kd.zAk | apply Kd.zAj | apply Kd.zAt)); exact HO_3.out) hg hat)).2.1))); have n4_ := zA1.mk (ho); clear HO_3; clear HB; clear HR533; clear HR543; clear HO539; have HO_3 := n0_; have HB := n1_; have HR533 := n2_; have HR543 := n3_; have HO546 := n4_; clear n0_ n1_ n2_ n3_ n4_; clear ho hb hg hat)); try go_wp2_with (first | ((with_reducible refine zBl (N := 38) rfl ?_); (try (refine zBz (by rfl) ?_; dsimp only)); refine Kd.R_lit (Kd.int .i64) _ 3 ?hg (N := 38) ?hd (xs := ([] : List Int)) (inner := []) (ok := fun _ => True) (okp := fun _ => True) ?hr ?hp (fun _ hk => hk) trivial (Below.refl _ _) (Nat.le_refl _) (by simp) ?_; (case hd => rfl); (case hg => rfl); (case hr => first | (go_simp; done) | (go_simp; rfl)); (case hp => exact (Reps.none _ _)); intro v528 w34 ho35 hb hg_ hnew_; clear hg_ hnew_; (first | rw [← Ny527.out] at ho35 | (simp only [Int.reduceToNat] at ho35; rw [← Ny527.out] at ho35)); have n0_ := zA1.mk (Kd.R_elder' (by (with_reducible repeat (first | apply Kd.zAk | apply Kd.zAj | apply Kd.zAt)); exact HO_3.out) (Kd.R_base ho35) hb); have n1_ := zA1.mk (Kd.R_lower (Kd.R_new' ho35 (Kd.R_lt (by (with_reducible repeat (first | apply Kd.zAk | apply Kd.zAj | apply Kd.zAt)); exact HO_3.out))) (zAc (by repeat (first | (with_reducible first | exact HB.out | apply zA2 | apply zA0 | apply zA3) | exact HB.out)))); have n2_ := zA1.mk (zAm (by repeat (first | (with_reducible first | exact HB.out | apply zA2 | apply zA0 | apply zA3) | exact HB.out)) hb); clear HO_3; clear HB; have HO_3 := n0_; have HO529 := n1_; have HB := n2_; clear n0_ n1_ n2_; clear hb ho35; have q36 : (x5_2 : Int) ≤ ((x3_1.length : Int) : Int) := of_decide_eq_true (by first | (with_reducible assumption) | assumption); obtain ⟨i036, hi036, _, hsz36, _⟩ := info_parts info3; have hroom36 : x3_1.length ≤ co3 := (Kd.zBd HO_3.out).2.1; have hC36 : Kd.C (Kd.int .i64) _ Ao3 x3_1.length x3_1 := (Kd.zBd HO_3.out).2.2; have hcut36 := cut_to (P := Tryd.prog) 23 3 .i64 Tryd.underlying23 hi036 Ao3 x3_1.length co3 x5_2 (of_decide_eq_true (by first | (with_reducible assumption) | assumption)) q36 hroom36; have hr36 := Kd.C_take (m := (x5_2 : Int).toNat) hC36 (by omega); have hy36 : y530.length = (x5_2 : Int).toNat := (by rw [Ny530.out, List.length_take]; omega); rw [← Ny530.out] at hr36; rw [← hy36] at hcut36; have HR533 := zA1.mk hr36; have HC533 := zA1.mk (show y530.length ≤ co3 from by omega); clear hr36 hC36 hroom36 hi036 hsz36; have KY36 := zA1.mk hy36; clear hy36; have KL36 := zA1.mk (show (x5_2 : Int).toNat ≤ x3_1.length from by omega); replace q36 := eq_true q36) | ((with_reducible refine zC1 (b := .append) (xs := #[.tmp 38, .tmp 41]) rfl ?_); (try (refine zBz (by rfl) ?_; dsimp only)); at_builtin; refine Kd.R_append_rows (Kd.int .i64) (w0 := w) w.heap.size rfl (.tmp 38) (.tmp 41) 23 3 (.int .i64 0) 8 rfl Tryd.underlying23 info3 rfl (by decide) (by omega) v528 y527 y530 _ _ _ (fun k_ => some k_ ≠ (.slice Ao3 x3_1.length co3 : Value).ownBlock) (fun _ => False) rfl rfl ?aO ?aR (fun _ _ h => h) (fun _ h => h.elim) ?aF ?aB ?aS ?aL ?_; (case aR => repeat (first | exact (by repeat (first | (with_reducible exact HR533.out) | (with_reducible refine Kd.zA8 ?_ _) | (with_reducible refine Kd.zAd ?_ _) | (with_reducible refine Kd.zAp ?_) | exact HR533.out)) | (with_reducible refine Kd.zA8 ?_ _) | (with_reducible refine Kd.zAd ?_ _) | (with_reducible refine Kd.zAp ?_))); (case aB => exact (by repeat (first | (with_reducible first | exact HB.out | apply zA2 | apply zA0 | apply zA3) | exact HB.out))); (case aF => exact (fun k_ hk => Kd.fresh' (Kd.R_lt (by (with_reducible repeat (first | apply Kd.zAk | apply Kd.zAj | apply Kd.zAt)); exact HO_3.out)) k_ hk)); (case aO => exact (by (with_reducible repeat (first | apply Kd.zAk | apply Kd.zAj | apply Kd.zAt)); exact Kd.zCc HO529.out (fun _ hk => hk.2))); (case aS => exact (zAc (by repeat (first | (with_reducible first | exact HB.out | apply zA2 | apply zA0 | apply zA3) | exact HB.out)))); (case aL => have := LMc29.out; omega); intro v535 w37 ho hb hg hat; rw [← Ny534.out] at ho; have n0_ := zA1.mk (Kd.zC8 (ok := (fun _ => True)) (by (with_reducible repeat (first | apply Kd.zAk | apply Kd.zAj | apply Kd.zAt)); exact HO_3.out) hg hat); have n1_ := zA1.mk (hb); have n2_ := zA1.mk ((show Kd.C (Kd.int .i64) w37 Ao3 y530.length y530 from by rw [Ny530.out]; exact Kd.C_take (m := (x5_2 : Int).toNat) ((Kd.zBd (Kd.zC8 (ok := (fun _ => True)) (by (with_reducible repeat (first | apply Kd.zAk | apply Kd.zAj | apply Kd.zAt)); exact HO_3.out) hg hat)).2.2) KL36.out)); have n3_ := zA1.mk (ho); clear HO_3; clear HB; clear HR533; clear HO529; have HO_3 := n0_; have HB := n1_; have HR533 := n2_; have HO536 := n3_; clear n0_ n1_ n2_ n3_; clear ho hb hg hat) | ((with_reducible refine zC1 (b := .append) (xs := #[.tmp 43, .tmp 45]) rfl ?_); (try (refine zBz (by rfl) ?_; dsimp only)); at_builtin; refine Kd.R_append (Kd.int .i64) (w0 := w) w.heap.size rfl (.tmp 43) (.tmp 45) 23 3 (.int .i64 0) 8 rfl Tryd.underlying23 info3 rfl (by decide) (by omega) v535 y534 x4_1 [.int .i64 x4_1] (fun k_ => some k_ ≠ (.slice Ao3 x3_1.length co3 : Value).ownBlock) (fun _ => False) rfl rfl ?aP (fun _ hk => hk.elim) ?aF ?aO ?aB ?aS ?aL ?_; (case aP => exact rfl); (case aB => exact (by repeat (first | (with_reducible first | exact HB.out | apply zA2 | apply zA0 | apply zA3) | exact HB.out))); (case aF => exact (fun k_ hk => Kd.fresh' (Kd.R_lt (by (with_reducible repeat (first | apply Kd.zAk | apply Kd.zAj | apply Kd.zAt)); exact HO_3.out)) k_ hk)); (case aO => exact (by (with_reducible repeat (first | apply Kd.zAk | apply Kd.zAj | apply Kd.zAt)); exact HO536.out)); (case aS => exact (zAc (by repeat (first | (with_reducible first | exact HB.out | apply zA2 | apply zA0 | apply zA3) | exact HB.out)))); (case aL => have := LMc30.out; omega); intro v538 w38 ho hb hg hat; rw [← Ny537.out] at ho; have n0_ := zA1.mk (Kd.zC8 (ok := (fun _ => True)) (by (with_reducible repeat (first | apply Kd.zAk | apply Kd.zAj | apply Kd.zAt)); exact HO_3.out) hg hat); have n1_ := zA1.mk (hb); have n2_ := zA1.mk ((show Kd.C (Kd.int .i64) w38 Ao3 y530.length y530 from by rw [Ny530.out]; exact Kd.C_take (m := (x5_2 : Int).toNat) ((Kd.zBd (Kd.zC8 (ok := (fun _ => True)) (by (with_reducible repeat (first | apply Kd.zAk | apply Kd.zAj | apply Kd.zAt)); exact HO_3.out) hg hat)).2.2) KL36.out)); have n3_ := zA1.mk (ho); clear HO_3; clear HB; clear HR533; clear HO536; have HO_3 := n0_; have HB := n1_; have HR533 := n2_; have HO539 := n3_; clear n0_ n1_ n2_ n3_; clear ho hb hg hat; have q39 : (x5_2 : Int) ≤ ((x3_1.length : Int) : Int) := of_decide_eq_true (by first | (with_reducible assumption) | assumption); obtain ⟨i039, hi039, _, hsz39, _⟩ := info_parts info3; have hroom39 : x3_1.length ≤ co3 := (Kd.zBd HO_3.out).2.1; have hC39 : Kd.C (Kd.int .i64) _ Ao3 x3_1.length x3_1 := (Kd.zBd HO_3.out).2.2; have q039 : (0 : Int) ≤ (x5_2 : Int) := of_decide_eq_true (by first | (with_reducible assumption) | assumption); have hcut39 := cut_from (P := Tryd.prog) 23 3 .i64 Tryd.underlying23 hi039 1 hsz39 Ao3 x3_1.length co3 x5_2 q039 q39; have hr39 := Kd.C_drop (m := (x5_2 : Int).toNat) (c := co3) hC39 (by omega) hroom39; obtain ⟨A39, hA39⟩ : ∃ A1, A1 = (if co3 = (x5_2 : Int).toNat then Ao3 else (Ao3 : Option Addr).map (·.add ((x5_2 : Int).toNat * 1))) := ⟨_, rfl⟩; obtain ⟨c39, hc39⟩ : ∃ c1, c1 = co3 - (x5_2 : Int).toNat := ⟨_, rfl⟩; have hy39 : y540.length = x3_1.length - (x5_2 : Int).toNat := (by rw [Ny540.out, List.length_drop] <;> omega); rw [show (x3_1).drop (x5_2 : Int).toNat = y540 from Ny540.out.symm] at hr39; replace hr39 : Kd.C (Kd.int .i64) _ A39 y540.length y540 := (by rw [hA39]; exact hr39); rw [← hy39, ← hA39, ← hc39] at hcut39; have HR543 := zA1.mk hr39; have HC543 := zA1.mk (show y540.length ≤ c39 from by rw [hy39, hc39]; exact Nat.sub_le_sub_right hroom39 _); clear hr39 hC39 hroom39 hi039 hsz39 hc39; have KY39 := zA1.mk hy39; have KA39 := zA1.mk hA39; clear hy39 hA39; have KL39 := zA1.mk (show (x5_2 : Int).toNat ≤ x3_1.length from by omega); replace q39 := eq_true q39) | ((with_reducible refine zC1 (b := .append) (xs := #[.tmp 47, .tmp 50]) rfl ?_); (try (refine zBz (by rfl) ?_; dsimp only)); at_builtin; refine Kd.R_append_rows (Kd.int .i64) (w0 := w) w.heap.size rfl (.tmp 47) (.tmp 50) 23 3 (.int .i64 0) 8 rfl Tryd.underlying23 info3 rfl (by decide) (by omega) v538 y537 y540 _ _ _ (fun k_ => some k_ ≠ (.slice Ao3 x3_1.length co3 : Value).ownBlock) (fun _ => False) rfl rfl ?aO ?aR (fun _ _ h => h) (fun _ h => h.elim) ?aF ?aB ?aS ?aL ?_; (case aR => repeat (first | exact (by repeat (first | (with_reducible exact HR543.out) | (with_reducible refine Kd.zA8 ?_ _) | (with_reducible refine Kd.zAd ?_ _) | (with_reducible refine Kd.zAp ?_) | exact HR543.out)) | (with_reducible refine Kd.zA8 ?_ _) | (with_reducible refine Kd.zAd ?_ _) | (with_reducible refine Kd.zAp ?_))); (case aB => exact (by repeat (first | (with_reducible first | exact HB.out | apply zA2 | apply zA0 | apply zA3) | exact HB.out))); (case aF => exact (fun k_ hk => Kd.fresh' (Kd.R_lt (by (with_reducible repeat (first | apply Kd.zAk | apply Kd.zAj | apply Kd.zAt)); exact HO_3.out)) k_ hk)); (case aO => exact (by (with_reducible repeat (first | apply Kd.zAk | apply Kd.zAj | apply Kd.zAt)); exact HO539.out)); (case aS => exact (zAc (by repeat (first | (with_reducible first | exact HB.out | apply zA2 | apply zA0 | apply zA3) | exact HB.out)))); (case aL => have := LMc33.out; omega); intro v545 w40 ho hb hg hat; rw [← Ny544.out] at ho; have n0_ := zA1.mk (Kd.zC8 (ok := (fun _ => True)) (by (with_reducible repeat (first | apply Kd.zAk | apply Kd.zAj | apply Kd.zAt)); exact HO_3.out) hg hat); have n1_ := zA1.mk (hb); have n2_ := zA1.mk ((show Kd.C (Kd.int .i64) w40 Ao3 y530.length y530 from by rw [Ny530.out]; exact Kd.C_take (m := (x5_2 : Int).toNat) ((Kd.zBd (Kd.zC8 (ok := (fun _ => True)) (by (with_reducible repeat (first | apply Kd.zAk | apply Kd.zAj | apply Kd.zAt)); exact HO_3.out) hg hat)).2.2) KL36.out)); have n3_ := zA1.mk ((show Kd.C (Kd.int .i64) w40 A39 y540.length y540 from by rw [Ny540.out, KA39.out]; exact Kd.C_drop (m := (x5_2 : Int).toNat) (c := co3) ((Kd.zBd (Kd.zC8 (ok := (fun _ => True)) (by (with_reducible repeat (first | apply Kd.zAk | apply Kd.zAj | apply Kd.zAt)); exact HO_3.out) hg hat)).2.2) KL39.out ((Kd.zBd (Kd.zC8 (ok := (fun _ => True)) (by (with_reducible repeat (first | apply Kd.zAk | apply Kd.zAj | apply Kd.zAt)); exact HO_3.out) hg hat)).2.1))); have n4_ := zA1.mk (ho); clear HO_3; clear HB; clear HR533; clear HR543; clear HO539; have HO_3 := n0_; have HB := n1_; have HR533 := n2_; have HR543 := n3_; have HO546 := n4_; clear n0_ n1_ n2_ n3_ n4_; clear ho hb hg hat)))
       go_roundg k2
       case measure => have := HK1.out; have := HK2.out; omega
       case rel => exact ⟨(y544), (wrap64 (x4_1 + 1)), (by first | rfl | (simp; done) | (simp [*]; done)), H', ⟨by have := HK1.out; have := HK2.out; omega⟩, ⟨by (with_reducible repeat (first | apply Kd.zAk | apply Kd.zAj | apply Kd.zAt)); exact Kd.zCc HO546.out (fun _ hk => trivial)⟩, ⟨by repeat (first | (with_reducible first | exact HB.out | apply zA2 | apply zA0 | apply zA3) | exact HB.out)⟩⟩
   ·rw [if_neg c2] at H
    have c2b0 : decide (x4_1 < (l0.length : Int)) = false := decide_eq_false c2
    clear c2
    obtain rfl := Option.some.inj H
    go_wp2
    go_ret
    exact ⟨_, by first | rfl | (simp [zAx, zAw] <;> rfl) | (simp [*, zAx, zAw] <;> rfl), by (with_reducible repeat (first | apply Kd.zAk | apply Kd.zAj | apply Kd.zAt)); exact HO_3.out, by repeat (first | (with_reducible first | exact HB.out | apply zA2 | apply zA0 | apply zA3) | exact HB.out)⟩
end
end Go.Proofs.YtbghfbhlbfcloaaDoor.PL
namespace Go.Proofs.YtbghfbhlbfcloaaDoor.PL
section
open Go.RowKit Go.Proofs.YtbghfbhlbfcloaaDoorW.PrintWords Go.Proofs.YtbghfbhlbfcloaaDoorW.PrintLast Go.Proofs.YtbghfbhlbfcloaaDoorW.PrintMore
attribute [local go_sem] zBw zBu zC7 zC6 zBo zBn zBv zBt   -- for this text's walks alone
set_option linter.unusedVariables false
set_option linter.unusedSimpArgs false
def liaison_Order.f (l0 : List (S57)) (a1 : Int) : Option (List Int × Int) := OD.f l0 a1
theorem liaison_Order.calls (A0 : Option Addr) (c0 : Nat) (l0 : List (S57)) (a1 : Int) (r1 : List Int) (r2 : Int) (w : World) (hr0 : Kd.C k57 w A0 l0.length l0) (hc0 : l0.length ≤ c0) (h : liaison_Order.f l0 a1 = some (r1, r2)) :
  Calls Tryd.prog 27 #[.slice A0 l0.length c0, .int .i64 a1] w fun e w' => ∃ v0_ : Value, e = .returned (.tuple #[v0_, .int .i64 r2]) ∧ Kd.R (Kd.int .i64) 3 w' w.heap.size (fun _ => True) v0_ r1 ∧ Below w.heap.size w w' :=
  OD.calls A0 c0 l0 a1 r1 r2 w hr0 hc0 h
end
end Go.Proofs.YtbghfbhlbfcloaaDoor.PL
namespace Go.Proofs.YtbghfbhlbfcloaaDoor.PL
section
open Go.RowKit Go.Proofs.YtbghfbhlbfcloaaDoorW.PrintWords Go.Proofs.YtbghfbhlbfcloaaDoorW.PrintLast Go.Proofs.YtbghfbhlbfcloaaDoorW.PrintMore
attribute [local go_sem] zBw zBu zC7 zC6 zBo zBn zBv zBt   -- for this text's walks alone
set_option linter.unusedVariables false
set_option linter.unusedSimpArgs false
mutual
def zA4.j0 : Nat → List (S57) → Int → Int → Bool → Option (Bool)
 | 0, _, _, _, _ => none
 | k + 1, x0, x1, x2, x21 => if x21 = true then ((dowellaw29_known.f).bind fun t562 => (some t562)) else ((zA5.f k x0 x1).bind fun t563 => ((zAg.f k x0 x1).bind fun bt564 => ((liaison_Order.f x0 x1).bind fun bt568 => ((zB6.f k x0 x1 x2).bind fun bt572 => ((zB7.f x0 x1).bind fun t576 => (if t576 = t563 then (if bt564.2 = t563 then (if bt568.2 = t563 then (if 33 ≤ 7036874417766 then ((zB7.f (List.replicate 33 z57) 3).bind fun t580 => (zA4.j1 k x0 x2 t563 bt564.1 bt568.1 bt572.1 bt572.2 (t580 != 6))) else (none)) else (zA4.j1 k x0 x2 t563 bt564.1 bt568.1 bt572.1 bt572.2 true)) else (zA4.j1 k x0 x2 t563 bt564.1 bt568.1 bt572.1 bt572.2 true)) else (zA4.j1 k x0 x2 t563 bt564.1 bt568.1 bt572.1 bt572.2 true)))))))
def zA4.j1 : Nat → List (S57) → Int → Int → List Int → List Int → List Int → Int → Bool → Option (Bool)
 | 0, _, _, _, _, _, _, _, _ => none
 | k + 1, x0, x2, x7, x8, x10, x12, x13, x64 => if x64 = true then (some false) else (if x7 = 0 then (if (x8.length : Int) = (x0.length : Int) then ((zAn.f k x0).bind fun t581 => ((zAo.f k x10 t581).bind fun t584 => (zA4.j2 k x0 x2 x8 x12 x13 (!t584)))) else (zA4.j2 k x0 x2 x8 x12 x13 true)) else (if (wrap64 ((wrap64 ((x8.length : Int) + (x10.length : Int))) + (x12.length : Int))) = 0 then (some (x13 == x7)) else (some false)))
def zA4.j2 : Nat → List (S57) → Int → List Int → List Int → Int → Bool → Option (Bool)
 | 0, _, _, _, _, _, _ => none
 | k + 1, x0, x2, x8, x12, x13, x92 => if x92 = true then (some false) else (zA4.l0 k x0 x2 x8 x12 x13 0)
def zA4.l0 : Nat → List (S57) → Int → List Int → List Int → Int → Int → Option (Bool)
 | 0, _, _, _, _, _, _ => none
 | k + 1, x0, x2, x8, x12, x13, x14 => if x14 < (x0.length : Int) then (if 0 ≤ x14 then (if x14 < (x8.length : Int) then ((zAl.f k x0 x14).bind fun t586 => (if (rd x8 x14) = t586 then (zA4.l0 k x0 x2 x8 x12 x13 (wrap64 (x14 + 1))) else (some false))) else (none)) else (none)) else (if x2 < 0 then (zA4.j4 k x0 x2 x12 x13 true) else (zA4.j4 k x0 x2 x12 x13 (decide (x2 ≥ (x0.length : Int)))))
def zA4.j4 : Nat → List (S57) → Int → List Int → Int → Bool → Option (Bool)
 | 0, _, _, _, _, _ => none
 | k + 1, x0, x2, x12, x13, x114 => if x114 = true then (if (x12.length : Int) = 0 then (some (x13 == 10)) else (some false)) else ((zB8.f k x0 x2).bind fun t587 => ((zAo.f k x12 t587).bind fun t590 => (if t590 = true then (some (x13 == 0)) else (some false))))
end
def zA4.f (k : Nat) (l0 : List (S57)) (a1 : Int) (a2 : Int) : Option (Bool) := (dowellaw29_known.f).bind fun t560 => (if t560 = true then ((zB3.f k l0).bind fun t561 => (zA4.j0 k l0 a1 a2 (!t561))) else (zA4.j0 k l0 a1 a2 true))
theorem zA4.zBq : ∀ k, (∀ y0 y1 y2 y3, LeO (zA4.j0 k y0 y1 y2 y3) (zA4.j0 (k + 1) y0 y1 y2 y3)) ∧ (∀ y0 y1 y2 y3 y4 y5 y6 y7, LeO (zA4.j1 k y0 y1 y2 y3 y4 y5 y6 y7) (zA4.j1 (k + 1) y0 y1 y2 y3 y4 y5 y6 y7)) ∧ (∀ y0 y1 y2 y3 y4 y5, LeO (zA4.j2 k y0 y1 y2 y3 y4 y5) (zA4.j2 (k + 1) y0 y1 y2 y3 y4 y5)) ∧ (∀ y0 y1 y2 y3 y4 y5, LeO (zA4.l0 k y0 y1 y2 y3 y4 y5) (zA4.l0 (k + 1) y0 y1 y2 y3 y4 y5)) ∧ (∀ y0 y1 y2 y3 y4, LeO (zA4.j4 k y0 y1 y2 y3 y4) (zA4.j4 (k + 1) y0 y1 y2 y3 y4))
 | 0 => ⟨fun _ _ _ _ r h => by simp [zA4.j0] at h, fun _ _ _ _ _ _ _ _ r h => by simp [zA4.j1] at h, fun _ _ _ _ _ _ r h => by simp [zA4.j2] at h, fun _ _ _ _ _ _ r h => by simp [zA4.l0] at h, fun _ _ _ _ _ r h => by simp [zA4.j4] at h⟩
 | k + 1 => by
  obtain ⟨ih0, ih1, ih2, ih3, ih4⟩ := zA4.zBq k
  refine ⟨?_, ?_, ?_, ?_, ?_⟩
  ·intro y0 y1 y2 y3
   unfold zA4.j0
   repeat' first
   | (with_reducible exact ih0 _ _ _ _)
   | (with_reducible exact ih1 _ _ _ _ _ _ _ _)
   | (with_reducible exact ih2 _ _ _ _ _ _)
   | (with_reducible exact ih3 _ _ _ _ _ _)
   | (with_reducible exact ih4 _ _ _ _ _)
   | (with_reducible exact zA5.mono _ _ _)
   | (with_reducible exact zB3.mono _ _)
   | (with_reducible exact zAn.mono _ _)
   | (with_reducible exact zB8.mono _ _ _)
   | (with_reducible exact zAl.mono _ _ _)
   | (with_reducible exact zAo.mono _ _ _)
   | (with_reducible exact zB6.mono _ _ _ _)
   | (with_reducible exact zAg.mono _ _ _)
   | (with_reducible exact LeO.refl _)
   | (with_reducible exact LeO.none _)
   | (with_reducible refine LeO.ite ?_ ?_)
   | (with_reducible refine LeO.bind ?_ (fun _ => ?_))
  ·intro y0 y1 y2 y3 y4 y5 y6 y7
   unfold zA4.j1
   repeat' first
   | (with_reducible exact ih0 _ _ _ _)
   | (with_reducible exact ih1 _ _ _ _ _ _ _ _)
   | (with_reducible exact ih2 _ _ _ _ _ _)
   | (with_reducible exact ih3 _ _ _ _ _ _)
   | (with_reducible exact ih4 _ _ _ _ _)
   | (with_reducible exact zA5.mono _ _ _)
   | (with_reducible exact zB3.mono _ _)
   | (with_reducible exact zAn.mono _ _)
   | (with_reducible exact zB8.mono _ _ _)
   | (with_reducible exact zAl.mono _ _ _)
   | (with_reducible exact zAo.mono _ _ _)
   | (with_reducible exact zB6.mono _ _ _ _)
   | (with_reducible exact zAg.mono _ _ _)
   | (with_reducible exact LeO.refl _)
   | (with_reducible exact LeO.none _)
   | (with_reducible refine LeO.ite ?_ ?_)
   | (with_reducible refine LeO.bind ?_ (fun _ => ?_))
  ·intro y0 y1 y2 y3 y4 y5
   unfold zA4.j2
   repeat' first
   | (with_reducible exact ih0 _ _ _ _)
   | (with_reducible exact ih1 _ _ _ _ _ _ _ _)
   | (with_reducible exact ih2 _ _ _ _ _ _)
   | (with_reducible exact ih3 _ _ _ _ _ _)
   | (with_reducible exact ih4 _ _ _ _ _)
   | (with_reducible exact zA5.mono _ _ _)
   | (with_reducible exact zB3.mono _ _)
   | (with_reducible exact zAn.mono _ _)
   | (with_reducible exact zB8.mono _ _ _)
   | (with_reducible exact zAl.mono _ _ _)
   | (with_reducible exact zAo.mono _ _ _)
   | (with_reducible exact zB6.mono _ _ _ _)
   | (with_reducible exact zAg.mono _ _ _)
   | (with_reducible exact LeO.refl _)
   | (with_reducible exact LeO.none _)
   | (with_reducible refine LeO.ite ?_ ?_)
   | (with_reducible refine LeO.bind ?_ (fun _ => ?_))
  ·intro y0 y1 y2 y3 y4 y5
   unfold zA4.l0
   repeat' first
   | (with_reducible exact ih0 _ _ _ _)
   | (with_reducible exact ih1 _ _ _ _ _ _ _ _)
   | (with_reducible exact ih2 _ _ _ _ _ _)
   | (with_reducible exact ih3 _ _ _ _ _ _)
   | (with_reducible exact ih4 _ _ _ _ _)
   | (with_reducible exact zA5.mono _ _ _)
   | (with_reducible exact zB3.mono _ _)
   | (with_reducible exact zAn.mono _ _)
   | (with_reducible exact zB8.mono _ _ _)
   | (with_reducible exact zAl.mono _ _ _)
   | (with_reducible exact zAo.mono _ _ _)
   | (with_reducible exact zB6.mono _ _ _ _)
   | (with_reducible exact zAg.mono _ _ _)
   | (with_reducible exact LeO.refl _)
   | (with_reducible exact LeO.none _)
   | (with_reducible refine LeO.ite ?_ ?_)
   | (with_reducible refine LeO.bind ?_ (fun _ => ?_))
  ·intro y0 y1 y2 y3 y4
   unfold zA4.j4
   repeat' first
   | (with_reducible exact ih0 _ _ _ _)
   | (with_reducible exact ih1 _ _ _ _ _ _ _ _)
   | (with_reducible exact ih2 _ _ _ _ _ _)
   | (with_reducible exact ih3 _ _ _ _ _ _)
   | (with_reducible exact ih4 _ _ _ _ _)
   | (with_reducible exact zA5.mono _ _ _)
   | (with_reducible exact zB3.mono _ _)
   | (with_reducible exact zAn.mono _ _)
   | (with_reducible exact zB8.mono _ _ _)
   | (with_reducible exact zAl.mono _ _ _)
   | (with_reducible exact zAo.mono _ _ _)
   | (with_reducible exact zB6.mono _ _ _ _)
   | (with_reducible exact zAg.mono _ _ _)
   | (with_reducible exact LeO.refl _)
   | (with_reducible exact LeO.none _)
   | (with_reducible refine LeO.ite ?_ ?_)
   | (with_reducible refine LeO.bind ?_ (fun _ => ?_))
theorem zA4.mono : ∀ a0 a1 a2 k, LeO (zA4.f k a0 a1 a2) (zA4.f (k + 1) a0 a1 a2) := by
 intro a0 a1 a2 k
 obtain ⟨ih0, ih1, ih2, ih3, ih4⟩ := zA4.zBq k
 unfold zA4.f
 repeat' first
   | (with_reducible exact ih0 _ _ _ _)
   | (with_reducible exact ih1 _ _ _ _ _ _ _ _)
   | (with_reducible exact ih2 _ _ _ _ _ _)
   | (with_reducible exact ih3 _ _ _ _ _ _)
   | (with_reducible exact ih4 _ _ _ _ _)
   | (with_reducible exact zA5.mono _ _ _)
   | (with_reducible exact zB3.mono _ _)
   | (with_reducible exact zAn.mono _ _)
   | (with_reducible exact zB8.mono _ _ _)
   | (with_reducible exact zAl.mono _ _ _)
   | (with_reducible exact zAo.mono _ _ _)
   | (with_reducible exact zB6.mono _ _ _ _)
   | (with_reducible exact zAg.mono _ _ _)
   | (with_reducible exact LeO.refl _)
   | (with_reducible exact LeO.none _)
   | (with_reducible refine LeO.ite ?_ ?_)
   | (with_reducible refine LeO.bind ?_ (fun _ => ?_))
def zA4.T16 : Bool × List (List Nat × List Nat) := (true, [([], []), ([], []), ([0, 1], [0, 1]), ([2], [2]), ([], []), ([], []), ([4, 5], [4, 5]), ([3, 6], [3, 6])])
def zA4.B16 : List Nat := [0, 0, 3, 7, 0, 0, 48, 127]
theorem zA4.tab16 : rtab .any (opsOf Tryd.f6 16) = zA4.T16 := by kernel_rfl
theorem zA4.bits16 : waitsOk zA4.T16.2 zA4.B16 = true := by kernel_rfl
set_option maxHeartbeats 8000000 in
set_option maxRecDepth 100000 in
theorem zA4.calls (k : Nat) (A0 : Option Addr) (c0 : Nat) (l0 : List (S57)) (a1 : Int) (a2 : Int) (r : Bool) (w : World) (hr0 : Kd.C k57 w A0 l0.length l0) (hc0 : l0.length ≤ c0) (hG : Kd.C (Kd.int .u8) w (some tabA) tabL.length tabL) (h : zA4.f k l0 a1 a2 = some r) :
  Calls Tryd.prog 6 #[.slice A0 l0.length c0, .int .i64 a1, .int .i64 a2] w fun e w' => e = .returned (.bool r) ∧ Below w.heap.size w w' := by
 have HR0 := zA1.mk hr0
 have HC0 := zA1.mk hc0
 clear hr0 hc0
 have HB := zA1.mk (Below.refl w.heap.size w)
 have HG := zA1.mk hG
 clear hG
 have H : ((dowellaw29_known.f).bind fun t560 => (if t560 = true then ((zB3.f k l0).bind fun t561 => (zA4.j0 k l0 a1 a2 (!t561))) else (zA4.j0 k l0 a1 a2 true))) = some r := h
 clear h
 have HC4 := zA1.mk H
 clear H
 go_enter Tryd.func6, Tryd.ntmps6
 go_upto_region 1 with (fail)
 go_cut [21] (fun v21 wc => ∃ (kq : Nat) (x21_3 : Bool), v21 = .bool x21_3 ∧ zA1 (zA4.j0 kq l0 a1 a2 x21_3 = some r) ∧ zA1 (kq ≤ k) ∧ zA1 (Below w.heap.size w wc))
 case first =>
  have H := HC4.out
  clear HC4
  replace H := Option.bind_eq_some_iff.mp H
  obtain ⟨t560, A50, H⟩ := H
  replace H : (if t560 = true then ((zB3.f k l0).bind fun t561 => (zA4.j0 k l0 a1 a2 (!t561))) else (zA4.j0 k l0 a1 a2 true)) = some r := H
  have A5 := zA1.mk A50
  clear A50
  by_cases c6 : t560 = true
  ·subst c6
   have H1 : ((zB3.f k l0).bind fun t561 => (zA4.j0 k l0 a1 a2 (!t561))) = some r := by rw [if_pos rfl] at H; exact H
   clear H
   have H := H1
   clear H1
   replace H := Option.bind_eq_some_iff.mp H
   obtain ⟨t561, A70, H⟩ := H
   replace H : (zA4.j0 k l0 a1 a2 (!t561)) = some r := H
   have A7 := zA1.mk A70
   clear A70
   have H' := zA1.mk H
   clear H
   go_wp2_with (first | ((with_reducible refine zB1 (f := 8) rfl ?_); refine zC2 (some 15) rfl rfl Tryd.func8 (by kernel_rfl) rfl #[] rfl (by (try simp only [List.map_toArray, List.map_cons, List.map_nil]); first | done | rfl | (simp only [List.length_drop, List.length_take]; rfl)) ?_; (with_reducible refine (dowellaw29_known.calls  true _ ?side1 A5.out).mono ?_); (case side1 => repeat (first | exact (Kd.zAy HG.out HB.out) | (with_reducible refine Kd.zA8 ?_ _) | (with_reducible refine Kd.zAd ?_ _) | (with_reducible refine Kd.zAp ?_))); rintro e w8 ⟨rfl, hb⟩; refine ⟨_, rfl, ?_⟩; have n0_ := zA1.mk (zAm (by repeat (first | (with_reducible first | exact HB.out | apply zA2 | apply zA0 | apply zA3) | exact HB.out)) hb); clear HB; have HB := n0_; clear n0_; (try clear hb); (try clear hb2); (try clear hk); (try clear hi)) | (go_at_call 23; (with_reducible refine (zB3.calls k _ _ l0 t561 _ ?side1 ?side2 A7.out).mono ?_); (case side1 => repeat (first | exact (Kd.zAy HR0.out HB.out) | (with_reducible refine Kd.zA8 ?_ _) | (with_reducible refine Kd.zAd ?_ _) | (with_reducible refine Kd.zAp ?_))); (case side2 => exact HC0.out); rintro e w' ⟨rfl, ⟨nd, rfl⟩⟩))
   go_meet
   case rel => exact ⟨_, (!t561), (by first | rfl | (simp; done) | (simp [*]; done)), H', ⟨by first | omega | exact Nat.le_refl _⟩, ⟨by repeat (first | (with_reducible first | exact HB.out | apply zA2 | apply zA0 | apply zA3) | exact HB.out)⟩⟩
  ·replace c6 := Bool.eq_false_iff.mpr c6
   subst c6
   have H1 : (zA4.j0 k l0 a1 a2 true) = some r := by rw [if_neg (show ¬ (false = true) by decide)] at H; exact H
   clear H
   have H := H1
   clear H1
   have H' := zA1.mk H
   clear H
   go_wp2_with (first | ((with_reducible refine zB1 (f := 8) rfl ?_); refine zC2 (some 15) rfl rfl Tryd.func8 (by kernel_rfl) rfl #[] rfl (by (try simp only [List.map_toArray, List.map_cons, List.map_nil]); first | done | rfl | (simp only [List.length_drop, List.length_take]; rfl)) ?_; (with_reducible refine (dowellaw29_known.calls  false _ ?side1 A5.out).mono ?_); (case side1 => repeat (first | exact (Kd.zAy HG.out HB.out) | (with_reducible refine Kd.zA8 ?_ _) | (with_reducible refine Kd.zAd ?_ _) | (with_reducible refine Kd.zAp ?_))); rintro e w9 ⟨rfl, hb⟩; refine ⟨_, rfl, ?_⟩; have n0_ := zA1.mk (zAm (by repeat (first | (with_reducible first | exact HB.out | apply zA2 | apply zA0 | apply zA3) | exact HB.out)) hb); clear HB; have HB := n0_; clear n0_; (try clear hb); (try clear hb2); (try clear hk); (try clear hi)))
   go_meet
   case rel => exact ⟨_, (true), (by first | rfl | (simp; done) | (simp [*]; done)), H', ⟨by first | omega | exact Nat.le_refl _⟩, ⟨by repeat (first | (with_reducible first | exact HB.out | apply zA2 | apply zA0 | apply zA3) | exact HB.out)⟩⟩
 case rest =>
  clear HC4
  try clear p2
  try clear c6
  try clear c8
  obtain ⟨kq, x21_3, rfl, HA, HJ3, HB⟩ := hcut
  cases kq with
  | zero => exact absurd HA.out (by simp [zA4.j0])
  | succ kj3 =>
   have H := HA.out
   clear HA
   simp only [zA4.j0] at H
   by_cases c10 : x21_3 = true
   ·subst c10
    have H1 : ((dowellaw29_known.f).bind fun t562 => (some t562)) = some r := by rw [if_pos rfl] at H; exact H
    clear H
    have H := H1
    clear H1
    replace H := Option.bind_eq_some_iff.mp H
    obtain ⟨t562, A110, H⟩ := H
    replace H : (some t562) = some r := H
    have A11 := zA1.mk A110
    clear A110
    obtain rfl := Option.some.inj H
    go_wp2_with (first | ((with_reducible refine zB1 (f := 8) rfl ?_); refine zC2 (some 22) rfl rfl Tryd.func8 (by kernel_rfl) rfl #[] rfl (by (try simp only [List.map_toArray, List.map_cons, List.map_nil]); first | done | rfl | (simp only [List.length_drop, List.length_take]; rfl)) ?_; (with_reducible refine (dowellaw29_known.calls  t562 _ ?side1 A11.out).mono ?_); (case side1 => repeat (first | exact (Kd.zAy HG.out HB.out) | (with_reducible refine Kd.zA8 ?_ _) | (with_reducible refine Kd.zAd ?_ _) | (with_reducible refine Kd.zAp ?_))); rintro e w12 ⟨rfl, hb⟩; refine ⟨_, rfl, ?_⟩; have n0_ := zA1.mk (zAm (by repeat (first | (with_reducible first | exact HB.out | apply zA2 | apply zA0 | apply zA3) | exact HB.out)) hb); clear HB; have HB := n0_; clear n0_; (try clear hb); (try clear hb2); (try clear hk); (try clear hi)))
    go_ret
    exact ⟨by first | rfl | (simp [zAx, zAw] <;> rfl) | (simp [*, zAx, zAw] <;> rfl), by repeat (first | (with_reducible first | exact HB.out | apply zA2 | apply zA0 | apply zA3) | exact HB.out)⟩
   ·replace c10 := Bool.eq_false_iff.mpr c10
    subst c10
    have H1 : ((zA5.f kj3 l0 a1).bind fun t563 => ((zAg.f kj3 l0 a1).bind fun bt564 => ((liaison_Order.f l0 a1).bind fun bt568 => ((zB6.f kj3 l0 a1 a2).bind fun bt572 => ((zB7.f l0 a1).bind fun t576 => (if t576 = t563 then (if bt564.2 = t563 then (if bt568.2 = t563 then (if 33 ≤ 7036874417766 then ((zB7.f (List.replicate 33 z57) 3).bind fun t580 => (zA4.j1 kj3 l0 a2 t563 bt564.1 bt568.1 bt572.1 bt572.2 (t580 != 6))) else (none)) else (zA4.j1 kj3 l0 a2 t563 bt564.1 bt568.1 bt572.1 bt572.2 true)) else (zA4.j1 kj3 l0 a2 t563 bt564.1 bt568.1 bt572.1 bt572.2 true)) else (zA4.j1 kj3 l0 a2 t563 bt564.1 bt568.1 bt572.1 bt572.2 true))))))) = some r := by rw [if_neg (show ¬ (false = true) by decide)] at H; exact H
    clear H
    have H := H1
    clear H1
    replace H := Option.bind_eq_some_iff.mp H
    obtain ⟨t563, A130, H⟩ := H
    replace H : ((zAg.f kj3 l0 a1).bind fun bt564 => ((liaison_Order.f l0 a1).bind fun bt568 => ((zB6.f kj3 l0 a1 a2).bind fun bt572 => ((zB7.f l0 a1).bind fun t576 => (if t576 = t563 then (if bt564.2 = t563 then (if bt568.2 = t563 then (if 33 ≤ 7036874417766 then ((zB7.f (List.replicate 33 z57) 3).bind fun t580 => (zA4.j1 kj3 l0 a2 t563 bt564.1 bt568.1 bt572.1 bt572.2 (t580 != 6))) else (none)) else (zA4.j1 kj3 l0 a2 t563 bt564.1 bt568.1 bt572.1 bt572.2 true)) else (zA4.j1 kj3 l0 a2 t563 bt564.1 bt568.1 bt572.1 bt572.2 true)) else (zA4.j1 kj3 l0 a2 t563 bt564.1 bt568.1 bt572.1 bt572.2 true)))))) = some r := H
    have A13 := zA1.mk A130
    clear A130
    replace H := Option.bind_eq_some_iff.mp H
    obtain ⟨⟨t564, t565⟩, A140, H⟩ := H
    replace H : ((liaison_Order.f l0 a1).bind fun bt568 => ((zB6.f kj3 l0 a1 a2).bind fun bt572 => ((zB7.f l0 a1).bind fun t576 => (if t576 = t563 then (if t565 = t563 then (if bt568.2 = t563 then (if 33 ≤ 7036874417766 then ((zB7.f (List.replicate 33 z57) 3).bind fun t580 => (zA4.j1 kj3 l0 a2 t563 t564 bt568.1 bt572.1 bt572.2 (t580 != 6))) else (none)) else (zA4.j1 kj3 l0 a2 t563 t564 bt568.1 bt572.1 bt572.2 true)) else (zA4.j1 kj3 l0 a2 t563 t564 bt568.1 bt572.1 bt572.2 true)) else (zA4.j1 kj3 l0 a2 t563 t564 bt568.1 bt572.1 bt572.2 true))))) = some r := H
    have A14 := zA1.mk A140
    clear A140
    replace H := Option.bind_eq_some_iff.mp H
    obtain ⟨⟨t568, t569⟩, A150, H⟩ := H
    replace H : ((zB6.f kj3 l0 a1 a2).bind fun bt572 => ((zB7.f l0 a1).bind fun t576 => (if t576 = t563 then (if t565 = t563 then (if t569 = t563 then (if 33 ≤ 7036874417766 then ((zB7.f (List.replicate 33 z57) 3).bind fun t580 => (zA4.j1 kj3 l0 a2 t563 t564 t568 bt572.1 bt572.2 (t580 != 6))) else (none)) else (zA4.j1 kj3 l0 a2 t563 t564 t568 bt572.1 bt572.2 true)) else (zA4.j1 kj3 l0 a2 t563 t564 t568 bt572.1 bt572.2 true)) else (zA4.j1 kj3 l0 a2 t563 t564 t568 bt572.1 bt572.2 true)))) = some r := H
    have A15 := zA1.mk A150
    clear A150
    replace H := Option.bind_eq_some_iff.mp H
    obtain ⟨⟨t572, t573⟩, A160, H⟩ := H
    replace H : ((zB7.f l0 a1).bind fun t576 => (if t576 = t563 then (if t565 = t563 then (if t569 = t563 then (if 33 ≤ 7036874417766 then ((zB7.f (List.replicate 33 z57) 3).bind fun t580 => (zA4.j1 kj3 l0 a2 t563 t564 t568 t572 t573 (t580 != 6))) else (none)) else (zA4.j1 kj3 l0 a2 t563 t564 t568 t572 t573 true)) else (zA4.j1 kj3 l0 a2 t563 t564 t568 t572 t573 true)) else (zA4.j1 kj3 l0 a2 t563 t564 t568 t572 t573 true))) = some r := H
    have A16 := zA1.mk A160
    clear A160
    have HC17 := zA1.mk H
    clear H
    go_upto_region 7 with (first | ((with_reducible refine zB1 (f := 25) rfl ?_); refine zC2 (some 25) rfl rfl Tryd.func25 (by kernel_rfl) rfl #[.slice A0 l0.length c0, .int .i64 a1] rfl (by (try simp only [List.map_toArray, List.map_cons, List.map_nil]); first | done | rfl | (simp only [List.length_drop, List.length_take]; rfl)) ?_; (with_reducible refine (zA5.calls kj3 _ _ l0 a1 t563 _ ?side1 ?side2 A13.out).mono ?_); (case side1 => repeat (first | exact (Kd.zAy HR0.out HB.out) | (with_reducible refine Kd.zA8 ?_ _) | (with_reducible refine Kd.zAd ?_ _) | (with_reducible refine Kd.zAp ?_))); (case side2 => exact HC0.out); rintro e w' ⟨rfl, ⟨nd, rfl⟩⟩; refine ⟨_, rfl, ?_⟩) | ((with_reducible refine zB1 (f := 26) rfl ?_); refine zC2 (some 29) rfl rfl Tryd.func26 (by kernel_rfl) rfl #[.slice A0 l0.length c0, .int .i64 a1] rfl (by (try simp only [List.map_toArray, List.map_cons, List.map_nil]); first | done | rfl | (simp only [List.length_drop, List.length_take]; rfl)) ?_; (with_reducible refine (zAg.calls kj3 _ _ l0 a1 t564 t565 _ ?side1 ?side2 A14.out).mono ?_); (case side1 => repeat (first | exact (Kd.zAy HR0.out (by repeat (first | (with_reducible first | exact HB.out | apply zA2 | apply zA0 | apply zA3) | exact HB.out))) | (with_reducible refine Kd.zA8 ?_ _) | (with_reducible refine Kd.zAd ?_ _) | (with_reducible refine Kd.zAp ?_))); (case side2 => exact HC0.out); rintro e w18 ⟨v566, rfl, ho0, hb⟩; refine ⟨_, rfl, ?_⟩; have n0_ := zA1.mk (Kd.R_lower ho0 (zAc (by repeat (first | (with_reducible first | exact HB.out | apply zA2 | apply zA0 | apply zA3) | exact HB.out)))); have n1_ := zA1.mk (zAm (by repeat (first | (with_reducible first | exact HB.out | apply zA2 | apply zA0 | apply zA3) | exact HB.out)) hb); clear HB; have HO567 := n0_; have HB := n1_; clear n0_ n1_; (try clear hb); (try clear hb2); (try clear hk); (try clear hi); (try clear ho0)) | ((with_reducible refine zB1 (f := 27) rfl ?_); refine zC2 (some 35) rfl rfl Tryd.func27 (by kernel_rfl) rfl #[.slice A0 l0.length c0, .int .i64 a1] rfl (by (try simp only [List.map_toArray, List.map_cons, List.map_nil]); first | done | rfl | (simp only [List.length_drop, List.length_take]; rfl)) ?_; (with_reducible refine (liaison_Order.calls _ _ l0 a1 t568 t569 _ ?side1 ?side2 A15.out).mono ?_); (case side1 => repeat (first | exact (Kd.zAy HR0.out HB.out) | (with_reducible refine Kd.zA8 ?_ _) | (with_reducible refine Kd.zAd ?_ _) | (with_reducible refine Kd.zAp ?_))); (case side2 => exact HC0.out); rintro e w19 ⟨v570, rfl, ho0, hb⟩; refine ⟨_, rfl, ?_⟩; have n0_ := zA1.mk (Kd.R_elder' (by (with_reducible repeat (first | apply Kd.zAk | apply Kd.zAj | apply Kd.zAt)); exact HO567.out) (Kd.R_base ho0) hb); have n1_ := zA1.mk (Kd.R_lower (Kd.R_new' ho0 (Kd.R_lt (by (with_reducible repeat (first | apply Kd.zAk | apply Kd.zAj | apply Kd.zAt)); exact HO567.out))) (zAc (by repeat (first | (with_reducible first | exact HB.out | apply zA2 | apply zA0 | apply zA3) | exact HB.out)))); have n2_ := zA1.mk (zAm (by repeat (first | (with_reducible first | exact HB.out | apply zA2 | apply zA0 | apply zA3) | exact HB.out)) hb); clear HO567; clear HB; have HO567 := n0_; have HO571 := n1_; have HB := n2_; clear n0_ n1_ n2_; (try clear hb); (try clear hb2); (try clear hk); (try clear hi); (try clear ho0)) | ((with_reducible refine zB1 (f := 28) rfl ?_); refine zC2 (some 42) rfl rfl Tryd.func28 (by kernel_rfl) rfl #[.slice A0 l0.length c0, .int .i64 a1, .int .i64 a2] rfl (by (try simp only [List.map_toArray, List.map_cons, List.map_nil]); first | done | rfl | (simp only [List.length_drop, List.length_take]; rfl)) ?_; (with_reducible refine (zB6.calls kj3 _ _ l0 a1 a2 t572 t573 _ ?side1 ?side2 ?side3 A16.out).mono ?_); (case side1 => repeat (first | exact (Kd.zAy HR0.out HB.out) | (with_reducible refine Kd.zA8 ?_ _) | (with_reducible refine Kd.zAd ?_ _) | (with_reducible refine Kd.zAp ?_))); (case side2 => exact HC0.out); (case side3 => repeat (first | exact (Kd.zAy HG.out HB.out) | (with_reducible refine Kd.zA8 ?_ _) | (with_reducible refine Kd.zAd ?_ _) | (with_reducible refine Kd.zAp ?_))); rintro e w20 ⟨v574, rfl, ho0, hb⟩; refine ⟨_, rfl, ?_⟩; have n0_ := zA1.mk (Kd.R_elder' (by (with_reducible repeat (first | apply Kd.zAk | apply Kd.zAj | apply Kd.zAt)); exact HO567.out) (Kd.R_base ho0) hb); have n1_ := zA1.mk (Kd.R_elder' (by (with_reducible repeat (first | apply Kd.zAk | apply Kd.zAj | apply Kd.zAt)); exact HO571.out) (Kd.R_base ho0) hb); have n2_ := zA1.mk (Kd.R_lower (Kd.R_new' (Kd.R_new' ho0 (Kd.R_lt (by (with_reducible repeat (first | apply Kd.zAk | apply Kd.zAj | apply Kd.zAt)); exact HO567.out))) (Kd.R_lt (by (with_reducible repeat (first | apply Kd.zAk | apply Kd.zAj | apply Kd.zAt)); exact HO571.out))) (zAc (by repeat (first | (with_reducible first | exact HB.out | apply zA2 | apply zA0 | apply zA3) | exact HB.out)))); have n3_ := zA1.mk (zAm (by repeat (first | (with_reducible first | exact HB.out | apply zA2 | apply zA0 | apply zA3) | exact HB.out)) hb); clear HO567; clear HO571; clear HB; have HO567 := n0_; have HO571 := n1_; have HO575 := n2_; have HB := n3_; clear n0_ n1_ n2_ n3_; (try clear hb); (try clear hb2); (try clear hk); (try clear hi); (try clear ho0)))
    (try simp only [Act.put, List.setIfInBounds_toArray, List.set_cons_zero, List.set_cons_succ])
    go_cut [64] (fun v64 wc => ∃ (kq : Nat) (x64_16 : Bool), v64 = .bool x64_16 ∧ zA1 (zA4.j1 kq l0 a2 t563 t564 t568 t572 t573 x64_16 = some r) ∧ zA1 (kq ≤ kj3) ∧ zA1 (Kd.R (Kd.int .i64) 3 wc w.heap.size (fun k_ => some k_ ≠ (v570 : Value).ownBlock ∧ some k_ ≠ (v574 : Value).ownBlock) v566 t564) ∧ zA1 (Kd.R (Kd.int .i64) 3 wc w.heap.size (fun k_ => some k_ ≠ (v566 : Value).ownBlock ∧ some k_ ≠ (v574 : Value).ownBlock) v570 t568) ∧ zA1 (Kd.R (Kd.int .i64) 3 wc w.heap.size (fun k_ => some k_ ≠ (v566 : Value).ownBlock ∧ some k_ ≠ (v570 : Value).ownBlock) v574 t572) ∧ zA1 (Below w.heap.size w wc))
    case first =>
     have H := HC17.out
     clear HC17
     replace H := Option.bind_eq_some_iff.mp H
     obtain ⟨t576, A210, H⟩ := H
     replace H : (if t576 = t563 then (if t565 = t563 then (if t569 = t563 then (if 33 ≤ 7036874417766 then ((zB7.f (List.replicate 33 z57) 3).bind fun t580 => (zA4.j1 kj3 l0 a2 t563 t564 t568 t572 t573 (t580 != 6))) else (none)) else (zA4.j1 kj3 l0 a2 t563 t564 t568 t572 t573 true)) else (zA4.j1 kj3 l0 a2 t563 t564 t568 t572 t573 true)) else (zA4.j1 kj3 l0 a2 t563 t564 t568 t572 t573 true)) = some r := H
     have A21 := zA1.mk A210
     clear A210
     by_cases c22 : t576 = t563
     ·rw [if_pos c22] at H
      have c22b0 : (t576 == t563) = true := beq_iff_eq.mpr c22
      have c22b1 : (t576 != t563) = false := bne_eq_false_iff_eq.mpr c22
      clear c22
      (first | rw [c22b0] | (simp only [i64_w, i32_w]; rw [c22b0]) | skip)
      by_cases c23 : t565 = t563
      ·rw [if_pos c23] at H
       have c23b0 : (t565 == t563) = true := beq_iff_eq.mpr c23
       have c23b1 : (t565 != t563) = false := bne_eq_false_iff_eq.mpr c23
       clear c23
       by_cases c24 : t569 = t563
       ·rw [if_pos c24] at H
        have c24b0 : (t569 == t563) = true := beq_iff_eq.mpr c24
        have c24b1 : (t569 != t563) = false := bne_eq_false_iff_eq.mpr c24
        clear c24
        by_cases c25 : 33 ≤ 7036874417766
        rotate_left
        ·rw [if_neg c25] at H
         exact absurd H (by simp)
        rw [if_pos c25] at H
        have c25b0 := eq_true c25
        have c25b1 : decide (33 ≤ 7036874417766) = true := decide_eq_true c25
        clear c25
        obtain ⟨y577, hy577⟩ : ∃ y_ : List (S57), y_ = (List.replicate 33 z57) := ⟨_, rfl⟩
        replace H : ((zB7.f y577 3).bind fun t580 => (zA4.j1 kj3 l0 a2 t563 t564 t568 t572 t573 (t580 != 6))) = some r := by first | (rw [hy577]; with_reducible exact H) | (have H2_ := (Option.bind_some _ _).symm.trans H; rw [hy577]; with_reducible exact H2_) | (have H2_ := (Option.bind_some _ _).symm.trans H; with_reducible exact H2_) | with_reducible exact H | (rw [hy577]; exact H) | exact H
        have Ny577 := zA1.mk hy577
        clear hy577
        replace H := Option.bind_eq_some_iff.mp H
        obtain ⟨t580, A260, H⟩ := H
        replace H : (zA4.j1 kj3 l0 a2 t563 t564 t568 t572 t573 (t580 != 6)) = some r := H
        have A26 := zA1.mk A260
        clear A260
        have H' := zA1.mk H
        clear H
        go_wp2_with (first | ((with_reducible refine zB1 (f := 29) rfl ?_); refine zC2 (some 47) rfl rfl Tryd.func29 (by kernel_rfl) rfl #[.slice A0 l0.length c0, .int .i64 a1] rfl (by (try simp only [List.map_toArray, List.map_cons, List.map_nil]); first | done | rfl | (simp only [List.length_drop, List.length_take]; rfl)) ?_; (with_reducible refine (zB7.calls _ _ l0 a1 t576 _ ?side1 ?side2 A21.out).mono ?_); (case side1 => repeat (first | exact (Kd.zAy HR0.out HB.out) | (with_reducible refine Kd.zA8 ?_ _) | (with_reducible refine Kd.zAd ?_ _) | (with_reducible refine Kd.zAp ?_))); (case side2 => exact HC0.out); rintro e w27 ⟨rfl, hb⟩; refine ⟨_, rfl, ?_⟩; have n0_ := zA1.mk (Kd.zCa (by (with_reducible repeat (first | apply Kd.zAk | apply Kd.zAj | apply Kd.zAt)); exact HO567.out) hb); have n1_ := zA1.mk (Kd.zCa (by (with_reducible repeat (first | apply Kd.zAk | apply Kd.zAj | apply Kd.zAt)); exact HO571.out) hb); have n2_ := zA1.mk (Kd.zCa (by (with_reducible repeat (first | apply Kd.zAk | apply Kd.zAj | apply Kd.zAt)); exact HO575.out) hb); have n3_ := zA1.mk (zAm (by repeat (first | (with_reducible first | exact HB.out | apply zA2 | apply zA0 | apply zA3) | exact HB.out)) hb); clear HO567; clear HO571; clear HO575; clear HB; have HO567 := n0_; have HO571 := n1_; have HO575 := n2_; have HB := n3_; clear n0_ n1_ n2_ n3_; (try clear hb); (try clear hb2); (try clear hk); (try clear hi)) | ((with_reducible refine zBl (N := 61) rfl ?_); (try (refine zBz (by rfl) ?_; dsimp only)); refine Kd.S_make k57 _ 57 rfl (N := 61) rfl 52 _ _ rfl 33 rfl rfl Tryd.underlying52 (.agg #[(.string ⟨#[]⟩), (.slice none 0 0)]) 40 info57 rfl (by decide) (by omega) z57 (ok := fun _ => True) (okp := fun _ => True) (k57_mkM _ _ _ z57 (Kd.R_nil _ _ _ _ _)) (fun _ hk => hk) trivial (by omega) (by omega) (Below.refl _ _) (Nat.le_refl _) ?_; intro v578 w28 ho29 hb hg_ hnew_; clear hg_ hnew_; (first | rw [← Ny577.out] at ho29 | (simp only [Int.reduceToNat] at ho29; rw [← Ny577.out] at ho29)); have n0_ := zA1.mk (Kd.zCa (by (with_reducible repeat (first | apply Kd.zAk | apply Kd.zAj | apply Kd.zAt)); exact HO567.out) hb); have n1_ := zA1.mk (Kd.zCa (by (with_reducible repeat (first | apply Kd.zAk | apply Kd.zAj | apply Kd.zAt)); exact HO571.out) hb); have n2_ := zA1.mk (Kd.zCa (by (with_reducible repeat (first | apply Kd.zAk | apply Kd.zAj | apply Kd.zAt)); exact HO575.out) hb); have n3_ := zA1.mk (Kd.S_lower (Kd.S_new' (Kd.S_new' (Kd.S_new' ho29 (Kd.R_lt (by (with_reducible repeat (first | apply Kd.zAk | apply Kd.zAj | apply Kd.zAt)); exact HO567.out))) (Kd.R_lt (by (with_reducible repeat (first | apply Kd.zAk | apply Kd.zAj | apply Kd.zAt)); exact HO571.out))) (Kd.R_lt (by (with_reducible repeat (first | apply Kd.zAk | apply Kd.zAj | apply Kd.zAt)); exact HO575.out))) (zAc (by repeat (first | (with_reducible first | exact HB.out | apply zA2 | apply zA0 | apply zA3) | exact HB.out)))); have n4_ := zA1.mk (zAm (by repeat (first | (with_reducible first | exact HB.out | apply zA2 | apply zA0 | apply zA3) | exact HB.out)) hb); clear HO567; clear HO571; clear HO575; clear HB; have HO567 := n0_; have HO571 := n1_; have HO575 := n2_; have HO579 := n3_; have HB := n4_; clear n0_ n1_ n2_ n3_ n4_; clear hb ho29; obtain ⟨Ao30, co30, eo30⟩ := Kd.S_slice HO579.out; subst eo30) | (go_at_call 29; (with_reducible refine (zB7.calls _ _ y577 3 t580 _ ?side1 ?side2 A26.out).mono ?_); (case side1 => repeat (first | exact (Kd.S_reads' HO579.out).2.2 | (with_reducible refine Kd.zA8 ?_ _) | (with_reducible refine Kd.zAd ?_ _) | (with_reducible refine Kd.zAp ?_))); (case side2 => exact (Kd.S_reads' HO579.out).2.1); rintro e w31 ⟨rfl, hb⟩; have n0_ := zA1.mk (Kd.zCa (by (with_reducible repeat (first | apply Kd.zAk | apply Kd.zAj | apply Kd.zAt)); exact HO567.out) hb); have n1_ := zA1.mk (Kd.zCa (by (with_reducible repeat (first | apply Kd.zAk | apply Kd.zAj | apply Kd.zAt)); exact HO571.out) hb); have n2_ := zA1.mk (Kd.zCa (by (with_reducible repeat (first | apply Kd.zAk | apply Kd.zAj | apply Kd.zAt)); exact HO575.out) hb); have n3_ := zA1.mk (Kd.S_below (by (with_reducible repeat (first | apply Kd.S_alloc | apply Kd.S_drewN | apply Kd.S_drew)); exact HO579.out) hb); have n4_ := zA1.mk (zAm (by repeat (first | (with_reducible first | exact HB.out | apply zA2 | apply zA0 | apply zA3) | exact HB.out)) hb); clear HO567; clear HO571; clear HO575; clear HO579; clear HB; have HO567 := n0_; have HO571 := n1_; have HO575 := n2_; have HO579 := n3_; have HB := n4_; clear n0_ n1_ n2_ n3_ n4_; (try clear hb); (try clear hb2); (try clear hk); (try clear hi)))
        go_meet
        case rel => exact ⟨_, ((t580 != 6)), (by first | rfl | (simp; done) | (simp [*]; done)), H', ⟨by have := HJ3.out; first | omega | exact Nat.le_refl _⟩, ⟨by (with_reducible repeat (first | apply Kd.zAk | apply Kd.zAj | apply Kd.zAt)); exact Kd.zCc HO567.out (fun _ hk => ⟨hk.1.2, hk.2⟩)⟩, ⟨by (with_reducible repeat (first | apply Kd.zAk | apply Kd.zAj | apply Kd.zAt)); exact Kd.zCc HO571.out (fun _ hk => ⟨hk.1.2, hk.2⟩)⟩, ⟨by (with_reducible repeat (first | apply Kd.zAk | apply Kd.zAj | apply Kd.zAt)); exact Kd.zCc HO575.out (fun _ hk => ⟨hk.1.2, hk.2⟩)⟩, ⟨by repeat (first | (with_reducible first | exact HB.out | apply zA2 | apply zA0 | apply zA3) | exact HB.out)⟩⟩
       ·rw [if_neg c24] at H
        have c24b0 : (t569 == t563) = false := beq_eq_false_iff_ne.mpr c24
        have c24b1 : (t569 != t563) = true := bne_iff_ne.mpr c24
        have H' := zA1.mk H
        clear H
        go_wp2_with (first | ((with_reducible refine zB1 (f := 29) rfl ?_); refine zC2 (some 47) rfl rfl Tryd.func29 (by kernel_rfl) rfl #[.slice A0 l0.length c0, .int .i64 a1] rfl (by (try simp only [List.map_toArray, List.map_cons, List.map_nil]); first | done | rfl | (simp only [List.length_drop, List.length_take]; rfl)) ?_; (with_reducible refine (zB7.calls _ _ l0 a1 t576 _ ?side1 ?side2 A21.out).mono ?_); (case side1 => repeat (first | exact (Kd.zAy HR0.out HB.out) | (with_reducible refine Kd.zA8 ?_ _) | (with_reducible refine Kd.zAd ?_ _) | (with_reducible refine Kd.zAp ?_))); (case side2 => exact HC0.out); rintro e w32 ⟨rfl, hb⟩; refine ⟨_, rfl, ?_⟩; have n0_ := zA1.mk (Kd.zCa (by (with_reducible repeat (first | apply Kd.zAk | apply Kd.zAj | apply Kd.zAt)); exact HO567.out) hb); have n1_ := zA1.mk (Kd.zCa (by (with_reducible repeat (first | apply Kd.zAk | apply Kd.zAj | apply Kd.zAt)); exact HO571.out) hb); have n2_ := zA1.mk (Kd.zCa (by (with_reducible repeat (first | apply Kd.zAk | apply Kd.zAj | apply Kd.zAt)); exact HO575.out) hb); have n3_ := zA1.mk (zAm (by repeat (first | (with_reducible first | exact HB.out | apply zA2 | apply zA0 | apply zA3) | exact HB.out)) hb); clear HO567; clear HO571; clear HO575; clear HB; have HO567 := n0_; have HO571 := n1_; have HO575 := n2_; have HB := n3_; clear n0_ n1_ n2_ n3_; (try clear hb); (try clear hb2); (try clear hk); (try clear hi)))
        go_meet
        case rel => exact ⟨_, (true), (by first | rfl | (simp; done) | (simp [*]; done)), H', ⟨by have := HJ3.out; first | omega | exact Nat.le_refl _⟩, ⟨by (with_reducible repeat (first | apply Kd.zAk | apply Kd.zAj | apply Kd.zAt)); exact Kd.zCc HO567.out (fun _ hk => ⟨hk.1.2, hk.2⟩)⟩, ⟨by (with_reducible repeat (first | apply Kd.zAk | apply Kd.zAj | apply Kd.zAt)); exact Kd.zCc HO571.out (fun _ hk => ⟨hk.1.2, hk.2⟩)⟩, ⟨by (with_reducible repeat (first | apply Kd.zAk | apply Kd.zAj | apply Kd.zAt)); exact Kd.zCc HO575.out (fun _ hk => ⟨hk.1.2, hk.2⟩)⟩, ⟨by repeat (first | (with_reducible first | exact HB.out | apply zA2 | apply zA0 | apply zA3) | exact HB.out)⟩⟩
      ·rw [if_neg c23] at H
       have c23b0 : (t565 == t563) = false := beq_eq_false_iff_ne.mpr c23
       have c23b1 : (t565 != t563) = true := bne_iff_ne.mpr c23
       have H' := zA1.mk H
       clear H
       go_wp2_with (first | ((with_reducible refine zB1 (f := 29) rfl ?_); refine zC2 (some 47) rfl rfl Tryd.func29 (by kernel_rfl) rfl #[.slice A0 l0.length c0, .int .i64 a1] rfl (by (try simp only [List.map_toArray, List.map_cons, List.map_nil]); first | done | rfl | (simp only [List.length_drop, List.length_take]; rfl)) ?_; (with_reducible refine (zB7.calls _ _ l0 a1 t576 _ ?side1 ?side2 A21.out).mono ?_); (case side1 => repeat (first | exact (Kd.zAy HR0.out HB.out) | (with_reducible refine Kd.zA8 ?_ _) | (with_reducible refine Kd.zAd ?_ _) | (with_reducible refine Kd.zAp ?_))); (case side2 => exact HC0.out); rintro e w33 ⟨rfl, hb⟩; refine ⟨_, rfl, ?_⟩; have n0_ := zA1.mk (Kd.zCa (by (with_reducible repeat (first | apply Kd.zAk | apply Kd.zAj | apply Kd.zAt)); exact HO567.out) hb); have n1_ := zA1.mk (Kd.zCa (by (with_reducible repeat (first | apply Kd.zAk | apply Kd.zAj | apply Kd.zAt)); exact HO571.out) hb); have n2_ := zA1.mk (Kd.zCa (by (with_reducible repeat (first | apply Kd.zAk | apply Kd.zAj | apply Kd.zAt)); exact HO575.out) hb); have n3_ := zA1.mk (zAm (by repeat (first | (with_reducible first | exact HB.out | apply zA2 | apply zA0 | apply zA3) | exact HB.out)) hb); clear HO567; clear HO571; clear HO575; clear HB; have HO567 := n0_; have HO571 := n1_; have HO575 := n2_; have HB := n3_; clear n0_ n1_ n2_ n3_; (try clear hb); (try clear hb2); (try clear hk); (try clear hi)))
       go_meet
       case rel => exact ⟨_, (true), (by first | rfl | (simp; done) | (simp [*]; done)), H', ⟨by have := HJ3.out; first | omega | exact Nat.le_refl _⟩, ⟨by (with_reducible repeat (first | apply Kd.zAk | apply Kd.zAj | apply Kd.zAt)); exact Kd.zCc HO567.out (fun _ hk => ⟨hk.1.2, hk.2⟩)⟩, ⟨by (with_reducible repeat (first | apply Kd.zAk | apply Kd.zAj | apply Kd.zAt)); exact Kd.zCc HO571.out (fun _ hk => ⟨hk.1.2, hk.2⟩)⟩, ⟨by (with_reducible repeat (first | apply Kd.zAk | apply Kd.zAj | apply Kd.zAt)); exact Kd.zCc HO575.out (fun _ hk => ⟨hk.1.2, hk.2⟩)⟩, ⟨by repeat (first | (with_reducible first | exact HB.out | apply zA2 | apply zA0 | apply zA3) | exact HB.out)⟩⟩
     ·rw [if_neg c22] at H
      have c22b0 : (t576 == t563) = false := beq_eq_false_iff_ne.mpr c22
      have c22b1 : (t576 != t563) = true := bne_iff_ne.mpr c22
      (first | rw [c22b0] | (simp only [i64_w, i32_w]; rw [c22b0]) | skip)
      have H' := zA1.mk H
      clear H
      go_wp2_with (first | ((with_reducible refine zB1 (f := 29) rfl ?_); refine zC2 (some 47) rfl rfl Tryd.func29 (by kernel_rfl) rfl #[.slice A0 l0.length c0, .int .i64 a1] rfl (by (try simp only [List.map_toArray, List.map_cons, List.map_nil]); first | done | rfl | (simp only [List.length_drop, List.length_take]; rfl)) ?_; (with_reducible refine (zB7.calls _ _ l0 a1 t576 _ ?side1 ?side2 A21.out).mono ?_); (case side1 => repeat (first | exact (Kd.zAy HR0.out HB.out) | (with_reducible refine Kd.zA8 ?_ _) | (with_reducible refine Kd.zAd ?_ _) | (with_reducible refine Kd.zAp ?_))); (case side2 => exact HC0.out); rintro e w34 ⟨rfl, hb⟩; refine ⟨_, rfl, ?_⟩; have n0_ := zA1.mk (Kd.zCa (by (with_reducible repeat (first | apply Kd.zAk | apply Kd.zAj | apply Kd.zAt)); exact HO567.out) hb); have n1_ := zA1.mk (Kd.zCa (by (with_reducible repeat (first | apply Kd.zAk | apply Kd.zAj | apply Kd.zAt)); exact HO571.out) hb); have n2_ := zA1.mk (Kd.zCa (by (with_reducible repeat (first | apply Kd.zAk | apply Kd.zAj | apply Kd.zAt)); exact HO575.out) hb); have n3_ := zA1.mk (zAm (by repeat (first | (with_reducible first | exact HB.out | apply zA2 | apply zA0 | apply zA3) | exact HB.out)) hb); clear HO567; clear HO571; clear HO575; clear HB; have HO567 := n0_; have HO571 := n1_; have HO575 := n2_; have HB := n3_; clear n0_ n1_ n2_ n3_; (try clear hb); (try clear hb2); (try clear hk); (try clear hi)))
      go_meet
      case rel => exact ⟨_, (true), (by first | rfl | (simp; done) | (simp [*]; done)), H', ⟨by have := HJ3.out; first | omega | exact Nat.le_refl _⟩, ⟨by (with_reducible repeat (first | apply Kd.zAk | apply Kd.zAj | apply Kd.zAt)); exact Kd.zCc HO567.out (fun _ hk => ⟨hk.1.2, hk.2⟩)⟩, ⟨by (with_reducible repeat (first | apply Kd.zAk | apply Kd.zAj | apply Kd.zAt)); exact Kd.zCc HO571.out (fun _ hk => ⟨hk.1.2, hk.2⟩)⟩, ⟨by (with_reducible repeat (first | apply Kd.zAk | apply Kd.zAj | apply Kd.zAt)); exact Kd.zCc HO575.out (fun _ hk => ⟨hk.1.2, hk.2⟩)⟩, ⟨by repeat (first | (with_reducible first | exact HB.out | apply zA2 | apply zA0 | apply zA3) | exact HB.out)⟩⟩
    case rest =>
     clear HC17
     try clear c1
     try clear c2
     try clear p2
     try clear c6
     try clear c8
     try clear c10
     try clear c22
     try clear c22b0
     try clear c22b1
     try clear c23
     try clear c23b0
     try clear c23b1
     try clear c24
     try clear c24b0
     try clear c24b1
     try clear c25
     try clear c25b0
     try clear c25b1
     try clear c26
     try clear c27
     try clear c28
     try clear c29
     try clear p2
     obtain ⟨kq, x64_16, rfl, HA, HJ16, HO_8, HO_10, HO_12, HB⟩ := hcut
     cases kq with
     | zero => exact absurd HA.out (by simp [zA4.j1])
     | succ kj16 =>
      have H := HA.out
      clear HA
      simp only [zA4.j1] at H
      by_cases c35 : x64_16 = true
      ·subst c35
       have H1 : (some false) = some r := by rw [if_pos rfl] at H; exact H
       clear H
       have H := H1
       clear H1
       obtain rfl := Option.some.inj H
       go_wp2
       go_ret
       exact ⟨by first | rfl | (simp [zAx, zAw] <;> rfl) | (simp [*, zAx, zAw] <;> rfl), by repeat (first | (with_reducible first | exact HB.out | apply zA2 | apply zA0 | apply zA3) | exact HB.out)⟩
      ·replace c35 := Bool.eq_false_iff.mpr c35
       subst c35
       have H1 : (if t563 = 0 then (if (t564.length : Int) = (l0.length : Int) then ((zAn.f kj16 l0).bind fun t581 => ((zAo.f kj16 t568 t581).bind fun t584 => (zA4.j2 kj16 l0 a2 t564 t572 t573 (!t584)))) else (zA4.j2 kj16 l0 a2 t564 t572 t573 true)) else (if (wrap64 ((wrap64 ((t564.length : Int) + (t568.length : Int))) + (t572.length : Int))) = 0 then (some (t573 == t563)) else (some false))) = some r := by rw [if_neg (show ¬ (false = true) by decide)] at H; exact H
       clear H
       have H := H1
       clear H1
       by_cases c36 : t563 = 0
       ·rw [if_pos c36] at H
        have c36b0 : (t563 == 0) = true := beq_iff_eq.mpr c36
        have c36b1 : (t563 != 0) = false := bne_eq_false_iff_eq.mpr c36
        clear c36
        have HC37 := zA1.mk H
        clear H
        go_upto_region 11 with (fail)
        go_cut [92] (fun v92 wc => ∃ (kq : Nat) (x92_36 : Bool), v92 = .bool x92_36 ∧ zA1 (zA4.j2 kq l0 a2 t564 t572 t573 x92_36 = some r) ∧ zA1 (kq ≤ kj16) ∧ zA1 (Kd.R (Kd.int .i64) 3 wc w.heap.size (fun k_ => some k_ ≠ (v574 : Value).ownBlock) v566 t564) ∧ zA1 (Kd.R (Kd.int .i64) 3 wc w.heap.size (fun k_ => some k_ ≠ (v566 : Value).ownBlock) v574 t572) ∧ zA1 (Below w.heap.size w wc))
        case first =>
         have H := HC37.out
         clear HC37
         by_cases c38 : (t564.length : Int) = (l0.length : Int)
         ·rw [if_pos c38] at H
          have c38b0 : ((t564.length : Int) == (l0.length : Int)) = true := beq_iff_eq.mpr c38
          have c38b1 : ((t564.length : Int) != (l0.length : Int)) = false := bne_eq_false_iff_eq.mpr c38
          have c38b2 : (t564.length == l0.length) = true := by first | simpa using c38 | (simp at c38 ⊢; omega)
          clear c38
          (first | rw [c38b0] | (simp only [i64_w, i32_w]; rw [c38b0]) | skip)
          replace H := Option.bind_eq_some_iff.mp H
          obtain ⟨t581, A390, H⟩ := H
          replace H : ((zAo.f kj16 t568 t581).bind fun t584 => (zA4.j2 kj16 l0 a2 t564 t572 t573 (!t584))) = some r := H
          have A39 := zA1.mk A390
          clear A390
          replace H := Option.bind_eq_some_iff.mp H
          obtain ⟨t584, A400, H⟩ := H
          replace H : (zA4.j2 kj16 l0 a2 t564 t572 t573 (!t584)) = some r := H
          have A40 := zA1.mk A400
          clear A400
          have H' := zA1.mk H
          clear H
          obtain ⟨Ao41, co41, eo41⟩ := Kd.zCe HO_8.out
          subst eo41
          go_wp2_with (first | (go_at_call 30; (with_reducible refine (zAn.calls kj16 _ _ l0 t581 _ ?side1 ?side2 A39.out).mono ?_); (case side1 => repeat (first | exact (Kd.zAy HR0.out HB.out) | (with_reducible refine Kd.zA8 ?_ _) | (with_reducible refine Kd.zAd ?_ _) | (with_reducible refine Kd.zAp ?_))); (case side2 => exact HC0.out); rintro e w42 ⟨v582, rfl, ho0, hb⟩; have n0_ := zA1.mk (Kd.R_elder' (by (with_reducible repeat (first | apply Kd.zAk | apply Kd.zAj | apply Kd.zAt)); exact HO_8.out) (Kd.R_base ho0) hb); have n1_ := zA1.mk (Kd.R_elder' (by (with_reducible repeat (first | apply Kd.zAk | apply Kd.zAj | apply Kd.zAt)); exact HO_10.out) (Kd.R_base ho0) hb); have n2_ := zA1.mk (Kd.R_elder' (by (with_reducible repeat (first | apply Kd.zAk | apply Kd.zAj | apply Kd.zAt)); exact HO_12.out) (Kd.R_base ho0) hb); have n3_ := zA1.mk (Kd.R_lower (Kd.R_new' (Kd.R_new' (Kd.R_new' ho0 (Kd.R_lt (by (with_reducible repeat (first | apply Kd.zAk | apply Kd.zAj | apply Kd.zAt)); exact HO_8.out))) (Kd.R_lt (by (with_reducible repeat (first | apply Kd.zAk | apply Kd.zAj | apply Kd.zAt)); exact HO_10.out))) (Kd.R_lt (by (with_reducible repeat (first | apply Kd.zAk | apply Kd.zAj | apply Kd.zAt)); exact HO_12.out))) (zAc (by repeat (first | (with_reducible first | exact HB.out | apply zA2 | apply zA0 | apply zA3) | exact HB.out)))); have n4_ := zA1.mk (zAm (by repeat (first | (with_reducible first | exact HB.out | apply zA2 | apply zA0 | apply zA3) | exact HB.out)) hb); clear HO_8; clear HO_10; clear HO_12; clear HB; have HO_8 := n0_; have HO_10 := n1_; have HO_12 := n2_; have HO583 := n3_; have HB := n4_; clear n0_ n1_ n2_ n3_ n4_; (try clear hb); (try clear hb2); (try clear hk); (try clear hi); (try clear ho0); obtain ⟨Ao43, co43, eo43⟩ := Kd.zCe HO_10.out; subst eo43; obtain ⟨Ao44, co44, eo44⟩ := Kd.zCe HO583.out; subst eo44) | (go_at_call 14; (with_reducible refine (zAo.calls kj16 _ _ t568 _ _ t581 t584 _ ?side1 ?side2 ?side3 ?side4 A40.out).mono ?_); (case side1 => repeat (first | exact (Kd.zBd HO_10.out).2.2 | (with_reducible refine Kd.zA8 ?_ _) | (with_reducible refine Kd.zAd ?_ _) | (with_reducible refine Kd.zAp ?_))); (case side2 => exact (Kd.zBd HO_10.out).2.1); (case side3 => repeat (first | exact (Kd.zBd HO583.out).2.2 | (with_reducible refine Kd.zA8 ?_ _) | (with_reducible refine Kd.zAd ?_ _) | (with_reducible refine Kd.zAp ?_))); (case side4 => exact (Kd.zBd HO583.out).2.1); rintro e w' ⟨rfl, ⟨nd, rfl⟩⟩))
          go_meet
          case rel => exact ⟨_, (!t584), (by first | rfl | (simp; done) | (simp [*]; done)), H', ⟨by have := HJ3.out; have := HJ16.out; first | omega | exact Nat.le_refl _⟩, ⟨by (with_reducible repeat (first | apply Kd.zAk | apply Kd.zAj | apply Kd.zAt)); exact Kd.zCc HO_8.out (fun _ hk => hk.1.2)⟩, ⟨by (with_reducible repeat (first | apply Kd.zAk | apply Kd.zAj | apply Kd.zAt)); exact Kd.zCc HO_12.out (fun _ hk => hk.1.1)⟩, ⟨by repeat (first | (with_reducible first | exact HB.out | apply zA2 | apply zA0 | apply zA3) | exact HB.out)⟩⟩
         ·rw [if_neg c38] at H
          have c38b0 : ((t564.length : Int) == (l0.length : Int)) = false := beq_eq_false_iff_ne.mpr c38
          have c38b1 : ((t564.length : Int) != (l0.length : Int)) = true := bne_iff_ne.mpr c38
          have c38b2 : (t564.length == l0.length) = false := by first | simpa using c38 | (simp at c38 ⊢; omega)
          (first | rw [c38b0] | (simp only [i64_w, i32_w]; rw [c38b0]) | skip)
          have H' := zA1.mk H
          clear H
          obtain ⟨Ao45, co45, eo45⟩ := Kd.zCe HO_8.out
          subst eo45
          go_wp2
          go_meet
          case rel => exact ⟨_, (true), (by first | rfl | (simp; done) | (simp [*]; done)), H', ⟨by have := HJ3.out; have := HJ16.out; first | omega | exact Nat.le_refl _⟩, ⟨by (with_reducible repeat (first | apply Kd.zAk | apply Kd.zAj | apply Kd.zAt)); exact Kd.zCc HO_8.out (fun _ hk => hk.2)⟩, ⟨by (with_reducible repeat (first | apply Kd.zAk | apply Kd.zAj | apply Kd.zAt)); exact Kd.zCc HO_12.out (fun _ hk => hk.1)⟩, ⟨by repeat (first | (with_reducible first | exact HB.out | apply zA2 | apply zA0 | apply zA3) | exact HB.out)⟩⟩
        case rest =>
         clear HC37
         try clear c1
         try clear c2
         try clear p2
         try clear c3
         try clear c6
         try clear p6
         try clear c8
         try clear c10
         try clear c22
         try clear c22b0
         try clear c22b1
         try clear c23
         try clear c23b0
         try clear c23b1
         try clear c24
         try clear c24b0
         try clear c24b1
         try clear c25
         try clear c25b0
         try clear c25b1
         try clear c26
         try clear c27
         try clear c28
         try clear c29
         try clear c35
         try clear c36
         try clear c36b0
         try clear c36b1
         try clear c38
         try clear c38b0
         try clear c38b1
         try clear c38b2
         try clear p2
         obtain ⟨kq, x92_36, rfl, HA, HJ36, HO_8, HO_12, HB⟩ := hcut
         cases kq with
         | zero => exact absurd HA.out (by simp [zA4.j2])
         | succ kj36 =>
          have H := HA.out
          clear HA
          simp only [zA4.j2] at H
          by_cases c46 : x92_36 = true
          ·subst c46
           have H1 : (some false) = some r := by rw [if_pos rfl] at H; exact H
           clear H
           have H := H1
           clear H1
           obtain rfl := Option.some.inj H
           go_wp2
           go_ret
           exact ⟨by first | rfl | (simp [zAx, zAw] <;> rfl) | (simp [*, zAx, zAw] <;> rfl), by repeat (first | (with_reducible first | exact HB.out | apply zA2 | apply zA0 | apply zA3) | exact HB.out)⟩
          ·replace c46 := Bool.eq_false_iff.mpr c46
           subst c46
           have H1 : (zA4.l0 kj36 l0 a2 t564 t572 t573 0) = some r := by rw [if_neg (show ¬ (false = true) by decide)] at H; exact H
           clear H
           have H := H1
           clear H1
           have H' := zA1.mk H
           clear H
           go_wp2
           go_loopg [14] kj36 (fun kq v14 w' => ∃ (x14_4 : Int), v14 = .int .i64 x14_4 ∧ zA1 (zA4.l0 kq l0 a2 t564 t572 t573 x14_4 = some r) ∧ zA1 (kq ≤ kj36) ∧ zA1 (Kd.R (Kd.int .i64) 3 w' w.heap.size (fun k_ => some k_ ≠ (v574 : Value).ownBlock) v566 t564) ∧ zA1 (Kd.R (Kd.int .i64) 3 w' w.heap.size (fun k_ => some k_ ≠ (v566 : Value).ownBlock) v574 t572) ∧ zA1 (Below w.heap.size w w'))
           case atStart => exact ⟨(0), (by first | rfl | (simp; done) | (simp [*]; done)), H', ⟨Nat.le_refl _⟩, ⟨by (with_reducible repeat (first | apply Kd.zAk | apply Kd.zAj | apply Kd.zAt)); exact HO_8.out⟩, ⟨by (with_reducible repeat (first | apply Kd.zAk | apply Kd.zAj | apply Kd.zAt)); exact HO_12.out⟩, ⟨by repeat (first | (with_reducible first | exact HB.out | apply zA2 | apply zA0 | apply zA3) | exact HB.out)⟩⟩
           case round =>
            clear H'
            try clear c1
            try clear c2
            try clear p2
            try clear c3
            try clear c4
            try clear c6
            try clear p6
            try clear c8
            try clear c10
            try clear c22
            try clear c22b0
            try clear c22b1
            try clear c23
            try clear c23b0
            try clear c23b1
            try clear c24
            try clear c24b0
            try clear c24b1
            try clear c25
            try clear c25b0
            try clear c25b1
            try clear c26
            try clear c27
            try clear c28
            try clear c29
            try clear c35
            try clear c36
            try clear c36b0
            try clear c36b1
            try clear c38
            try clear c38b0
            try clear c38b1
            try clear c38b2
            try clear c46
            try clear p2
            try clear p6
            obtain ⟨x14_4, rfl, HA, HK4, HO_8, HO_12, HB⟩ := hrel
            cases gk with
            | zero => exact absurd HA.out (by simp [zA4.l0])
            | succ k4 =>
             have H := HA.out
             clear HA
             simp only [zA4.l0] at H
             by_cases c47 : x14_4 < (l0.length : Int)
             ·rw [if_pos c47] at H
              have c47b0 : decide (x14_4 < (l0.length : Int)) = true := decide_eq_true c47
              clear c47
              by_cases c48 : 0 ≤ x14_4
              rotate_left
              ·rw [if_neg c48] at H
               exact absurd H (by simp)
              rw [if_pos c48] at H
              have c48b0 : decide (0 ≤ x14_4) = true := decide_eq_true c48
              clear c48
              by_cases c49 : x14_4 < (t564.length : Int)
              rotate_left
              ·rw [if_neg c49] at H
               exact absurd H (by simp)
              rw [if_pos c49] at H
              have c49b0 : decide (x14_4 < (t564.length : Int)) = true := decide_eq_true c49
              clear c49
              replace H := Option.bind_eq_some_iff.mp H
              obtain ⟨t586, A500, H⟩ := H
              replace H : (if (rd t564 x14_4) = t586 then (zA4.l0 k4 l0 a2 t564 t572 t573 (wrap64 (x14_4 + 1))) else (some false)) = some r := H
              have A50 := zA1.mk A500
              clear A500
              by_cases c51 : (rd t564 x14_4) = t586
              ·rw [if_pos c51] at H
               have c51b0 : ((rd t564 x14_4) == t586) = true := beq_iff_eq.mpr c51
               have c51b1 : ((rd t564 x14_4) != t586) = false := bne_eq_false_iff_eq.mpr c51
               clear c51
               have H' := zA1.mk H
               clear H
               try go_wp2
               have n0_ := zA1.mk (Kd.zAt HO_8.out)
               have n1_ := zA1.mk (Kd.zAt HO_12.out)
               have n2_ := zA1.mk (zA3 HB.out)
               clear HO_8
               clear HO_12
               clear HB
               have HO_8 := n0_
               have HO_12 := n1_
               have HB := n2_
               clear n0_ n1_ n2_
               obtain ⟨Ao53, co53, eo53⟩ := Kd.zCe HO_8.out
               (first | subst eo53 | (injection eo53 with f1_ f2_ f3_; have f4_ := f1_.symm; have f5_ := f3_.symm; clear f1_ f2_ f3_; subst f4_; subst f5_))
               have p585 : 0 ≤ (x14_4 : Int) := of_decide_eq_true (by first | (with_reducible assumption) | assumption)
               have q585 : x14_4 < (t564.length : Int) := of_decide_eq_true (by first | (with_reducible assumption) | assumption)
               obtain ⟨ad585, e585, hx585_0⟩ := Kd.at_int (Kd.zBd HO_8.out).2.2 x14_4 p585 q585
               cases e585
               replace p585 := eq_true p585
               replace q585 := eq_true q585
               refine start_ (n := 8) (S := fun w' => w'.cell? (ad585.add (x14_4).toNat) = some (.int .i64 (rd t564 x14_4))) (ds := []) #[false, false, false, false, false, false, false, false] (by kernel_rfl) rfl rfl (hx585_0) (fun hHeld => ?_); refine with_tabW zA4.tab16 zA4.bits16 (fun HT_ HW_ => ?_)
               generalize wr.drew = w52 at HO_8 HO_12 HB hx585_0 hHeld ⊢
               refine pure_ (i := 0) (N := some 99) (v := ?_) (a' := ?_) #[true, false, false, false, false, false, false, false] rfl rfl (zAq HT_.out (by kernel_rfl)) (fun _ _ _ h => h) (Or.inl ⟨by rfl, ?_⟩) ?_ ?_
               rotate_left
               ·intro w'
                go_simp
                with_reducible rfl
               rotate_left
               ·simp only [Act.put, List.setIfInBounds_toArray, List.set_cons_zero, List.set_cons_succ, i64_w, i32_w]
                rfl
               refine pure_ (i := 1) (N := some 100) (v := ?_) (a' := ?_) #[true, true, false, false, false, false, false, false] rfl rfl (zAq HT_.out (by kernel_rfl)) (fun _ _ _ h => h) (Or.inl ⟨by rfl, ?_⟩) ?_ ?_
               rotate_left
               ·intro w'
                go_simp
                with_reducible rfl
               rotate_left
               ·simp only [Act.put, List.setIfInBounds_toArray, List.set_cons_zero, List.set_cons_succ, i64_w, i32_w]
                rfl
               refine pure_ (i := 2) (N := some 101) (v := ?_) (a' := ?_) #[true, true, true, false, false, false, false, false] rfl rfl (zAq HT_.out (by kernel_rfl)) (fun _ _ _ h => h) (Or.inl ⟨by rfl, ?_⟩) ?_ ?_
               rotate_left
               ·intro w'
                go_simp
                with_reducible rfl
               rotate_left
               ·simp only [Act.put, List.setIfInBounds_toArray, List.set_cons_zero, List.set_cons_succ, i64_w, i32_w]
                rfl
               refine pure_ (i := 4) (N := some 103) (v := ?_) (a' := ?_) #[true, true, true, false, true, false, false, false] rfl rfl (zAq HT_.out (by kernel_rfl)) (fun _ _ _ h => h) (Or.inl ⟨by rfl, ?_⟩) ?_ ?_
               rotate_left
               ·intro w'
                go_simp
                with_reducible rfl
               rotate_left
               ·simp only [Act.put, List.setIfInBounds_toArray, List.set_cons_zero, List.set_cons_succ, i64_w, i32_w]
                rfl
               refine pure_ (i := 5) (N := some 104) (v := ?_) (a' := ?_) #[true, true, true, false, true, true, false, false] rfl rfl (zAq HT_.out (by kernel_rfl)) (fun _ _ _ h => h) (Or.inl ⟨by rfl, ?_⟩) ?_ ?_
               rotate_left
               ·intro w'
                go_simp
                with_reducible rfl
               rotate_left
               ·simp only [Act.put, List.setIfInBounds_toArray, List.set_cons_zero, List.set_cons_succ, i64_w, i32_w]
                rfl
               refine take_ (i := 3) (N := some 102) (v := ?_) (a' := ?_) #[true, true, true, true, true, true, false, false] rfl rfl (zC3 HT_.out HW_.out (by kernel_rfl)) (fun _ _ _ h => h) (Or.inl ⟨by rfl, ?_⟩) hHeld ?_ ?_
               rotate_left
               ·intro w' s0
                go_simp
                with_reducible rfl
               rotate_left
               ·simp only [Act.put, List.setIfInBounds_toArray, List.set_cons_zero, List.set_cons_succ, i64_w, i32_w]
                rfl
               refine one_ (i := 6) (N := some 105) #[true, true, true, true, true, true, true, false] rfl rfl (one_of HT_.out (by kernel_rfl)) (by decide) (fun K hK => ?_)
               refine goes_ Tryd.func31 (by kernel_rfl) rfl #[.slice A0 l0.length c0, .int .i64 x14_4] (by rfl) rfl rfl (by (try simp only [List.map_toArray, List.map_cons, List.map_nil]); first | done | rfl | (simp only [List.length_drop, List.length_take]; rfl)) ?_
               with_reducible refine (zAl.calls k4 _ _ l0 x14_4 t586 _ ?side1 ?side2 A50.out).mono ?_
               (case side1 => repeat (first | exact (Kd.zAy HR0.out HB.out) | (with_reducible refine Kd.zA8 ?_ _) | (with_reducible refine Kd.zAd ?_ _) | (with_reducible refine Kd.zAp ?_)))
               (case side2 => exact HC0.out)
               rintro e w54 ⟨rfl, hb⟩
               have HS0_ := (hb.cell (World.block_lt_of_cell? _ _ (hHeld))).trans (hHeld)
               refine ⟨_, rfl, ?_⟩
               have n0_ := zA1.mk (Kd.zCa (by (with_reducible repeat (first | apply Kd.zAk | apply Kd.zAj | apply Kd.zAt)); exact HO_8.out) hb)
               have n1_ := zA1.mk (Kd.zCa (by (with_reducible repeat (first | apply Kd.zAk | apply Kd.zAj | apply Kd.zAt)); exact HO_12.out) hb)
               have n2_ := zA1.mk (zAm (by repeat (first | (with_reducible first | exact HB.out | apply zA2 | apply zA0 | apply zA3) | exact HB.out)) hb)
               clear HO_8
               clear HO_12
               clear HB
               have HO_8 := n0_
               have HO_12 := n1_
               have HB := n2_
               clear n0_ n1_ n2_
               (try clear hb)
               (try clear hb2)
               (try clear hk)
               (try clear hi)
               refine hK.out _ _ (HS0_) (fun hHeld => ?_)
               clear hK K
               refine norm_ (a' := ?_) ?_ ?_
               rotate_left
               ·show Act.put _ (some 105) _ = _
                simp only [Act.put, List.setIfInBounds_toArray, List.set_cons_zero, List.set_cons_succ, i64_w, i32_w]
                rfl
               refine pure_ (i := 7) (N := some 106) (v := ?_) (a' := ?_) #[true, true, true, true, true, true, true, true] rfl rfl (zAq HT_.out (by kernel_rfl)) (fun _ _ _ h => h) (Or.inl ⟨by rfl, ?_⟩) ?_ ?_
               rotate_left
               ·intro w'
                go_simp
                with_reducible rfl
               rotate_left
               ·simp only [Act.put, List.setIfInBounds_toArray, List.set_cons_zero, List.set_cons_succ, i64_w, i32_w]
                rfl
               refine done_ (done_of HT_.out (by kernel_rfl)) ?_
               try go_wp2
               go_roundg k4
               case measure => have := HJ3.out; have := HJ16.out; have := HJ36.out; have := HK4.out; omega
               case rel => exact ⟨(wrap64 (x14_4 + 1)), (by first | rfl | (simp; done) | (simp [*]; done)), H', ⟨by have := HJ3.out; have := HJ16.out; have := HJ36.out; have := HK4.out; omega⟩, ⟨by (with_reducible repeat (first | apply Kd.zAk | apply Kd.zAj | apply Kd.zAt)); exact HO_8.out⟩, ⟨by (with_reducible repeat (first | apply Kd.zAk | apply Kd.zAj | apply Kd.zAt)); exact HO_12.out⟩, ⟨by repeat (first | (with_reducible first | exact HB.out | apply zA2 | apply zA0 | apply zA3) | exact HB.out)⟩⟩
              ·rw [if_neg c51] at H
               have c51b0 : ((rd t564 x14_4) == t586) = false := beq_eq_false_iff_ne.mpr c51
               have c51b1 : ((rd t564 x14_4) != t586) = true := bne_iff_ne.mpr c51
               obtain rfl := Option.some.inj H
               try go_wp2
               have n0_ := zA1.mk (Kd.zAt HO_8.out)
               have n1_ := zA1.mk (Kd.zAt HO_12.out)
               have n2_ := zA1.mk (zA3 HB.out)
               clear HO_8
               clear HO_12
               clear HB
               have HO_8 := n0_
               have HO_12 := n1_
               have HB := n2_
               clear n0_ n1_ n2_
               obtain ⟨Ao56, co56, eo56⟩ := Kd.zCe HO_8.out
               (first | subst eo56 | (injection eo56 with f1_ f2_ f3_; have f4_ := f1_.symm; have f5_ := f3_.symm; clear f1_ f2_ f3_; subst f4_; subst f5_))
               have p585 : 0 ≤ (x14_4 : Int) := of_decide_eq_true (by first | (with_reducible assumption) | assumption)
               have q585 : x14_4 < (t564.length : Int) := of_decide_eq_true (by first | (with_reducible assumption) | assumption)
               obtain ⟨ad585, e585, hx585_0⟩ := Kd.at_int (Kd.zBd HO_8.out).2.2 x14_4 p585 q585
               cases e585
               replace p585 := eq_true p585
               replace q585 := eq_true q585
               refine start_ (n := 8) (S := fun w' => w'.cell? (ad585.add (x14_4).toNat) = some (.int .i64 (rd t564 x14_4))) (ds := []) #[false, false, false, false, false, false, false, false] (by kernel_rfl) rfl rfl (hx585_0) (fun hHeld => ?_); refine with_tabW zA4.tab16 zA4.bits16 (fun HT_ HW_ => ?_)
               generalize wr.drew = w55 at HO_8 HO_12 HB hx585_0 hHeld ⊢
               refine pure_ (i := 0) (N := some 99) (v := ?_) (a' := ?_) #[true, false, false, false, false, false, false, false] rfl rfl (zAq HT_.out (by kernel_rfl)) (fun _ _ _ h => h) (Or.inl ⟨by rfl, ?_⟩) ?_ ?_
               rotate_left
               ·intro w'
                go_simp
                with_reducible rfl
               rotate_left
               ·simp only [Act.put, List.setIfInBounds_toArray, List.set_cons_zero, List.set_cons_succ, i64_w, i32_w]
                rfl
               refine pure_ (i := 1) (N := some 100) (v := ?_) (a' := ?_) #[true, true, false, false, false, false, false, false] rfl rfl (zAq HT_.out (by kernel_rfl)) (fun _ _ _ h => h) (Or.inl ⟨by rfl, ?_⟩) ?_ ?_
               rotate_left
               ·intro w'
                go_simp
                with_reducible rfl
               rotate_left
               ·simp only [Act.put, List.setIfInBounds_toArray, List.set_cons_zero, List.set_cons_succ, i64_w, i32_w]
                rfl
               refine pure_ (i := 2) (N := some 101) (v := ?_) (a' := ?_) #[true, true, true, false, false, false, false, false] rfl rfl (zAq HT_.out (by kernel_rfl)) (fun _ _ _ h => h) (Or.inl ⟨by rfl, ?_⟩) ?_ ?_
               rotate_left
               ·intro w'
                go_simp
                with_reducible rfl
               rotate_left
               ·simp only [Act.put, List.setIfInBounds_toArray, List.set_cons_zero, List.set_cons_succ, i64_w, i32_w]
                rfl
               refine pure_ (i := 4) (N := some 103) (v := ?_) (a' := ?_) #[true, true, true, false, true, false, false, false] rfl rfl (zAq HT_.out (by kernel_rfl)) (fun _ _ _ h => h) (Or.inl ⟨by rfl, ?_⟩) ?_ ?_
               rotate_left
               ·intro w'
                go_simp
                with_reducible rfl
               rotate_left
               ·simp only [Act.put, List.setIfInBounds_toArray, List.set_cons_zero, List.set_cons_succ, i64_w, i32_w]
                rfl
               refine pure_ (i := 5) (N := some 104) (v := ?_) (a' := ?_) #[true, true, true, false, true, true, false, false] rfl rfl (zAq HT_.out (by kernel_rfl)) (fun _ _ _ h => h) (Or.inl ⟨by rfl, ?_⟩) ?_ ?_
               rotate_left
               ·intro w'
                go_simp
                with_reducible rfl
               rotate_left
               ·simp only [Act.put, List.setIfInBounds_toArray, List.set_cons_zero, List.set_cons_succ, i64_w, i32_w]
                rfl
               refine take_ (i := 3) (N := some 102) (v := ?_) (a' := ?_) #[true, true, true, true, true, true, false, false] rfl rfl (zC3 HT_.out HW_.out (by kernel_rfl)) (fun _ _ _ h => h) (Or.inl ⟨by rfl, ?_⟩) hHeld ?_ ?_
               rotate_left
               ·intro w' s0
                go_simp
                with_reducible rfl
               rotate_left
               ·simp only [Act.put, List.setIfInBounds_toArray, List.set_cons_zero, List.set_cons_succ, i64_w, i32_w]
                rfl
               refine one_ (i := 6) (N := some 105) #[true, true, true, true, true, true, true, false] rfl rfl (one_of HT_.out (by kernel_rfl)) (by decide) (fun K hK => ?_)
               refine goes_ Tryd.func31 (by kernel_rfl) rfl #[.slice A0 l0.length c0, .int .i64 x14_4] (by rfl) rfl rfl (by (try simp only [List.map_toArray, List.map_cons, List.map_nil]); first | done | rfl | (simp only [List.length_drop, List.length_take]; rfl)) ?_
               with_reducible refine (zAl.calls k4 _ _ l0 x14_4 t586 _ ?side1 ?side2 A50.out).mono ?_
               (case side1 => repeat (first | exact (Kd.zAy HR0.out HB.out) | (with_reducible refine Kd.zA8 ?_ _) | (with_reducible refine Kd.zAd ?_ _) | (with_reducible refine Kd.zAp ?_)))
               (case side2 => exact HC0.out)
               rintro e w57 ⟨rfl, hb⟩
               have HS0_ := (hb.cell (World.block_lt_of_cell? _ _ (hHeld))).trans (hHeld)
               refine ⟨_, rfl, ?_⟩
               have n0_ := zA1.mk (Kd.zCa (by (with_reducible repeat (first | apply Kd.zAk | apply Kd.zAj | apply Kd.zAt)); exact HO_8.out) hb)
               have n1_ := zA1.mk (Kd.zCa (by (with_reducible repeat (first | apply Kd.zAk | apply Kd.zAj | apply Kd.zAt)); exact HO_12.out) hb)
               have n2_ := zA1.mk (zAm (by repeat (first | (with_reducible first | exact HB.out | apply zA2 | apply zA0 | apply zA3) | exact HB.out)) hb)
               clear HO_8
               clear HO_12
               clear HB
               have HO_8 := n0_
               have HO_12 := n1_
               have HB := n2_
               clear n0_ n1_ n2_
               (try clear hb)
               (try clear hb2)
               (try clear hk)
               (try clear hi)
               refine hK.out _ _ (HS0_) (fun hHeld => ?_)
               clear hK K
               refine norm_ (a' := ?_) ?_ ?_
               rotate_left
               ·show Act.put _ (some 105) _ = _
                simp only [Act.put, List.setIfInBounds_toArray, List.set_cons_zero, List.set_cons_succ, i64_w, i32_w]
                rfl
               refine pure_ (i := 7) (N := some 106) (v := ?_) (a' := ?_) #[true, true, true, true, true, true, true, true] rfl rfl (zAq HT_.out (by kernel_rfl)) (fun _ _ _ h => h) (Or.inl ⟨by rfl, ?_⟩) ?_ ?_
               rotate_left
               ·intro w'
                go_simp
                with_reducible rfl
               rotate_left
               ·simp only [Act.put, List.setIfInBounds_toArray, List.set_cons_zero, List.set_cons_succ, i64_w, i32_w]
                rfl
               refine done_ (done_of HT_.out (by kernel_rfl)) ?_
               try go_wp2
               go_ret
               exact ⟨by first | rfl | (simp [zAx, zAw] <;> rfl) | (simp [*, zAx, zAw] <;> rfl), by repeat (first | (with_reducible first | exact HB.out | apply zA2 | apply zA0 | apply zA3) | exact HB.out)⟩
             ·rw [if_neg c47] at H
              have c47b0 : decide (x14_4 < (l0.length : Int)) = false := decide_eq_false c47
              clear c47
              have HC58 := zA1.mk H
              clear H
              go_upto_region 18 with (fail)
              go_cut [114] (fun v114 wc => ∃ (kq : Nat) (x114_57 : Bool), v114 = .bool x114_57 ∧ zA1 (zA4.j4 kq l0 a2 t572 t573 x114_57 = some r) ∧ zA1 (kq ≤ k4) ∧ zA1 (Kd.R (Kd.int .i64) 3 wc w.heap.size (fun _ => True) v574 t572) ∧ zA1 (Below w.heap.size w wc))
              case first =>
               have H := HC58.out
               clear HC58
               by_cases c59 : a2 < 0
               ·rw [if_pos c59] at H
                have c59b0 : decide (a2 < 0) = true := decide_eq_true c59
                clear c59
                (first | rw [c59b0] | (simp only [i64_w, i32_w]; rw [c59b0]) | skip)
                have H' := zA1.mk H
                clear H
                go_wp2
                go_meet
                case rel => exact ⟨_, (true), (by first | rfl | (simp; done) | (simp [*]; done)), H', ⟨by have := HJ3.out; have := HJ16.out; have := HJ36.out; have := HK4.out; first | omega | exact Nat.le_refl _⟩, ⟨by (with_reducible repeat (first | apply Kd.zAk | apply Kd.zAj | apply Kd.zAt)); exact Kd.zCc HO_12.out (fun _ hk => trivial)⟩, ⟨by repeat (first | (with_reducible first | exact HB.out | apply zA2 | apply zA0 | apply zA3) | exact HB.out)⟩⟩
               ·rw [if_neg c59] at H
                have c59b0 : decide (a2 < 0) = false := decide_eq_false c59
                clear c59
                (first | rw [c59b0] | (simp only [i64_w, i32_w]; rw [c59b0]) | skip)
                have H' := zA1.mk H
                clear H
                go_wp2
                go_meet
                case rel => exact ⟨_, (decide (a2 ≥ (l0.length : Int))), (by first | rfl | (simp; done) | (simp [*]; done)), H', ⟨by have := HJ3.out; have := HJ16.out; have := HJ36.out; have := HK4.out; first | omega | exact Nat.le_refl _⟩, ⟨by (with_reducible repeat (first | apply Kd.zAk | apply Kd.zAj | apply Kd.zAt)); exact Kd.zCc HO_12.out (fun _ hk => trivial)⟩, ⟨by repeat (first | (with_reducible first | exact HB.out | apply zA2 | apply zA0 | apply zA3) | exact HB.out)⟩⟩
              case rest =>
               clear HC58
               try clear c1
               try clear c2
               try clear p2
               try clear c3
               try clear c4
               try clear c5
               try clear p5
               try clear q5
               try clear hx5
               try clear c6
               try clear p6
               try clear c8
               try clear c10
               try clear c22
               try clear c22b0
               try clear c22b1
               try clear c23
               try clear c23b0
               try clear c23b1
               try clear c24
               try clear c24b0
               try clear c24b1
               try clear c25
               try clear c25b0
               try clear c25b1
               try clear c26
               try clear c27
               try clear c28
               try clear c29
               try clear c31
               try clear c35
               try clear c36
               try clear c36b0
               try clear c36b1
               try clear c38
               try clear c38b0
               try clear c38b1
               try clear c38b2
               try clear c46
               try clear c47
               try clear c47b0
               try clear c48
               try clear c48b0
               try clear c49
               try clear c49b0
               try clear c51
               try clear c51b0
               try clear c51b1
               try clear p58
               try clear q58
               try clear hx58
               try clear c59
               try clear c59b0
               try clear hx585_0
               try clear p2
               try clear p585
               try clear p6
               try clear q585
               obtain ⟨kq, x114_57, rfl, HA, HJ57, HO_12, HB⟩ := hcut
               cases kq with
               | zero => exact absurd HA.out (by simp [zA4.j4])
               | succ kj57 =>
                have H := HA.out
                clear HA
                simp only [zA4.j4] at H
                by_cases c60 : x114_57 = true
                ·subst c60
                 have H1 : (if (t572.length : Int) = 0 then (some (t573 == 10)) else (some false)) = some r := by rw [if_pos rfl] at H; exact H
                 clear H
                 have H := H1
                 clear H1
                 by_cases c61 : (t572.length : Int) = 0
                 ·rw [if_pos c61] at H
                  have c61b0 : ((t572.length : Int) == 0) = true := beq_iff_eq.mpr c61
                  have c61b1 : ((t572.length : Int) != 0) = false := bne_eq_false_iff_eq.mpr c61
                  clear c61
                  obtain rfl := Option.some.inj H
                  obtain ⟨Ao62, co62, eo62⟩ := Kd.zCe HO_12.out
                  subst eo62
                  go_wp2
                  go_ret
                  exact ⟨by first | rfl | (simp [zAx, zAw] <;> rfl) | (simp [*, zAx, zAw] <;> rfl), by repeat (first | (with_reducible first | exact HB.out | apply zA2 | apply zA0 | apply zA3) | exact HB.out)⟩
                 ·rw [if_neg c61] at H
                  have c61b0 : ((t572.length : Int) == 0) = false := beq_eq_false_iff_ne.mpr c61
                  have c61b1 : ((t572.length : Int) != 0) = true := bne_iff_ne.mpr c61
                  have c61b2 : ¬ (t572 = []) := fun h_ => c61 (by rw [h_]; rfl)
                  obtain rfl := Option.some.inj H
                  obtain ⟨Ao63, co63, eo63⟩ := Kd.zCe HO_12.out
                  subst eo63
                  go_wp2
                  go_ret
                  exact ⟨by first | rfl | (simp [zAx, zAw] <;> rfl) | (simp [*, zAx, zAw] <;> rfl), by repeat (first | (with_reducible first | exact HB.out | apply zA2 | apply zA0 | apply zA3) | exact HB.out)⟩
                ·replace c60 := Bool.eq_false_iff.mpr c60
                 subst c60
                 have H1 : ((zB8.f kj57 l0 a2).bind fun t587 => ((zAo.f kj57 t572 t587).bind fun t590 => (if t590 = true then (some (t573 == 0)) else (some false)))) = some r := by rw [if_neg (show ¬ (false = true) by decide)] at H; exact H
                 clear H
                 have H := H1
                 clear H1
                 replace H := Option.bind_eq_some_iff.mp H
                 obtain ⟨t587, A640, H⟩ := H
                 replace H : ((zAo.f kj57 t572 t587).bind fun t590 => (if t590 = true then (some (t573 == 0)) else (some false))) = some r := H
                 have A64 := zA1.mk A640
                 clear A640
                 replace H := Option.bind_eq_some_iff.mp H
                 obtain ⟨t590, A650, H⟩ := H
                 replace H : (if t590 = true then (some (t573 == 0)) else (some false)) = some r := H
                 have A65 := zA1.mk A650
                 clear A650
                 by_cases c66 : t590 = true
                 ·subst c66
                  have H1 : (some (t573 == 0)) = some r := by rw [if_pos rfl] at H; exact H
                  clear H
                  have H := H1
                  clear H1
                  obtain rfl := Option.some.inj H
                  go_wp2_with (first | ((with_reducible refine zB1 (f := 32) rfl ?_); refine zC2 (some 125) rfl rfl Tryd.func32 (by kernel_rfl) rfl #[.slice A0 l0.length c0, .int .i64 a2] rfl (by (try simp only [List.map_toArray, List.map_cons, List.map_nil]); first | done | rfl | (simp only [List.length_drop, List.length_take]; rfl)) ?_; (with_reducible refine (zB8.calls kj57 (fun k_ => k_ < w.heap.size) _ _ l0 a2 t587 _ ?side1 A64.out).mono ?_); (case side1 => exact Kd.V_mk HC0.out (Kd.F_below (Kd.C_F k57_heap HR0.out) (by repeat (first | (with_reducible first | exact HB.out | apply zA2 | apply zA0 | apply zA3) | exact HB.out)))); rintro e w67 ⟨v588, rfl, ho0, hb⟩; refine ⟨_, rfl, ?_⟩; have n0_ := zA1.mk (Kd.zCa (by (with_reducible repeat (first | apply Kd.zAk | apply Kd.zAj | apply Kd.zAt)); exact HO_12.out) hb); have n1_ := zA1.mk (Kd.V_lower (Kd.V_mono (ok' := fun k_ => some k_ ≠ (v574 : Value).ownBlock) ho0 (fun k_ hk_ => Or.elim hk_ (fun hs_ => fun e_ => Nat.not_le.2 hs_ (Kd.R_base HO_12.out k_ e_.symm)) (fun hn_ => (Kd.fresh' (Kd.R_lt (by (with_reducible repeat (first | apply Kd.zAk | apply Kd.zAj | apply Kd.zAt)); exact HO_12.out)) k_ hn_)))) (zAc (by repeat (first | (with_reducible first | exact HB.out | apply zA2 | apply zA0 | apply zA3) | exact HB.out)))); have n2_ := zA1.mk (zAm (by repeat (first | (with_reducible first | exact HB.out | apply zA2 | apply zA0 | apply zA3) | exact HB.out)) hb); clear HO_12; clear HB; have HO_12 := n0_; have HO589 := n1_; have HB := n2_; clear n0_ n1_ n2_; (try clear hb); (try clear hb2); (try clear hk); (try clear hi); (try clear ho0); obtain ⟨Ao68, co68, eo68⟩ := Kd.zCe HO_12.out; subst eo68; obtain ⟨Ao69, co69, eo69⟩ := Kd.V_slice HO589.out; subst eo69) | ((with_reducible refine zB1 (f := 14) rfl ?_); refine zC2 (some 126) rfl rfl Tryd.func14 (by kernel_rfl) rfl #[.slice Ao68 t572.length co68, .slice Ao69 t587.length co69] rfl (by (try simp only [List.map_toArray, List.map_cons, List.map_nil]); first | done | rfl | (simp only [List.length_drop, List.length_take]; rfl)) ?_; (with_reducible refine (zAo.calls kj57 _ _ t572 _ _ t587 true _ ?side1 ?side2 ?side3 ?side4 A65.out).mono ?_); (case side1 => repeat (first | exact (Kd.zBd HO_12.out).2.2 | (with_reducible refine Kd.zA8 ?_ _) | (with_reducible refine Kd.zAd ?_ _) | (with_reducible refine Kd.zAp ?_))); (case side2 => exact (Kd.zBd HO_12.out).2.1); (case side3 => repeat (first | exact (Kd.V_reads' HO589.out).2.2 | (with_reducible refine Kd.zA8 ?_ _) | (with_reducible refine Kd.zAd ?_ _) | (with_reducible refine Kd.zAp ?_))); (case side4 => exact (Kd.V_reads' HO589.out).2.1); rintro e w' ⟨rfl, ⟨nd, rfl⟩⟩; refine ⟨_, rfl, ?_⟩))
                  go_ret
                  exact ⟨by first | rfl | (simp [zAx, zAw] <;> rfl) | (simp [*, zAx, zAw] <;> rfl), by repeat (first | (with_reducible first | exact HB.out | apply zA2 | apply zA0 | apply zA3) | exact HB.out)⟩
                 ·replace c66 := Bool.eq_false_iff.mpr c66
                  subst c66
                  have H1 : (some false) = some r := by rw [if_neg (show ¬ (false = true) by decide)] at H; exact H
                  clear H
                  have H := H1
                  clear H1
                  obtain rfl := Option.some.inj H
                  go_wp2_with (first | ((with_reducible refine zB1 (f := 32) rfl ?_); refine zC2 (some 125) rfl rfl Tryd.func32 (by kernel_rfl) rfl #[.slice A0 l0.length c0, .int .i64 a2] rfl (by (try simp only [List.map_toArray, List.map_cons, List.map_nil]); first | done | rfl | (simp only [List.length_drop, List.length_take]; rfl)) ?_; (with_reducible refine (zB8.calls kj57 (fun k_ => k_ < w.heap.size) _ _ l0 a2 t587 _ ?side1 A64.out).mono ?_); (case side1 => exact Kd.V_mk HC0.out (Kd.F_below (Kd.C_F k57_heap HR0.out) (by repeat (first | (with_reducible first | exact HB.out | apply zA2 | apply zA0 | apply zA3) | exact HB.out)))); rintro e w70 ⟨v588, rfl, ho0, hb⟩; refine ⟨_, rfl, ?_⟩; have n0_ := zA1.mk (Kd.zCa (by (with_reducible repeat (first | apply Kd.zAk | apply Kd.zAj | apply Kd.zAt)); exact HO_12.out) hb); have n1_ := zA1.mk (Kd.V_lower (Kd.V_mono (ok' := fun k_ => some k_ ≠ (v574 : Value).ownBlock) ho0 (fun k_ hk_ => Or.elim hk_ (fun hs_ => fun e_ => Nat.not_le.2 hs_ (Kd.R_base HO_12.out k_ e_.symm)) (fun hn_ => (Kd.fresh' (Kd.R_lt (by (with_reducible repeat (first | apply Kd.zAk | apply Kd.zAj | apply Kd.zAt)); exact HO_12.out)) k_ hn_)))) (zAc (by repeat (first | (with_reducible first | exact HB.out | apply zA2 | apply zA0 | apply zA3) | exact HB.out)))); have n2_ := zA1.mk (zAm (by repeat (first | (with_reducible first | exact HB.out | apply zA2 | apply zA0 | apply zA3) | exact HB.out)) hb); clear HO_12; clear HB; have HO_12 := n0_; have HO589 := n1_; have HB := n2_; clear n0_ n1_ n2_; (try clear hb); (try clear hb2); (try clear hk); (try clear hi); (try clear ho0); obtain ⟨Ao71, co71, eo71⟩ := Kd.zCe HO_12.out; subst eo71; obtain ⟨Ao72, co72, eo72⟩ := Kd.V_slice HO589.out; subst eo72) | ((with_reducible refine zB1 (f := 14) rfl ?_); refine zC2 (some 126) rfl rfl Tryd.func14 (by kernel_rfl) rfl #[.slice Ao71 t572.length co71, .slice Ao72 t587.length co72] rfl (by (try simp only [List.map_toArray, List.map_cons, List.map_nil]); first | done | rfl | (simp only [List.length_drop, List.length_take]; rfl)) ?_; (with_reducible refine (zAo.calls kj57 _ _ t572 _ _ t587 false _ ?side1 ?side2 ?side3 ?side4 A65.out).mono ?_); (case side1 => repeat (first | exact (Kd.zBd HO_12.out).2.2 | (with_reducible refine Kd.zA8 ?_ _) | (with_reducible refine Kd.zAd ?_ _) | (with_reducible refine Kd.zAp ?_))); (case side2 => exact (Kd.zBd HO_12.out).2.1); (case side3 => repeat (first | exact (Kd.V_reads' HO589.out).2.2 | (with_reducible refine Kd.zA8 ?_ _) | (with_reducible refine Kd.zAd ?_ _) | (with_reducible refine Kd.zAp ?_))); (case side4 => exact (Kd.V_reads' HO589.out).2.1); rintro e w' ⟨rfl, ⟨nd, rfl⟩⟩; refine ⟨_, rfl, ?_⟩))
                  go_ret
                  exact ⟨by first | rfl | (simp [zAx, zAw] <;> rfl) | (simp [*, zAx, zAw] <;> rfl), by repeat (first | (with_reducible first | exact HB.out | apply zA2 | apply zA0 | apply zA3) | exact HB.out)⟩
       ·rw [if_neg c36] at H
        have c36b0 : (t563 == 0) = false := beq_eq_false_iff_ne.mpr c36
        have c36b1 : (t563 != 0) = true := bne_iff_ne.mpr c36
        by_cases c73 : (wrap64 ((wrap64 ((t564.length : Int) + (t568.length : Int))) + (t572.length : Int))) = 0
        ·rw [if_pos c73] at H
         have c73b0 : ((wrap64 ((wrap64 ((t564.length : Int) + (t568.length : Int))) + (t572.length : Int))) == 0) = true := beq_iff_eq.mpr c73
         have c73b1 : ((wrap64 ((wrap64 ((t564.length : Int) + (t568.length : Int))) + (t572.length : Int))) != 0) = false := bne_eq_false_iff_eq.mpr c73
         clear c73
         obtain rfl := Option.some.inj H
         obtain ⟨Ao74, co74, eo74⟩ := Kd.zCe HO_8.out
         subst eo74
         obtain ⟨Ao75, co75, eo75⟩ := Kd.zCe HO_10.out
         subst eo75
         obtain ⟨Ao76, co76, eo76⟩ := Kd.zCe HO_12.out
         subst eo76
         go_wp2
         go_ret
         exact ⟨by first | rfl | (simp [zAx, zAw] <;> rfl) | (simp [*, zAx, zAw] <;> rfl), by repeat (first | (with_reducible first | exact HB.out | apply zA2 | apply zA0 | apply zA3) | exact HB.out)⟩
        ·rw [if_neg c73] at H
         have c73b0 : ((wrap64 ((wrap64 ((t564.length : Int) + (t568.length : Int))) + (t572.length : Int))) == 0) = false := beq_eq_false_iff_ne.mpr c73
         have c73b1 : ((wrap64 ((wrap64 ((t564.length : Int) + (t568.length : Int))) + (t572.length : Int))) != 0) = true := bne_iff_ne.mpr c73
         obtain rfl := Option.some.inj H
         obtain ⟨Ao77, co77, eo77⟩ := Kd.zCe HO_8.out
         subst eo77
         obtain ⟨Ao78, co78, eo78⟩ := Kd.zCe HO_10.out
         subst eo78
         obtain ⟨Ao79, co79, eo79⟩ := Kd.zCe HO_12.out
         subst eo79
         go_wp2
         go_ret
         exact ⟨by first | rfl | (simp [zAx, zAw] <;> rfl) | (simp [*, zAx, zAw] <;> rfl), by repeat (first | (with_reducible first | exact HB.out | apply zA2 | apply zA0 | apply zA3) | exact HB.out)⟩
end
end Go.Proofs.YtbghfbhlbfcloaaDoor.PL
