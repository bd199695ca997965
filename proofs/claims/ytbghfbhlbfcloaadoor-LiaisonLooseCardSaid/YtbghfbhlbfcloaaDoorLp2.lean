/- Put together by this session's program pack.py. -/
import Derived.Below
import Derived.Deep.Draws
import Derived.Deep.AppendLies
import Derived.Maps.AppendAt
import Derived.OwnWalk
import Derived.Laws.BytesArg
import Derived.Laws.MakeOwn
import Derived.Laws.OwnMore
import Derived.Deep.OwnRows
import Derived.Tactics
import Derived.Lib.ConvBytes
import Derived.Laws.Slices
import Derived.WalkKit
import Derived.KernelRfl
import Derived.RowKit3
import Derived.Deep.LoopGhost
import Derived.Deep.QuietTactic
import Derived.BigQuiet
import Derived.WideLaws
import Derived.Deep.DeepCutAuto
import Derived.Deep.CutBlock
import Derived.Deep.RegionHeld3
import Derived.Laws.Rows
import Derived.Lib.AppendStr
import Derived.ArgAppend
import Derived.Laws.IdiomCopy
import Derived.OrdersHeld
import Derived.Laws.BitsLemmas
import Derived.RowKit
import Derived.Sort.Grow
import Derived.Shelf.SlSortCmp.InsertionK
import Derived.WalkSpells
import Derived.Shelf.SlSortCmp.NoneTotal
import Derived.Shelf.SlGeneric
import Derived.Ground.SlsfProg
import Derived.RangeFuncNested
import Derived.RangeFuncBound
import Derived.RangeFuncCalls
import Derived.RangeFuncLeaves
import Derived.Shelf.Abstract
import Derived.Shelf.RegionOpen
import Derived.OwnWalkIn
import Derived.TacticsInMore
import Derived.LoopNIn
import Derived.LoopIn
import Derived.OrdersIn
import Derived.RangeFuncKeeps
import Derived.RangeFuncWrites
import Derived.Shelf.SlicesQ.IndexFunc
import Derived.Shelf.GgClosure.StringsIndexFuncTop
import Derived.Ground.SlgfProg
import Derived.Ground.GgwProg
import Derived.Laws.RangeAny
import Derived.Laws.RangeString
import Derived.Test.YtbghfbhlbfcloaaDoorLw0
import Derived.Test.YtbghfbhlbfcloaaDoorLp0
import Derived.Test.YtbghfbhlbfcloaaDoorLp1
namespace Go.Proofs.YtbghfbhlbfcloaaDoor.PL
section
set_option linter.unusedVariables false
set_option linter.unusedSimpArgs false
open Go.RowKit Go.Proofs.YtbghfbhlbfcloaaDoorW.PrintWords Go.Proofs.YtbghfbhlbfcloaaDoorW.PrintLast Go.Proofs.YtbghfbhlbfcloaaDoorW.PrintMore

/-! ### the pairs -/
def tb (x : Int) (j : Nat) : Bool := decide (Go.bits .and .u16 (shr .u16 x (j : Int)) 1 = 1)
def row (t : Nat → Bool) (x4 x5 x6 : Nat) : Nat → List S68
 | 0 => []
 | c + 1 => (if t x4 = true then [⟨(x6 : Int), (x5 : Int)⟩, ⟨(x5 : Int), (x6 : Int)⟩] else []) ++ row t (x4 + 1) x5 (x6 + 1) c
theorem row_len (t : Nat → Bool) : ∀ (c x4 x5 x6 : Nat), (row t x4 x5 x6 c).length ≤ 2 * c
 | 0, _, _, _ => by simp [row]
 | c + 1, x4, x5, x6 => by
  have := row_len t c (x4 + 1) x5 (x6 + 1)
  unfold row
  rw [List.length_append]
  split
  ·simp only [List.length_cons, List.length_nil]; omega
  ·simp only [List.length_nil]; omega
theorem pairs_l1 (x0 : Int) (x5 : Nat) (h5 : x5 < 10) : ∀ (c x4 x6 : Nat) (x3 : List S68), x6 + c = x5 → x4 + c < 100 → x3.length + 2 * c < 1000 → ∀ k, c < k →
  dowellaw29_pairs.l1 k x0 x3 (x4 : Int) (x5 : Int) (x6 : Int) = dowellaw29_pairs.l0 (k - c - 1) x0 (x3 ++ row (tb x0) x4 x5 x6 c) ((x4 + c : Nat) : Int) ((x5 + 1 : Nat) : Int)
 | 0, x4, x6, x3, he, h4, h3, k, hk => by
  obtain ⟨k, rfl⟩ : ∃ q, k = q + 1 := ⟨k - 1, by omega⟩
  rw [dowellaw29_pairs.l1, if_neg (by omega), wr1 x5 (by omega)]
  simp [row]
 | c + 1, x4, x6, x3, he, h4, h3, k, hk => by
  obtain ⟨k, rfl⟩ : ∃ q, k = q + 1 := ⟨k - 1, by omega⟩
  rw [dowellaw29_pairs.l1, if_pos (by omega), if_pos (by omega), wr1 x4 (by omega), wr1 x6 (by omega)]
  have e : k + 1 - (c + 1) - 1 = k - c - 1 := by omega
  have e2 : x4 + 1 + c = x4 + (c + 1) := by omega
  by_cases ht : Go.bits .and .u16 (shr .u16 x0 (x4 : Int)) 1 = 1
  ·have htb : tb x0 x4 = true := decide_eq_true ht
   rw [if_pos ht, Option.bind_some, if_pos (by simp; omega)]
   have ih := pairs_l1 x0 x5 h5 c (x4 + 1) (x6 + 1) (x3 ++ [⟨(x6 : Int), (x5 : Int)⟩, ⟨(x5 : Int), (x6 : Int)⟩]) (by omega) (by omega) (by simp; omega) k (by omega)
   rw [ih, row, if_pos htb, List.append_assoc, e, e2]
  ·have htb : tb x0 x4 = false := decide_eq_false ht
   rw [if_neg ht]
   have ih := pairs_l1 x0 x5 h5 c (x4 + 1) (x6 + 1) x3 (by omega) (by omega) (by omega) k (by omega)
   rw [ih, row, htb, if_neg (by decide), e, e2]
   rfl
def U (t : Nat → Bool) : List S68 := row t 0 1 0 1 ++ row t 1 2 0 2 ++ row t 3 3 0 3 ++ row t 6 4 0 4 ++ row t 10 5 0 5
theorem U_len (t : Nat → Bool) : (U t).length ≤ 30 := by
 have h1 := row_len t 1 0 1 0
 have h2 := row_len t 2 1 2 0
 have h3 := row_len t 3 3 3 0
 have h4 := row_len t 4 6 4 0
 have h5 := row_len t 5 10 5 0
 unfold U
 simp only [List.length_append]
 omega
theorem pairs_make (x0 : Int) (k : Nat) (hk : 60 ≤ k) : dowellaw29_pairs.f k x0 = (graph_Make.f 6 (U (tb x0))).bind fun t => some (t.1, t.2.1) := by
 obtain ⟨k, rfl⟩ : ∃ q, k = q + 60 := ⟨k - 60, by omega⟩
 have h1 := row_len (tb x0) 1 0 1 0
 have h2 := row_len (tb x0) 2 (0 + 1) (1 + 1) 0
 have h3 := row_len (tb x0) 3 (0 + 1 + 2) (1 + 1 + 1) 0
 have h4 := row_len (tb x0) 4 (0 + 1 + 2 + 3) (1 + 1 + 1 + 1) 0
 have st (k x3 x4 x5) (h : x5 < 6) : dowellaw29_pairs.l0 (k + 1) x0 x3 (x4 : Int) ((x5 : Nat) : Int) = dowellaw29_pairs.l1 k x0 x3 x4 ((x5 : Nat) : Int) ((0 : Nat) : Int) := by
  rw [dowellaw29_pairs.l0, if_pos (by omega)]
  rfl
 have e0 : dowellaw29_pairs.f (k + 60) x0 = dowellaw29_pairs.l0 (k + 60) x0 [] ((0 : Nat) : Int) ((1 : Nat) : Int) := rfl
 rw [e0, st _ _ _ 1 (by omega), pairs_l1 x0 1 (by omega) 1 0 0 [] (by omega) (by omega) (by simp) _ (by omega)]
 rw [show k + 59 - 1 - 1 = (k + 56) + 1 by omega, st _ _ _ (1 + 1) (by omega), pairs_l1 x0 (1 + 1) (by omega) 2 (0 + 1) 0 _ (by omega) (by omega) (by simp; omega) _ (by omega)]
 rw [show k + 56 - 2 - 1 = (k + 52) + 1 by omega, st _ _ _ (1 + 1 + 1) (by omega), pairs_l1 x0 (1 + 1 + 1) (by omega) 3 (0 + 1 + 2) 0 _ (by omega) (by omega) (by simp only [List.length_append, List.nil_append]; omega) _ (by omega)]
 rw [show k + 52 - 3 - 1 = (k + 47) + 1 by omega, st _ _ _ (1 + 1 + 1 + 1) (by omega), pairs_l1 x0 (1 + 1 + 1 + 1) (by omega) 4 (0 + 1 + 2 + 3) 0 _ (by omega) (by omega) (by simp only [List.length_append, List.nil_append]; omega) _ (by omega)]
 rw [show k + 47 - 4 - 1 = (k + 41) + 1 by omega, st _ _ _ (1 + 1 + 1 + 1 + 1) (by omega), pairs_l1 x0 (1 + 1 + 1 + 1 + 1) (by omega) 5 (0 + 1 + 2 + 3 + 4) 0 _ (by omega) (by omega) (by simp only [List.length_append, List.nil_append]; omega) _ (by omega)]
 rw [show k + 41 - 5 - 1 = (k + 34) + 1 by omega, dowellaw29_pairs.l0, if_neg (by decide)]
 rfl
theorem row_sub (t : Nat → Bool) : ∀ (c x4 x5 x6 : Nat), (row t x4 x5 x6 c).Sublist (row (fun _ => true) x4 x5 x6 c)
 | 0, _, _, _ => List.Sublist.refl _
 | c + 1, x4, x5, x6 => by
  unfold row
  refine List.Sublist.append ?_ (row_sub t c _ _ _)
  split
  ·exact List.Sublist.refl _
  ·exact List.nil_sublist _
theorem U_sub (t : Nat → Bool) : (U t).Sublist (U fun _ => true) := by
 unfold U
 exact List.Sublist.append (List.Sublist.append (List.Sublist.append (List.Sublist.append (row_sub t _ _ _ _) (row_sub t _ _ _ _)) (row_sub t _ _ _ _)) (row_sub t _ _ _ _)) (row_sub t _ _ _ _)
theorem U_full : (nodupE (U fun _ => true) && (U fun _ => true).all (okE 6) && (U fun _ => true).all (fun e => !(e.f0 == e.f1))) = true := by kernel_rfl
theorem nodupE_of : ∀ l : List S68, (l.Pairwise fun a b => ¬ (a.f0 = b.f0 ∧ a.f1 = b.f1)) → nodupE l = true
 | [], _ => rfl
 | a :: r, h => by
  unfold nodupE
  rw [nodupE_of r (List.Pairwise.of_cons h), Bool.and_true, List.all_eq_true]
  intro b hb
  have h1 := List.rel_of_pairwise_cons h hb
  simp only [Bool.not_eq_true', Bool.and_eq_false_iff, beq_eq_false_iff_ne]
  by_cases e : a.f0 = b.f0
  ·exact .inr (fun e2 => h1 ⟨e, e2⟩)
  ·exact .inl e
theorem U_nodup (t : Nat → Bool) : nodupE (U t) = true := by
 have h := U_full
 simp only [Bool.and_eq_true] at h
 exact nodupE_of _ ((nodupE_pair _ h.1.1).sublist (U_sub t))
theorem U_ok (t : Nat → Bool) : (U t).all (okE 6) = true := by
 have h := U_full
 simp only [Bool.and_eq_true] at h
 exact List.all_eq_true.2 fun e he => List.all_eq_true.1 h.1.2 e ((U_sub t).subset he)
theorem U_loop (t : Nat → Bool) (e : S68) (he : e ∈ U t) : e.f0 ≠ e.f1 := by
 have h := U_full
 simp only [Bool.and_eq_true] at h
 have := List.all_eq_true.1 h.2 e ((U_sub t).subset he)
 simpa using this
theorem row_sym (t : Nat → Bool) (a b : Int) : ∀ (c x4 x5 x6 : Nat), (⟨a, b⟩ : S68) ∈ row t x4 x5 x6 c → (⟨b, a⟩ : S68) ∈ row t x4 x5 x6 c
 | 0, _, _, _, h => by simp [row] at h
 | c + 1, x4, x5, x6, h => by
  unfold row at h ⊢
  rw [List.mem_append] at h ⊢
  rcases h with h | h
  ·split at h
   ·rename_i ht
    rw [if_pos ht]
    simp only [List.mem_cons, List.not_mem_nil, or_false, S68.mk.injEq] at h ⊢
    rcases h with ⟨rfl, rfl⟩ | ⟨rfl, rfl⟩ <;> simp
   ·simp at h
  ·exact .inr (row_sym t a b c _ _ _ h)
theorem U_sym (t : Nat → Bool) (a b : Int) (h : (⟨a, b⟩ : S68) ∈ U t) : (⟨b, a⟩ : S68) ∈ U t := by
 unfold U at h ⊢
 simp only [List.mem_append] at h ⊢
 rcases h with (((h | h) | h) | h) | h
 ·exact .inl (.inl (.inl (.inl (row_sym t a b _ _ _ _ h))))
 ·exact .inl (.inl (.inl (.inr (row_sym t a b _ _ _ _ h))))
 ·exact .inl (.inl (.inr (row_sym t a b _ _ _ _ h)))
 ·exact .inl (.inr (row_sym t a b _ _ _ _ h))
 ·exact .inr (row_sym t a b _ _ _ _ h)
/-- The graph's edges. -/
def Eg (t : Nat → Bool) : List S68 := sortE (U t)
theorem make_f (t : Nat → Bool) : graph_Make.f 6 (U t) = some (6, Eg t, 0) := by
 have hl := U_len t
 show MK.f 6 (U t) = _
 unfold MK.f
 rw [if_pos ⟨by decide, by decide, U_ok t, by omega, U_nodup t⟩]
 rfl
theorem pairs_f (x0 : Int) (k : Nat) (hk : 60 ≤ k) : dowellaw29_pairs.f k x0 = some (6, Eg (tb x0)) := by
 rw [pairs_make x0 k hk, make_f]
 rfl
theorem Eg_mem (t : Nat → Bool) (e : S68) : e ∈ Eg t ↔ e ∈ U t := (isort_perm (leC ordE) (U t)).mem_iff
theorem Eg_len (t : Nat → Bool) : (Eg t).length ≤ 30 := by
 have := (isort_perm (leC ordE) (U t)).length_eq
 have h := U_len t
 unfold Eg sortE
 omega

/-! ### graph.Check, liaison.Check -/
theorem ordE_of {x y : S68} (h : ¬ ordE y x < 0) (hne : ¬ (x.f0 = y.f0 ∧ x.f1 = y.f1)) : ordE x y < 0 := by
 unfold ordE at h ⊢
 split at h <;> (try split at h) <;> (try split at h) <;> (try split at h) <;> split <;> (try split) <;> (try split) <;> (try split) <;> omega
theorem Eg_pair (t : Nat → Bool) : (Eg t).Pairwise fun x y => ordE x y < 0 := by
 have ht : ∀ a b c, leC ordE a b = true → leC ordE b c = true → leC ordE a c = true := by
  intro a b c h1 h2
  have := ordE_swo.ntrans c b a (by simpa [leC, ltOf] using h2) (by simpa [leC, ltOf] using h1)
  simpa [leC, ltOf] using this
 have htot : ∀ a b, (leC ordE a b || leC ordE b a) = true := by
  intro a b
  have l1 := ordE_lt a b
  have l2 := ordE_lt b a
  unfold ltOf at l1 l2
  unfold leC
  rw [l1, l2]
  by_cases h1 : (a.f0 < b.f0 ∨ a.f0 = b.f0 ∧ a.f1 < b.f1)
  ·rw [decide_eq_true h1, decide_eq_false (by omega)]; rfl
  ·rw [decide_eq_false h1]; simp
 have h1 := isort_pair (leC ordE) ht htot (U t)
 have h2 : (isort (leC ordE) (U t)).Pairwise fun a b => ¬ (a.f0 = b.f0 ∧ a.f1 = b.f1) :=
  ((isort_perm (leC ordE) (U t)).pairwise_iff (fun h e => h ⟨e.1.symm, e.2.symm⟩)).2 (nodupE_pair _ (U_nodup t))
 exact (h1.and h2).imp fun h => ordE_of (by simpa [leC] using h.1) h.2
theorem Eg_ok (t : Nat → Bool) (e : S68) (he : e ∈ Eg t) : 0 ≤ e.f0 ∧ e.f0 < 6 ∧ 0 ≤ e.f1 ∧ e.f1 < 6 := by
 have h := List.all_eq_true.1 (U_ok t) e ((Eg_mem t e).1 he)
 simp only [okE, Bool.and_eq_true, decide_eq_true_eq] at h
 exact ⟨h.1.1, h.1.2, h.2.1, h.2.2⟩
theorem check_l0 (E : List S68) (hE : ∀ e ∈ E, 0 ≤ e.f0 ∧ e.f0 < 6 ∧ 0 ≤ e.f1 ∧ e.f1 < 6) (hl : E.length < 1000) : ∀ (c i : Nat), i + c = E.length → ∀ k, c < k → graph_Check.l0 k E (E.length : Int) (i : Int) 6 E = graph_Check.l1 (k - c - 1) 1 6 E
 | 0, i, hi, k, hk => by
  obtain ⟨k, rfl⟩ : ∃ q, k = q + 1 := ⟨k - 1, by omega⟩
  rw [graph_Check.l0, if_neg (by omega)]
  rfl
 | c + 1, i, hi, k, hk => by
  obtain ⟨k, rfl⟩ : ∃ q, k = q + 1 := ⟨k - 1, by omega⟩
  have h := hE E[i] (List.getElem_mem (by omega))
  have hb : ∀ z : Int, 0 ≤ z → z < 6 → graph_beyond.f 6 z = some false := by
   intro z h0 h1
   unfold graph_beyond.f
   rw [if_neg (by omega), decide_eq_false (by omega)]
  rw [graph_Check.l0, if_pos (by omega), if_pos (by omega), if_pos (by omega), rdE E i (by omega), hb _ h.1 h.2.1, Option.bind_some, if_neg (by decide), hb _ h.2.2.1 h.2.2.2, Option.bind_some, if_neg (by decide), wr1 i (by omega), check_l0 E hE hl c (i + 1) (by omega) k (by omega), show k + 1 - (c + 1) - 1 = k - c - 1 by omega]
theorem wm1 (i : Nat) (h : i < 1000000) : wrap64 (((i + 1 : Nat) : Int) - 1) = (i : Int) := by unfold wrap64; omega
theorem check_l1 (E : List S68) (hE : E.Pairwise fun x y => ordE x y < 0) (hl : E.length < 1000) : ∀ (c i : Nat), i + 1 + c = E.length ∨ (c = 0 ∧ E.length ≤ i + 1) → ∀ k, c + 5 < k → graph_Check.l1 k ((i + 1 : Nat) : Int) 6 E = some 0
 | 0, i, hi, k, hk => by
  obtain ⟨k, rfl⟩ : ∃ q, k = q + 1 := ⟨k - 1, by omega⟩
  rw [graph_Check.l1, if_neg (by omega)]
 | c + 1, i, hi, k, hk => by
  have hlt : i + 1 < E.length := by omega
  obtain ⟨k, rfl⟩ : ∃ q, k = q + 5 := ⟨k - 5, by omega⟩
  have h := List.pairwise_iff_getElem.1 hE i (i + 1) (by omega) hlt (by omega)
  rw [graph_Check.l1, if_pos (by omega), wm1 i (by omega), if_pos (by omega), if_pos (by omega), if_pos (by omega), rdE E i (by omega), rdE E (i + 1) hlt, order_f, Option.bind_some, if_neg (by omega), wr1 (i + 1) (by omega), check_l1 E hE hl c (i + 1) (by omega) (k + 4) (by omega)]
theorem gcheck_f (t : Nat → Bool) (k : Nat) (hk : 100 ≤ k) : graph_Check.f k 6 (Eg t) = some 0 := by
 have hl := Eg_len t
 obtain ⟨k, rfl⟩ : ∃ q, k = q + 1 := ⟨k - 1, by omega⟩
 unfold graph_Check.f
 rw [if_neg (by decide), graph_Check.j0, decide_eq_false (by decide), if_neg (by decide), if_neg (by
  rw [show wrap64 ((6 : Int) * 6) = 36 by simp [wrap64]]; omega)]
 have h0 := check_l0 (Eg t) (Eg_ok t) (by omega) (Eg t).length 0 (by omega) k (by omega)
 have h0' : graph_Check.l0 k (Eg t) ((Eg t).length : Int) 0 6 (Eg t) = graph_Check.l1 (k - (Eg t).length - 1) 1 6 (Eg t) := h0
 rw [h0']
 have h1 := check_l1 (Eg t) (Eg_pair t) (by omega) ((Eg t).length - 1) 0 (by omega) (k - (Eg t).length - 1) (by omega)
 exact h1
theorem e93_l (E : List S68) (a b : Int) (hl : E.length < 1000) : ∀ (c i : Nat), i + c = E.length → (⟨a, b⟩ : S68) ∈ E.drop i → ∀ k, c < k → ∃ r : Nat, graph_Edge_93.l0 k E (E.length : Int) (i : Int) a b = some (r : Int)
 | 0, i, hi, hm, k, hk => by rw [List.drop_eq_nil_of_le (by omega)] at hm; simp at hm
 | c + 1, i, hi, hm, k, hk => by
  obtain ⟨k, rfl⟩ : ∃ q, k = q + 1 := ⟨k - 1, by omega⟩
  have hlt : i < E.length := by omega
  rw [graph_Edge_93.l0, if_pos (by omega), if_pos (by omega), if_pos (by omega), rdE E i hlt]
  by_cases he : (a == E[i].f0 && (b == E[i].f1)) = true
  ·rw [if_pos he]
   exact ⟨i, rfl⟩
  ·rw [if_neg he, wr1 i (by omega)]
   refine e93_l E a b hl c (i + 1) (by omega) ?_ k (by omega)
   rw [List.drop_eq_getElem_cons hlt] at hm
   rcases List.mem_cons.1 hm with h | h
   ·exfalso
    apply he
    rw [← h]
    simp
   ·exact h
theorem lcheck_l (t : Nat → Bool) : ∀ (c i : Nat), i + c = (Eg t).length → ∀ k, c + 60 < k → liaison_Check.l0 k (Eg t) ((Eg t).length : Int) (i : Int) 6 (Eg t) = some 0
 | 0, i, hi, k, hk => by
  obtain ⟨k, rfl⟩ : ∃ q, k = q + 1 := ⟨k - 1, by omega⟩
  rw [liaison_Check.l0, if_neg (by omega)]
 | c + 1, i, hi, k, hk => by
  obtain ⟨k, rfl⟩ : ∃ q, k = q + 1 := ⟨k - 1, by omega⟩
  have hl := Eg_len t
  have hlt : i < (Eg t).length := by omega
  have hm := List.getElem_mem hlt
  have hloop := U_loop t _ ((Eg_mem t _).1 hm)
  have hsym : (⟨(Eg t)[i].f1, (Eg t)[i].f0⟩ : S68) ∈ Eg t := (Eg_mem t _).2 (U_sym t _ _ ((Eg_mem t _).1 hm))
  obtain ⟨r, hr⟩ := e93_l (Eg t) (Eg t)[i].f1 (Eg t)[i].f0 (by omega) (Eg t).length 0 (by omega) hsym k (by omega)
  have h73 : graph_Edge_73.f k (Eg t) (Eg t)[i].f1 (Eg t)[i].f0 = some true := by
   unfold graph_Edge_73.f graph_Edge_93.f
   rw [show graph_Edge_93.l0 k (Eg t) ((Eg t).length : Int) 0 (Eg t)[i].f1 (Eg t)[i].f0 = some (r : Int) from hr, Option.bind_some, decide_eq_true (by omega)]
  rw [liaison_Check.l0, if_pos (by omega), if_pos (by omega), if_pos (by omega), rdE (Eg t) i hlt, if_neg hloop, h73, Option.bind_some, if_pos rfl, wr1 i (by omega), lcheck_l t c (i + 1) (by omega) k (by omega)]
theorem lcheck_f (t : Nat → Bool) (k : Nat) (hk : 100 ≤ k) : liaison_Check.f k 6 (Eg t) = some 0 := by
 have hl := Eg_len t
 unfold liaison_Check.f
 rw [gcheck_f t k hk, Option.bind_some, if_pos rfl, if_neg (by decide)]
 exact lcheck_l t (Eg t).length 0 (by omega) k (by omega)

/-! ### the masks -/
theorem shl_tab : ((List.range 6).all fun i => shl .u64 1 (i : Int) == ((2 ^ i : Nat) : Int)) = true := by kernel_rfl
theorem shl_f (i : Nat) (hi : i < 6) : shl .u64 1 (i : Int) = ((2 ^ i : Nat) : Int) := by
 have h := List.all_eq_true.1 shl_tab i (List.mem_range.2 hi)
 simpa using h
theorem LI_len {A : List Nat} (h : Gd A) : (LI A).length = 6 := by unfold LI; rw [List.length_map]; exact h.1
theorem ad_set {A : List Nat} (h : Gd A) (i v a b : Nat) (hi : i < 6) : ad (A.set i v) a b = if a = i then v.testBit b else ad A a b := by
 unfold ad
 rw [List.getD_eq_getElem?_getD, List.getD_eq_getElem?_getD, List.getElem?_set]
 have := h.1
 by_cases e : i = a
 ·rw [if_pos e, if_pos e.symm, if_pos (by omega)]; rfl
 ·rw [if_neg e, if_neg (fun e2 => e e2.symm)]
theorem linked_l (E : List S68) (hE : ∀ e ∈ E, 0 ≤ e.f0 ∧ e.f0 < 6 ∧ 0 ≤ e.f1 ∧ e.f1 < 6) (hl : E.length < 1000) : ∀ (c i : Nat) (B : List Nat), i + c = E.length → Gd B → ∀ k, c < k →
  ∃ A, Gd A ∧ liaison_linked.l0 k (LI B) E (E.length : Int) (i : Int) = some (LI A) ∧ ∀ a b, a < 6 → b < 6 → (ad A a b = true ↔ ad B a b = true ∨ (⟨(a : Int), (b : Int)⟩ : S68) ∈ E.drop i)
 | 0, i, B, hi, hB, k, hk => by
  obtain ⟨k, rfl⟩ : ∃ q, k = q + 1 := ⟨k - 1, by omega⟩
  refine ⟨B, hB, by rw [liaison_linked.l0, if_neg (by omega)], fun a b _ _ => ?_⟩
  rw [List.drop_eq_nil_of_le (by omega)]
  simp
 | c + 1, i, B, hi, hB, k, hk => by
  obtain ⟨k, rfl⟩ : ∃ q, k = q + 1 := ⟨k - 1, by omega⟩
  have hlt : i < E.length := by omega
  obtain ⟨h0, h1, h2, h3⟩ := hE E[i] (List.getElem_mem hlt)
  obtain ⟨u, hu⟩ : ∃ u : Nat, E[i].f0 = (u : Int) := ⟨E[i].f0.toNat, by omega⟩
  obtain ⟨v, hv⟩ : ∃ v : Nat, E[i].f1 = (v : Int) := ⟨E[i].f1.toNat, by omega⟩
  have hu6 : u < 6 := by omega
  have hv6 : v < 6 := by omega
  have hBu := hB.lt u
  have h2v : 2 ^ v < 64 := Nat.pow_lt_pow_right (m := v) (n := 6) (by decide) hv6
  have hG : Gd (B.set u (B.getD u 0 ||| 2 ^ v)) := ⟨by rw [List.length_set]; exact hB.1, fun a ha => by
   rcases List.mem_or_eq_of_mem_set ha with h | h
   ·exact hB.2 a h
   ·rw [h]; exact Nat.or_lt_two_pow (n := 6) hBu h2v⟩
  obtain ⟨A, hA, hf, hb⟩ := linked_l E hE hl c (i + 1) (B.set u (B.getD u 0 ||| 2 ^ v)) (by omega) hG k (by omega)
  have hset : (LI B).set u (((B.getD u 0 ||| 2 ^ v : Nat)) : Int) = LI (B.set u (B.getD u 0 ||| 2 ^ v)) := by
   unfold LI
   rw [List.map_set]
  refine ⟨A, hA, ?_, fun a b ha hb' => ?_⟩
  ·rw [liaison_linked.l0, if_pos (by omega), if_pos (by omega), if_pos (by omega), rdE E i hlt, hu, hv, if_pos (by omega), if_pos (by rw [LI_len hB]; omega), if_pos (by omega), rdL hB u hu6, shl_f v hv6, orI _ _ hBu h2v, Int.toNat_natCast, hset, wr1 i (by omega)]
   exact hf
  ·rw [hb a b ha hb', ad_set hB u _ a b hu6, List.drop_eq_getElem_cons hlt, List.mem_cons]
   have heq : (⟨(a : Int), (b : Int)⟩ : S68) = E[i] ↔ a = u ∧ b = v := by
    constructor
    ·intro e
     have e1 : (a : Int) = E[i].f0 := by rw [← e]
     have e2 : (b : Int) = E[i].f1 := by rw [← e]
     exact ⟨by omega, by omega⟩
    ·rintro ⟨rfl, rfl⟩
     exact extE (by rw [hu]) (by rw [hv])
   rw [heq]
   by_cases e : a = u
   ·rw [if_pos e, Nat.testBit_or, Nat.testBit_two_pow, Bool.or_eq_true, decide_eq_true_eq]
    subst e
    constructor
    ·rintro ((h | h) | h)
     ·exact .inl h
     ·exact .inr (.inl ⟨rfl, h.symm⟩)
     ·exact .inr (.inr h)
    ·rintro (h | ⟨_, h⟩ | h)
     ·exact .inl (.inl h)
     ·exact .inl (.inr h.symm)
     ·exact .inr h
   ·rw [if_neg e]
    constructor
    ·rintro (h | h)
     ·exact .inl h
     ·exact .inr (.inr h)
    ·rintro (h | ⟨h, _⟩ | h)
     ·exact .inl h
     ·exact absurd h e
     ·exact .inr h
theorem linked_f (t : Nat → Bool) (k : Nat) (hk : 100 ≤ k) : ∃ A, Gd A ∧ liaison_linked.f k 6 (Eg t) = some (LI A) ∧ Ed A (Eg t) ∧ ∀ a b, a < 6 → b < 6 → ad A a b = ad A b a := by
 have hl := Eg_len t
 have hz : Gd [0, 0, 0, 0, 0, 0] := ⟨rfl, fun a ha => by simp at ha; omega⟩
 obtain ⟨A, hA, hf, hb⟩ := linked_l (Eg t) (Eg_ok t) (by omega) (Eg t).length 0 [0, 0, 0, 0, 0, 0] (by omega) hz k (by omega)
 have hb' : ∀ a b, a < 6 → b < 6 → (ad A a b = true ↔ (⟨(a : Int), (b : Int)⟩ : S68) ∈ Eg t) := by
  intro a b ha hb1
  rw [hb a b ha hb1, List.drop_zero]
  constructor
  ·rintro (h | h)
   ·exfalso
    have : ad [0, 0, 0, 0, 0, 0] a b = false := by
     unfold ad
     have : a = 0 ∨ a = 1 ∨ a = 2 ∨ a = 3 ∨ a = 4 ∨ a = 5 := by omega
     rcases this with rfl | rfl | rfl | rfl | rfl | rfl <;> simp
    rw [this] at h
    cases h
   ·exact h
  ·exact .inr
 refine ⟨A, hA, ?_, ⟨by omega, fun a b ha hb1 => ?_⟩, fun a b ha hb1 => ?_⟩
 ·unfold liaison_linked.f
  rw [if_pos (by decide), if_pos (by decide)]
  exact hf
 ·have := hb' a b ha hb1
  cases e : ad A a b with
  | true => exact decide_eq_true (this.1 e)
  | false => exact decide_eq_false (fun h => by rw [this.2 h] at e; cases e)
 ·have h1 := hb' a b ha hb1
  have h2 := hb' b a hb1 ha
  cases e : ad A a b with
  | true => exact (h2.2 ((Eg_mem t _).2 (U_sym t _ _ ((Eg_mem t _).1 (h1.1 e))))).symm
  | false =>
   cases e2 : ad A b a with
   | false => rfl
   | true =>
    rw [h1.2 ((Eg_mem t _).2 (U_sym t _ _ ((Eg_mem t _).1 (h2.1 e2))))] at e
    cases e
theorem ordered_tab : ((List.range 64).all fun m => liaison_ordered.f 20 (EI m) 6 == some 0) = true := by kernel_rfl
theorem ordered_f (k : Nat) (hk : 20 ≤ k) (m : Nat) (hm : m < 64) : liaison_ordered.f k (EI m) 6 = some 0 := by
 have h := List.all_eq_true.1 ordered_tab m (List.mem_range.2 hm)
 exact up (fun k => liaison_ordered.mono (EI m) 6 k) (by simpa using h) k hk
theorem masked_tab : ((List.range 64).all fun m => liaison_masked.f 20 (EI m) == some (m : Int)) = true := by kernel_rfl
theorem masked_f (k : Nat) (hk : 20 ≤ k) (m : Nat) (hm : m < 64) : liaison_masked.f k (EI m) = some (m : Int) := by
 have h := List.all_eq_true.1 masked_tab m (List.mem_range.2 hm)
 exact up (fun k => liaison_masked.mono (EI m) k) (by simpa using h) k hk
theorem EI_pos {m : Nat} (hm : m < 64) (h0 : m ≠ 0) : 0 < (EI m).length := by
 obtain ⟨_, l2, l3, l4⟩ := lo_f m hm h0
 unfold EI
 rw [List.length_map]
 exact List.length_pos_of_mem (El_mem.2 ⟨l3, l2⟩)
theorem opened_f (t : Nat → Bool) (A : List Nat) (m k : Nat) (hm : m < 64) (h0 : m ≠ 0) (hk : 100 ≤ k) (hA : liaison_linked.f k 6 (Eg t) = some (LI A)) : liaison_opened.f k 6 (Eg t) (EI m) = some (LI A, (m : Int), 0) := by
 have hp := EI_pos hm h0
 unfold liaison_opened.f
 rw [lcheck_f t k hk, Option.bind_some, if_pos rfl, if_neg (by omega), ordered_f k (by omega) m hm, Option.bind_some, if_pos rfl, hA, Option.bind_some, masked_f k (by omega) m hm, Option.bind_some]
end
end Go.Proofs.YtbghfbhlbfcloaaDoor.PL
namespace Go.Proofs.YtbghfbhlbfcloaaDoor.PL
section
open Go.RowKit Go.Proofs.YtbghfbhlbfcloaaDoorW.PrintWords Go.Proofs.YtbghfbhlbfcloaaDoorW.PrintLast Go.Proofs.YtbghfbhlbfcloaaDoorW.PrintMore
set_option linter.unusedVariables false
set_option linter.unusedSimpArgs false
section
variable {P : Program} {ops : Array Oper} {Q : Exit → Act → World → Prop}

theorem uponIn_of {o : Oper} {a : Act} {K : Act → World → Prop} {n l : Nat} {r : Result Next} (h : o.upon P a K Q r) : o.uponIn (Fence.wide.inRound l) n P a K Q r := by
 cases r with
 | ok x w =>
  cases x <;> simp only [Oper.upon, Oper.uponIn] at h ⊢ <;> first | exact h | skip
  ·refine ⟨by simp [Fence.wide], CallsIn.inRound l (callsIn_wide.2 (Calls.mono h (fun e w'' he => ?_)))⟩
   cases e <;> exact he
  ·refine ⟨by simp [Fence.wide], fun c cs _ => ?_⟩
   obtain ⟨v, w', hr, hs⟩ := h c cs
   exact ⟨v, w', hr, stepsIn_wide.2 hs⟩
 | halt x w => cases x <;> simp only [Oper.upon, Oper.uponIn] at h ⊢ <;> exact h

theorem wpAnyIn_of (hL : ¬ LetsOut Q) (hnd : ∀ (i : Nat) (o : Oper), ops[i]? = some o → ∀ c, o.op ≠ .defer c) {n l : Nat} : ∀ (fuel : Nat) (listed : Array Bool) (a : Act) (w : World), wpAny P .any ops Q fuel listed a w → wpAnyIn (Fence.wide.inRound l) n P .any ops Q fuel listed a w
 | 0, listed, a, w, h => h
 | fuel + 1, listed, a, w, h => by
  refine ⟨h.1, fun i hi => ?_⟩
  have h1 := h.2 i hi
  unfold wpOp at h1
  unfold wpOpIn
  cases ho : ops[i]? with
  | none =>
   rw [ho] at h1
   exact wpAnyIn_of hL hnd fuel _ a w h1
  | some o =>
   rw [ho] at h1
   simp only at h1 ⊢
   split
   ·rename_i hw
    rw [if_pos hw] at h1
    rcases h1 with h1 | h1
    ·refine ⟨fun _ _ => trivial, ?_⟩
     rw [Oper.semAt_eq _ _ _ (hnd i o ho)]
     exact uponIn_of (Oper.wp_mono (fun a w hh => wpAnyIn_of hL hnd fuel _ a w hh) h1)
    ·exact absurd h1.2 hL
   ·rename_i hw
    rw [if_neg hw] at h1
    exact ⟨fun _ _ => trivial, wpAnyIn_of hL hnd fuel _ _ w h1⟩

/-- A drawn region in a round. -/
theorem start_in {id n l m : Nat} {a : Act} {w : World} {S : World → Prop} {ds : List Nat} (L : Array Bool) (hm : P.follows .mixedOrders = true) (hn : ops.size = n) (hl : Array.replicate n false = L) (hL : ¬ LetsOut Q) (hnd : ∀ (i : Nat) (o : Oper), ops[i]? = some o → ∀ c, o.op ≠ .defer c)
  (hS : S w.drew) (h : S w.drew → wpAnyLast P .any ops Q S ds n L a w.drew) : (Code.region id ops true).wpIn (Fence.wide.inRound l) m P Q a w := by
 subst hn
 subst hl
 exact wpIn_region_any hm (wpAnyIn_of hL hnd _ _ a _ (wpAny_of_last _ _ _ _ (h hS)))
end
end
end Go.Proofs.YtbghfbhlbfcloaaDoor.PL
namespace Go.Proofs.YtbghfbhlbfcloaaDoor.PL
section
open Go.RowKit Go.Proofs.YtbghfbhlbfcloaaDoorW.PrintWords Go.Proofs.YtbghfbhlbfcloaaDoorW.PrintLast Go.Proofs.YtbghfbhlbfcloaaDoorW.PrintMore
attribute [local go_sem] Oper.semAt_some
set_option linter.unusedVariables false
set_option linter.unusedSimpArgs false

def nextS (m s : Int) : Int := Go.bits .and .u64 (IntKind.u64.wrap (s - 1)) m
/-- The numbers that 's = (s - 1) & m' passes through, from s on, down to 0. -/
def Chain (m : Int) : Int → List Int → Prop
 | s, [] => s = 0
 | s, a :: r => a = s ∧ 0 < s ∧ 0 ≤ nextS m s ∧ nextS m s < s ∧ Chain m (nextS m s) r

theorem grown_of_below {W W' : World} (h : Below W.heap.size W W') : W.grownBy W' none := ⟨h.os, h.tape, h.output, h.size, fun k hk _ => h.block k hk⟩
theorem wide_depth : ¬ Fence.wide.depth.isSome = true := by simp [Fence.wide]

/-- What a round keeps: all below n₁, and the iterator's two boxes. -/
structure Kq (n₁ mB lB : Nat) (W W' : World) : Prop where mk ::
 b : Below n₁ W W'
 m : W'.heap[mB]? = W.heap[mB]?
 l : W'.heap[lB]? = W.heap[lB]?
theorem Kq.refl (n₁ mB lB : Nat) (W : World) : Kq n₁ mB lB W W := ⟨Below.refl _ _, rfl, rfl⟩
theorem Kq.trans {n₁ mB lB : Nat} {A B C : World} (h : Kq n₁ mB lB A B) (k : Kq n₁ mB lB B C) : Kq n₁ mB lB A C := ⟨h.b.trans k.b, k.m.trans h.m, k.l.trans h.l⟩
theorem Kq.of {n n₁ mB lB : Nat} {A B : World} (h : Below n A B) (h1 : n₁ ≤ n) (hm : mB < n) (hl : lB < n) : Kq n₁ mB lB A B := ⟨h.mono h1, h.block _ hm, h.block _ hl⟩
theorem cell_of_heap {W W' : World} {k : Nat} (h : W'.heap[k]? = W.heap[k]?) (o : Nat) : W'.cell? ⟨k, o, none⟩ = W.cell? ⟨k, o, none⟩ := by simp only [World.cell?, h]

set_option maxRecDepth 100000 in
set_option maxHeartbeats 2000000 in
theorem subsets_in (k : Nat) (AL : Option Addr) (cL : Nat) (L : List Int) (m : Int) (ms : List Int) (cn : Int → Bool) (mB lB n₀ : Nat) (n l : Nat) (J Jx : List Int → World → Prop) (W : World) (hn0 : n₀ ≤ W.heap.size)
  (hJ : AbidesFrom W.heap.size J)
  (hm : W.cell? ⟨mB, 0, none⟩ = some (.int .u64 m)) (hl : W.cell? ⟨lB, 0, none⟩ = some (.slice AL L.length cL))
  (hC : ∀ W', Kq n₀ mB lB W W' → Kd.C (Kd.int .u64) W' AL L.length L) (hcL : L.length ≤ cL) (hG : ∀ W', Kq n₀ mB lB W W' → Kd.C (Kd.int .u8) W' (some tabA) tabL.length tabL)
  (hch : Chain m m ms) (hcn : ∀ s ∈ ms, liaison_links_connected.f k L s = some (cn s))
  (hY : ∀ pre x W1, x ∈ ms.filter cn → J pre W1 → pre.length < (ms.filter cn).length → YieldAt Fence.wide (n - 1) Tryd.prog l #[.int .u64 x] W1 fun e W' =>
   (e = .returned (.bool true) ∧ J (pre ++ [x]) W' ∧ Kq n₀ mB lB W1 W') ∨ (e = .returned (.bool false) ∧ Jx (pre ++ [x]) W'))
  (h0 : J [] W) :
  CallsIn Fence.wide n Tryd.prog 66 #[.func (.yield l) #[] #[], .pointer (some ⟨mB, 0, none⟩), .pointer (some ⟨lB, 0, none⟩)] W fun e W' => (∃ v, e = .returned v) ∧
   ((∃ xs, xs = ms.filter cn ∧ J xs W') ∨ (∃ pre, True ∧ Jx pre W')) := by
 have HC := Aside0.mk hC
 have HCL := Aside0.mk hcL
 have HG := Aside0.mk hG
 have HCN := Aside0.mk hcn
 have HY := Aside0.mk hY
 have HJ := Aside0.mk hJ
 have HN := Aside0.mk hn0
 have hB0 : Kq n₀ mB lB W W := Kq.refl _ _ _ _
 clear hC hcL hG hcn hY hJ hn0
 refine callsIn_of_wp Tryd.func66 rfl trivial ?_ rfl
 simp only [Tryd.ntmps66, List.size_toArray, List.length_cons, List.length_nil, Nat.reduceAdd, Nat.reduceSub, Array.replicate_succ, Array.replicate_zero, List.push_toArray, List.append_toArray, List.nil_append, List.cons_append]
 gi_wp2
 gi_loopw [4] (fun v4 wr => ∃ (s : Int) (pre rest : List Int), v4 = .int .u64 s ∧ Aside0 (ms = pre ++ rest) ∧ Aside0 (Chain m s rest) ∧ Aside0 (J (pre.filter cn) wr) ∧ Aside0 (Kq n₀ mB lB W wr) ∧ Aside0 (W.heap.size ≤ wr.heap.size)) (fun v4 _ => (intOf v4).toNat)
 case atStart => exact ⟨m, [], ms, rfl, ⟨rfl⟩, ⟨hch⟩, ⟨h0⟩, ⟨Kq.refl _ _ _ _⟩, ⟨Nat.le_refl _⟩⟩
 case round =>
  obtain ⟨s, pre, rest, rfl, HM, HCH, HJs, HB, HSZ⟩ := hrel
  have hmr := (cell_of_heap HB.out.m 0).trans hm
  have hlr := (cell_of_heap HB.out.l 0).trans hl
  cases rest with
  | nil =>
   obtain rfl : s = 0 := HCH.out
   gi_wp2
   go_end0
   have e := HM.out
   rw [List.append_nil] at e
   exact ⟨⟨_, rfl⟩, .inl ⟨_, rfl, by rw [e]; exact HJs.out⟩⟩
  | cons a r =>
   obtain ⟨rfl, hs0, hs1, hs2, hch2⟩ := HCH.out
   have HCH2 := Aside0.mk hch2
   clear hch2
   have hmem : a ∈ ms := by rw [HM.out]; simp
   have hf := HCN.out a hmem
   have hne : (a != 0) = true := by simp; omega
   have CC := callsIn_wide (n := n - 1) |>.2 (liaison_links_connected.calls k AL cL L a (cn a) wr (HC.out wr HB.out) HCL.out (HG.out wr HB.out) hf)
   have HCC := Aside0.mk CC
   clear CC hf
   cases hc : cn a with
   | false =>
    have Hc := Aside0.mk hc
    rw [hc] at HCC
    clear hc
    gi_wp2_with (refine ⟨trivial, (fun h => absurd h wide_depth), ?_⟩; gi_at_call 35; refine HCC.out.mono ?_; rintro e w2 ⟨rfl, hb2⟩; have hm2 := (hb2.cell (World.block_lt_of_cell? wr _ hmr)).trans hmr; have HB2 := Aside0.mk hb2; clear hb2)
    refine ⟨fun _ h => (by cases h), ?_⟩
    gi_wp2
    go_roundw
    case rel => exact ⟨nextS m a, pre ++ [a], r, rfl, ⟨by rw [HM.out]; simp⟩, HCH2, ⟨by rw [List.filter_append, List.filter_cons_of_neg (by rw [Hc.out]; simp), List.filter_nil, List.append_nil]; exact HJ.out _ _ _ none HJs.out (grown_of_below HB2.out) (fun r h => by cases h)⟩, ⟨HB.out.trans (Kq.of HB2.out (Nat.le_trans HN.out HSZ.out) (World.block_lt_of_cell? wr _ hmr) (World.block_lt_of_cell? wr _ hlr))⟩, ⟨Nat.le_trans HSZ.out HB2.out.size⟩⟩
    case measure => show (nextS m a).toNat < a.toNat; omega
   | true =>
    have hmem2 : (pre.filter cn).length < (ms.filter cn).length := by rw [HM.out, List.filter_append, List.filter_cons_of_pos hc]; simp
    rw [hc] at HCC
    have Hc := Aside0.mk hc
    clear hc
    gi_wp2_with (refine ⟨trivial, (fun h => absurd h wide_depth), ?_⟩; gi_at_call 35; refine HCC.out.mono ?_; rintro e w2 ⟨rfl, hb2⟩; have hm2 := (hb2.cell (World.block_lt_of_cell? wr _ hmr)).trans hmr; have HB2 := Aside0.mk hb2; clear hb2; obtain ⟨fn, tmps, assign, body, hy, hR⟩ := HY.out _ a w2 (List.mem_filter.2 ⟨hmem, Hc.out⟩) (HJ.out _ _ _ none HJs.out (grown_of_below HB2.out) (fun r h => by cases h)) hmem2; have HRR := Aside0.mk hR; clear hR)
    refine ⟨fun h => absurd h wide_depth, HRR.out.mono ?_⟩
    rintro e W3 (⟨rfl, hJ3, hk3⟩ | ⟨rfl, hJx3⟩)
    ·have hm3 := (cell_of_heap hk3.m 0).trans hm2
     have HJ3 := Aside0.mk hJ3
     have HK3 := Aside0.mk hk3
     clear hJ3 hk3
     gi_wp2
     go_roundw
     case rel => exact ⟨nextS m a, pre ++ [a], r, rfl, ⟨by rw [HM.out]; simp⟩, HCH2, ⟨by rw [List.filter_append, List.filter_cons_of_pos Hc.out, List.filter_nil]; exact HJ3.out⟩, ⟨(HB.out.trans (Kq.of HB2.out (Nat.le_trans HN.out HSZ.out) (World.block_lt_of_cell? wr _ hmr) (World.block_lt_of_cell? wr _ hlr))).trans HK3.out⟩, ⟨Nat.le_trans HSZ.out (Nat.le_trans HB2.out.size HK3.out.b.size)⟩⟩
     case measure => show (nextS m a).toNat < a.toNat; omega
    ·have HJX := Aside0.mk hJx3
     clear hJx3
     gi_wp2
     refine bodyPost_ret (results_none rfl _ _ _) rfl ?_
     exact ⟨⟨_, rfl⟩, .inr ⟨_, trivial, HJX.out⟩⟩

/-- The iterator's contract as' the loop's law wants it. -/
theorem subsets_stops (k : Nat) (AL : Option Addr) (cL : Nat) (L : List Int) (m : Int) (ms : List Int) (cn : Int → Bool) (mB lB n₀ : Nat) (n : Nat) (w0 : World) (hn0 : n₀ ≤ w0.heap.size)
  (hm : w0.cell? ⟨mB, 0, none⟩ = some (.int .u64 m)) (hl : w0.cell? ⟨lB, 0, none⟩ = some (.slice AL L.length cL))
  (hCb : ∀ W', Kq n₀ mB lB w0 W' → Kd.C (Kd.int .u64) W' AL L.length L) (hcL : L.length ≤ cL) (hGb : ∀ W', Kq n₀ mB lB w0 W' → Kd.C (Kd.int .u8) W' (some tabA) tabL.length tabL)
  (hch : Chain m m ms) (hcn : ∀ s ∈ ms, liaison_links_connected.f k L s = some (cn s)) :
  SeqStopsK Fence.wide n Tryd.prog 66 #[.pointer (some ⟨mB, 0, none⟩), .pointer (some ⟨lB, 0, none⟩)] (fun x : { x : Int // x ∈ ms.filter cn } => #[.int .u64 x.1]) (Kq n₀ mB lB) (fun xs => xs.map (fun x => x.1) = ms.filter cn) (fun _ => True) (ms.filter cn).length w0 := by
 intro l J Jx W hW hJ _ hY h0
 have hB : Kq n₀ mB lB w0 W := Kq.of hW hn0 (World.block_lt_of_cell? w0 _ hm) (World.block_lt_of_cell? w0 _ hl)
 refine (subsets_in k AL cL L m ms cn mB lB n₀ n l (fun pre W' => ∃ xs : List { x : Int // x ∈ ms.filter cn }, xs.map (fun x => x.1) = pre ∧ J xs W') (fun _ W' => ∃ xs : List { x : Int // x ∈ ms.filter cn }, Jx xs W') W (Nat.le_trans hn0 hW.size) ?_ ((cell_of_heap hB.m 0).trans hm) ((cell_of_heap hB.l 0).trans hl) (fun W' h => hCb W' (hB.trans h)) hcL (fun W' h => hGb W' (hB.trans h)) hch hcn ?_ ⟨[], rfl, h0⟩).mono ?_
 ·rintro s A B row ⟨xs, e, hj⟩ hg hr
  exact ⟨xs, e, hJ xs A B row hj hg hr⟩
 ·rintro pre x W1 hx ⟨xs, rfl, hj⟩ hlen
  obtain ⟨fn, tmps, assign, body, hy, hR⟩ := hY xs ⟨x, hx⟩ W1 hj (by simpa using hlen)
  refine ⟨fn, tmps, assign, body, hy, hR.mono ?_⟩
  rintro e W' (⟨rfl, h1, h2⟩ | ⟨rfl, h1⟩)
  ·exact .inl ⟨rfl, ⟨_, by simp, h1⟩, h2⟩
  ·exact .inr ⟨rfl, _, h1⟩
 ·rintro e W' ⟨hv, ⟨xs, rfl, xs', he, hj⟩ | ⟨pre, _, xs', hj⟩⟩
  ·exact ⟨hv, .inl ⟨xs', he, hj⟩⟩
  ·exact ⟨hv, .inr ⟨xs', trivial, hj⟩⟩
end
end Go.Proofs.YtbghfbhlbfcloaaDoor.PL
namespace Go.Proofs.YtbghfbhlbfcloaaDoor.PL
section
open Go.RowKit Go.Proofs.YtbghfbhlbfcloaaDoorW.PrintWords Go.Proofs.YtbghfbhlbfcloaaDoorW.PrintLast Go.Proofs.YtbghfbhlbfcloaaDoorW.PrintMore
attribute [local go_sem] max2_int min2_int max_two min_two max_three min_three max_four min_four   -- for this text's walks alone
set_option linter.unusedVariables false
set_option linter.unusedSimpArgs false
/-! ### slices_Compare_int_int: function 70 -/
def slices_Compare_int_int.l0 : Nat → List Int → List Int → List Int → Int → Int → Option (Int)
 | 0, _, _, _, _, _ => none
 | k + 1, x0, x1, x9, x10, x11 => if x11 < x10 then (if 0 ≤ x11 then (if x11 < (x9.length : Int) then (if x11 ≥ (x1.length : Int) then (some 1) else (if x11 < (x1.length : Int) then ((cmp_Compare_int.f (rd x9 x11) (rd x1 x11)).bind fun t175 => (if t175 = 0 then (slices_Compare_int_int.l0 k x0 x1 x9 x10 (wrap64 (x11 + 1))) else (some t175))) else (none))) else (none)) else (none)) else (if (x0.length : Int) < (x1.length : Int) then (some (-1)) else (some 0))
def slices_Compare_int_int.f (k : Nat) (l0 : List Int) (l1 : List Int) : Option (Int) := slices_Compare_int_int.l0 k l0 l1 l0 (l0.length : Int) 0
theorem slices_Compare_int_int.mono_l : ∀ k, (∀ y0 y1 y2 y3 y4, LeO (slices_Compare_int_int.l0 k y0 y1 y2 y3 y4) (slices_Compare_int_int.l0 (k + 1) y0 y1 y2 y3 y4))
 | 0 => fun _ _ _ _ _ r h => by simp [slices_Compare_int_int.l0] at h
 | k + 1 => by
  have ih0 := slices_Compare_int_int.mono_l k
  ·intro y0 y1 y2 y3 y4
   unfold slices_Compare_int_int.l0
   repeat' first
   | (with_reducible exact ih0 _ _ _ _ _)
   | (with_reducible exact LeO.refl _)
   | (with_reducible exact LeO.none _)
   | (with_reducible refine LeO.ite ?_ ?_)
   | (with_reducible refine LeO.bind ?_ (fun _ => ?_))
   | exact ih0 _ _ _ _ _
   | exact LeO.none _
   | refine LeO.ite ?_ ?_
   | refine LeO.bind ?_ (fun _ => ?_)
theorem slices_Compare_int_int.mono : ∀ a0 a1 k, LeO (slices_Compare_int_int.f k a0 a1) (slices_Compare_int_int.f (k + 1) a0 a1) := by
 intro a0 a1 k
 have ih0 := slices_Compare_int_int.mono_l k
 unfold slices_Compare_int_int.f
 repeat' first
   | (with_reducible exact ih0 _ _ _ _ _)
   | (with_reducible exact LeO.refl _)
   | (with_reducible exact LeO.none _)
   | (with_reducible refine LeO.ite ?_ ?_)
   | (with_reducible refine LeO.bind ?_ (fun _ => ?_))
   | exact ih0 _ _ _ _ _
   | exact LeO.none _
   | refine LeO.ite ?_ ?_
   | refine LeO.bind ?_ (fun _ => ?_)
set_option maxHeartbeats 8000000 in
set_option maxRecDepth 100000 in
theorem slices_Compare_int_int.calls (k : Nat) (A0 : Option Addr) (c0 : Nat) (l0 : List Int) (A1 : Option Addr) (c1 : Nat) (l1 : List Int) (r : Int) (w : World) (hr0 : Kd.C (Kd.int .i64) w A0 l0.length l0) (hc0 : l0.length ≤ c0) (hr1 : Kd.C (Kd.int .i64) w A1 l1.length l1) (hc1 : l1.length ≤ c1) (h : slices_Compare_int_int.f k l0 l1 = some r) :
  Calls Tryd.prog 70 #[.slice A0 l0.length c0, .slice A1 l1.length c1] w fun e w' => e = .returned (.int .i64 r) ∧ Drawn0 w w' := by
 have HR0 := Aside0.mk hr0
 have HC0 := Aside0.mk hc0
 clear hr0 hc0
 have HR1 := Aside0.mk hr1
 have HC1 := Aside0.mk hc1
 clear hr1 hc1
 have H : (slices_Compare_int_int.l0 k l0 l1 l0 (l0.length : Int) 0) = some r := h
 clear h
 have H' := Aside0.mk H
 clear H
 go_enter Tryd.func70, Tryd.ntmps70
 go_wp2
 go_loopg [11] k (fun kq v11 w' => ∃ (x11_1 : Int), v11 = .int .i64 x11_1 ∧ Aside0 (slices_Compare_int_int.l0 kq l0 l1 l0 (l0.length : Int) x11_1 = some r) ∧ Aside0 (kq ≤ k) ∧ Drawn0 w w')
 case atStart => exact ⟨(0), (by first | rfl | (simp; done) | (simp [*]; done)), H', ⟨Nat.le_refl _⟩, by repeat (first | exact Drawn0.refl _ | apply Drawn0.step)⟩
 case round =>
  clear H'
  try clear c1
  try clear p2
  obtain ⟨x11_1, rfl, HA, HK1, ⟨m1, rfl⟩⟩ := hrel
  cases gk with
  | zero => exact absurd HA.out (by simp [slices_Compare_int_int.l0])
  | succ k1 =>
   have H := HA.out
   clear HA
   simp only [slices_Compare_int_int.l0] at H
   by_cases c3 : x11_1 < (l0.length : Int)
   ·rw [if_pos c3] at H
    have c3b0 : decide (x11_1 < (l0.length : Int)) = true := decide_eq_true c3
    clear c3
    by_cases c4 : 0 ≤ x11_1
    ·rw [if_pos c4] at H
     have c4b0 : decide (0 ≤ x11_1) = true := decide_eq_true c4
     clear c4
     by_cases c5 : x11_1 < (l0.length : Int)
     ·rw [if_pos c5] at H
      have c5b0 : decide (x11_1 < (l0.length : Int)) = true := decide_eq_true c5
      clear c5
      by_cases c6 : x11_1 ≥ (l1.length : Int)
      ·rw [if_pos c6] at H
       have c6b0 : decide ((l1.length : Int) ≤ x11_1) = true := decide_eq_true c6
       clear c6
       obtain rfl := Option.some.inj H
       have p173 : 0 ≤ (x11_1 : Int) := of_decide_eq_true (by first | (with_reducible assumption) | assumption)
       have q173 : x11_1 < (l0.length : Int) := of_decide_eq_true (by first | (with_reducible assumption) | assumption)
       obtain ⟨ad173, e173, hx173_0⟩ := Kd.at_int HR0.out x11_1 p173 q173
       cases e173
       replace p173 := eq_true p173
       replace q173 := eq_true q173
       go_wp2
       go_ret
       exact ⟨by first | rfl | (simp; done) | (simp [*]; done), by repeat (first | exact Drawn0.refl _ | apply Drawn0.step)⟩
      ·rw [if_neg c6] at H
       have c6b0 : decide ((l1.length : Int) ≤ x11_1) = false := decide_eq_false c6
       clear c6
       by_cases c7 : x11_1 < (l1.length : Int)
       ·rw [if_pos c7] at H
        have c7b0 : decide (x11_1 < (l1.length : Int)) = true := decide_eq_true c7
        clear c7
        replace H := Option.bind_eq_some_iff.mp H
        obtain ⟨t175, A80, H⟩ := H
        replace H : (if t175 = 0 then (slices_Compare_int_int.l0 k1 l0 l1 l0 (l0.length : Int) (wrap64 (x11_1 + 1))) else (some t175)) = some r := H
        have A8 := Aside0.mk A80
        clear A80
        by_cases c9 : t175 = 0
        ·rw [if_pos c9] at H
         have c9b0 : (t175 == 0) = true := beq_iff_eq.mpr c9
         have c9b1 : (t175 != 0) = false := bne_eq_false_iff_eq.mpr c9
         clear c9
         have H' := Aside0.mk H
         clear H
         have p173 : 0 ≤ (x11_1 : Int) := of_decide_eq_true (by first | (with_reducible assumption) | assumption)
         have q173 : x11_1 < (l0.length : Int) := of_decide_eq_true (by first | (with_reducible assumption) | assumption)
         obtain ⟨ad173, e173, hx173_0⟩ := Kd.at_int HR0.out x11_1 p173 q173
         cases e173
         replace p173 := eq_true p173
         replace q173 := eq_true q173
         have p174 : 0 ≤ (x11_1 : Int) := of_decide_eq_true (by first | (with_reducible assumption) | assumption)
         have q174 : x11_1 < (l1.length : Int) := of_decide_eq_true (by first | (with_reducible assumption) | assumption)
         obtain ⟨ad174, e174, hx174_0⟩ := Kd.at_int HR1.out x11_1 p174 q174
         cases e174
         replace p174 := eq_true p174
         replace q174 := eq_true q174
         go_wp2_with (first | ((with_reducible refine gate_callee (f := 80) rfl ?_); refine goesL_ (some 26) rfl rfl Tryd.func80 (by kernel_rfl) rfl #[.int .i64 (rd l0 x11_1), .int .i64 (rd l1 x11_1)] rfl (by (try simp only [List.map_toArray, List.map_cons, List.map_nil]); first | done | rfl | (simp only [List.length_drop, List.length_take]; rfl)) ?_; (with_reducible refine (cmp_Compare_int.calls (rd l0 x11_1) (rd l1 x11_1) t175 _ A8.out).mono ?_); rintro e w' ⟨rfl, ⟨nd, rfl⟩⟩; refine ⟨_, rfl, ?_⟩))
         go_roundg k1
         case measure => have := HK1.out; omega
         case rel => exact ⟨(wrap64 (x11_1 + 1)), (by first | rfl | (simp; done) | (simp [*]; done)), H', ⟨by have := HK1.out; omega⟩, by repeat (first | exact Drawn0.refl _ | apply Drawn0.step)⟩
        ·rw [if_neg c9] at H
         have c9b0 : (t175 == 0) = false := beq_eq_false_iff_ne.mpr c9
         have c9b1 : (t175 != 0) = true := bne_iff_ne.mpr c9
         obtain rfl := Option.some.inj H
         have p173 : 0 ≤ (x11_1 : Int) := of_decide_eq_true (by first | (with_reducible assumption) | assumption)
         have q173 : x11_1 < (l0.length : Int) := of_decide_eq_true (by first | (with_reducible assumption) | assumption)
         obtain ⟨ad173, e173, hx173_0⟩ := Kd.at_int HR0.out x11_1 p173 q173
         cases e173
         replace p173 := eq_true p173
         replace q173 := eq_true q173
         have p174 : 0 ≤ (x11_1 : Int) := of_decide_eq_true (by first | (with_reducible assumption) | assumption)
         have q174 : x11_1 < (l1.length : Int) := of_decide_eq_true (by first | (with_reducible assumption) | assumption)
         obtain ⟨ad174, e174, hx174_0⟩ := Kd.at_int HR1.out x11_1 p174 q174
         cases e174
         replace p174 := eq_true p174
         replace q174 := eq_true q174
         go_wp2_with (first | ((with_reducible refine gate_callee (f := 80) rfl ?_); refine goesL_ (some 26) rfl rfl Tryd.func80 (by kernel_rfl) rfl #[.int .i64 (rd l0 x11_1), .int .i64 (rd l1 x11_1)] rfl (by (try simp only [List.map_toArray, List.map_cons, List.map_nil]); first | done | rfl | (simp only [List.length_drop, List.length_take]; rfl)) ?_; (with_reducible refine (cmp_Compare_int.calls (rd l0 x11_1) (rd l1 x11_1) t175 _ A8.out).mono ?_); rintro e w' ⟨rfl, ⟨nd, rfl⟩⟩; refine ⟨_, rfl, ?_⟩))
         go_ret
         exact ⟨by first | rfl | (simp; done) | (simp [*]; done), by repeat (first | exact Drawn0.refl _ | apply Drawn0.step)⟩
       ·rw [if_neg c7] at H
        exact absurd H (by simp)
     ·rw [if_neg c5] at H
      exact absurd H (by simp)
    ·rw [if_neg c4] at H
     exact absurd H (by simp)
   ·rw [if_neg c3] at H
    have c3b0 : decide (x11_1 < (l0.length : Int)) = false := decide_eq_false c3
    clear c3
    by_cases c10 : (l0.length : Int) < (l1.length : Int)
    ·rw [if_pos c10] at H
     have c10b0 : decide ((l0.length : Int) < (l1.length : Int)) = true := decide_eq_true c10
     have c10b1 : decide (l0.length < l1.length) = true := decide_eq_true (Int.ofNat_lt.mp c10)
     clear c10
     obtain rfl := Option.some.inj H
     go_wp2
     go_ret
     exact ⟨by first | rfl | (simp; done) | (simp [*]; done), by repeat (first | exact Drawn0.refl _ | apply Drawn0.step)⟩
    ·rw [if_neg c10] at H
     have c10b0 : decide ((l0.length : Int) < (l1.length : Int)) = false := decide_eq_false c10
     have c10b1 : decide (l0.length < l1.length) = false := decide_eq_false (fun h => c10 (Int.ofNat_lt.mpr h))
     clear c10
     obtain rfl := Option.some.inj H
     go_wp2
     go_ret
     exact ⟨by first | rfl | (simp; done) | (simp [*]; done), by repeat (first | exact Drawn0.refl _ | apply Drawn0.step)⟩
end
end Go.Proofs.YtbghfbhlbfcloaaDoor.PL
namespace Go.Proofs.YtbghfbhlbfcloaaDoor.PL
section
open Go.RowKit Go.Proofs.YtbghfbhlbfcloaaDoorW.PrintWords Go.Proofs.YtbghfbhlbfcloaaDoorW.PrintLast Go.Proofs.YtbghfbhlbfcloaaDoorW.PrintMore
attribute [local go_sem] max2_int min2_int max_two min_two max_three min_three max_four min_four   -- for this text's walks alone
set_option linter.unusedVariables false
set_option linter.unusedSimpArgs false
/-! ### liaison_before: function 40 -/
def liaison_before.f (k : Nat) (l0 : List Int) (l1 : List Int) : Option (Int) := if (l0.length : Int) = (l1.length : Int) then ((slices_Compare_int_int.f k l0 l1).bind fun t176 => (some t176)) else (some (wrap64 ((l0.length : Int) - (l1.length : Int))))
theorem liaison_before.mono : ∀ a0 a1 k, LeO (liaison_before.f k a0 a1) (liaison_before.f (k + 1) a0 a1) := by
 intro a0 a1 k
 unfold liaison_before.f
 repeat' first
   | (with_reducible exact slices_Compare_int_int.mono _ _ _)
   | (with_reducible exact LeO.refl _)
   | (with_reducible exact LeO.none _)
   | (with_reducible refine LeO.ite ?_ ?_)
   | (with_reducible refine LeO.bind ?_ (fun _ => ?_))
   | exact slices_Compare_int_int.mono _ _ _
   | exact LeO.none _
   | refine LeO.ite ?_ ?_
   | refine LeO.bind ?_ (fun _ => ?_)
set_option maxHeartbeats 8000000 in
set_option maxRecDepth 100000 in
theorem liaison_before.calls (k : Nat) (A0 : Option Addr) (c0 : Nat) (l0 : List Int) (A1 : Option Addr) (c1 : Nat) (l1 : List Int) (r : Int) (w : World) (hr0 : Kd.C (Kd.int .i64) w A0 l0.length l0) (hc0 : l0.length ≤ c0) (hr1 : Kd.C (Kd.int .i64) w A1 l1.length l1) (hc1 : l1.length ≤ c1) (h : liaison_before.f k l0 l1 = some r) :
  Calls Tryd.prog 40 #[.slice A0 l0.length c0, .slice A1 l1.length c1] w fun e w' => e = .returned (.int .i64 r) ∧ Drawn0 w w' := by
 have HR0 := Aside0.mk hr0
 have HC0 := Aside0.mk hc0
 clear hr0 hc0
 have HR1 := Aside0.mk hr1
 have HC1 := Aside0.mk hc1
 clear hr1 hc1
 have H : (if (l0.length : Int) = (l1.length : Int) then ((slices_Compare_int_int.f k l0 l1).bind fun t176 => (some t176)) else (some (wrap64 ((l0.length : Int) - (l1.length : Int))))) = some r := h
 clear h
 by_cases c3 : (l0.length : Int) = (l1.length : Int)
 ·rw [if_pos c3] at H
  have c3b0 : ((l0.length : Int) == (l1.length : Int)) = true := beq_iff_eq.mpr c3
  have c3b1 : ((l0.length : Int) != (l1.length : Int)) = false := bne_eq_false_iff_eq.mpr c3
  have c3b2 : (l0.length == l1.length) = true := by first | simpa using c3 | (simp at c3 ⊢; omega)
  clear c3
  replace H := Option.bind_eq_some_iff.mp H
  obtain ⟨t176, A40, H⟩ := H
  replace H : (some t176) = some r := H
  have A4 := Aside0.mk A40
  clear A40
  obtain rfl := Option.some.inj H
  go_enter Tryd.func40, Tryd.ntmps40
  go_wp2_with (first | ((with_reducible refine gate_callee (f := 70) rfl ?_); refine goesL_ (some 17) rfl rfl Tryd.func70 (by kernel_rfl) rfl #[.slice A0 l0.length c0, .slice A1 l1.length c1] rfl (by (try simp only [List.map_toArray, List.map_cons, List.map_nil]); first | done | rfl | (simp only [List.length_drop, List.length_take]; rfl)) ?_; (with_reducible refine (slices_Compare_int_int.calls k _ _ l0 _ _ l1 t176 _ ?side1 ?side2 ?side3 ?side4 A4.out).mono ?_); (case side1 => repeat (first | exact HR0.out | (with_reducible refine Kd.C_alloc ?_ _) | (with_reducible refine Kd.C_drewN ?_ _) | (with_reducible refine Kd.C_drew ?_))); (case side2 => exact HC0.out); (case side3 => repeat (first | exact HR1.out | (with_reducible refine Kd.C_alloc ?_ _) | (with_reducible refine Kd.C_drewN ?_ _) | (with_reducible refine Kd.C_drew ?_))); (case side4 => exact HC1.out); rintro e w' ⟨rfl, ⟨nd, rfl⟩⟩; refine ⟨_, rfl, ?_⟩))
  go_ret
  exact ⟨by first | rfl | (simp; done) | (simp [*]; done), by repeat (first | exact Drawn0.refl _ | apply Drawn0.step)⟩
 ·rw [if_neg c3] at H
  have c3b0 : ((l0.length : Int) == (l1.length : Int)) = false := beq_eq_false_iff_ne.mpr c3
  have c3b1 : ((l0.length : Int) != (l1.length : Int)) = true := bne_iff_ne.mpr c3
  have c3b2 : (l0.length == l1.length) = false := by first | simpa using c3 | (simp at c3 ⊢; omega)
  obtain rfl := Option.some.inj H
  go_enter Tryd.func40, Tryd.ntmps40
  go_wp2
  go_ret
  exact ⟨by first | rfl | (simp; done) | (simp [*]; done), by repeat (first | exact Drawn0.refl _ | apply Drawn0.step)⟩
end
end Go.Proofs.YtbghfbhlbfcloaaDoor.PL
namespace Go.Proofs.YtbghfbhlbfcloaaDoor.PL
section
open Go.RowKit Go.Proofs.YtbghfbhlbfcloaaDoorW.PrintWords Go.Proofs.YtbghfbhlbfcloaaDoorW.PrintLast Go.Proofs.YtbghfbhlbfcloaaDoorW.PrintMore
attribute [local go_sem] max2_int min2_int max_two min_two max_three min_three max_four min_four   -- for this text's walks alone
set_option linter.unusedVariables false
set_option linter.unusedSimpArgs false
attribute [local go_sem high] eqA68
/-! ### liaison_Cuts_1: function 39 -/
def liaison_Cuts_1.f (k : Nat) (l0_0 : List Int) (l0_1 : List Int) (l1_0 : List Int) (l1_1 : List Int) : Option (Int) := (liaison_before.f k l0_0 l1_0).bind fun t179 => (some t179)
theorem liaison_Cuts_1.mono : ∀ a0 a1 a2 a3 k, LeO (liaison_Cuts_1.f k a0 a1 a2 a3) (liaison_Cuts_1.f (k + 1) a0 a1 a2 a3) := by
 intro a0 a1 a2 a3 k
 unfold liaison_Cuts_1.f
 repeat' first
   | (with_reducible exact liaison_before.mono _ _ _)
   | (with_reducible exact LeO.refl _)
   | (with_reducible exact LeO.none _)
   | (with_reducible refine LeO.ite ?_ ?_)
   | (with_reducible refine LeO.bind ?_ (fun _ => ?_))
   | exact liaison_before.mono _ _ _
   | exact LeO.none _
   | refine LeO.ite ?_ ?_
   | refine LeO.bind ?_ (fun _ => ?_)
set_option maxHeartbeats 8000000 in
set_option maxRecDepth 100000 in
theorem liaison_Cuts_1.exact (k : Nat) (A0_0 : Option Addr) (c0_0 : Nat) (l0_0 : List Int) (A0_1 : Option Addr) (c0_1 : Nat) (l0_1 : List Int) (A1_0 : Option Addr) (c1_0 : Nat) (l1_0 : List Int) (A1_1 : Option Addr) (c1_1 : Nat) (l1_1 : List Int) (r : Int) (w : World) (hr0_0 : Kd.C (Kd.int .i64) w A0_0 l0_0.length l0_0) (hc0_0 : l0_0.length ≤ c0_0) (hr0_1 : Kd.C (Kd.int .i64) w A0_1 l0_1.length l0_1) (hc0_1 : l0_1.length ≤ c0_1) (hr1_0 : Kd.C (Kd.int .i64) w A1_0 l1_0.length l1_0) (hc1_0 : l1_0.length ≤ c1_0) (hr1_1 : Kd.C (Kd.int .i64) w A1_1 l1_1.length l1_1) (hc1_1 : l1_1.length ≤ c1_1) (h : liaison_Cuts_1.f k l0_0 l0_1 l1_0 l1_1 = some r) :
  Calls Tryd.prog 39 #[.agg #[.slice A0_0 l0_0.length c0_0, .slice A0_1 l0_1.length c0_1], .agg #[.slice A1_0 l1_0.length c1_0, .slice A1_1 l1_1.length c1_1]] w fun e w' => e = .returned (.int .i64 r) ∧ Below w.heap.size w w' ∧ Gr w w' := by
 have hu41 := Tryd.underlying41
 have HR0_0 := Aside0.mk hr0_0
 have HC0_0 := Aside0.mk hc0_0
 clear hr0_0 hc0_0
 have HR0_1 := Aside0.mk hr0_1
 have HC0_1 := Aside0.mk hc0_1
 clear hr0_1 hc0_1
 have HR1_0 := Aside0.mk hr1_0
 have HC1_0 := Aside0.mk hc1_0
 clear hr1_0 hc1_0
 have HR1_1 := Aside0.mk hr1_1
 have HC1_1 := Aside0.mk hc1_1
 clear hr1_1 hc1_1
 have HB := Aside0.mk (Below.refl w.heap.size w)
 have HX := Aside0.mk (Gr.refl w)
 have H : ((liaison_before.f k l0_0 l1_0).bind fun t179 => (some t179)) = some r := h
 clear h
 replace H := Option.bind_eq_some_iff.mp H
 obtain ⟨t179, A30, H⟩ := H
 replace H : (some t179) = some r := H
 have A3 := Aside0.mk A30
 clear A30
 obtain rfl := Option.some.inj H
 go_enter Tryd.func39, Tryd.ntmps39
 go_wp2_with (first | ((with_reducible refine gate_dst (N := 2) rfl ?_); refine box_eventG ?hg (N := 2) ?hd (cs := #[.slice A0_0 l0_0.length c0_0, .slice A0_1 l0_1.length c0_1]) (t := 41) ?hr ?_; (case hd => rfl); (case hg => rfl); (case hr => first | (go_simp; done) | (go_simp; rfl)); intro gb177 hg w4 hbox hb hgr; have HX0 := Aside0.mk (Gr.trans (by repeat (first | (with_reducible first | exact HX.out | apply Gr.alloc | apply Gr.drewN | apply Gr.drew) | exact HX.out)) hgr); clear hgr; clear HX; have HX := HX0; clear HX0; have n0_ := Aside0.mk (below_step (by repeat (first | (with_reducible first | exact HB.out | apply below_alloc | apply pw_below_drewN | apply below_drew1) | exact HB.out)) hb); have n1_ := Aside0.mk (hbox); have n2_ := Aside0.mk ((by rw [hg]; exact (below_size (by repeat (first | (with_reducible first | exact HB.out | apply below_alloc | apply pw_below_drewN | apply below_drew1) | exact HB.out))) : w.heap.size ≤ gb177)); have n3_ := Aside0.mk ((by rw [hg]; exact (below_size (by repeat (first | (with_reducible first | exact HB.out | apply below_alloc | apply pw_below_drewN | apply below_drew1) | exact HB.out))) : w.heap.size ≤ gb177)); clear HB; have HB := n0_; have BK177 := n1_; have GW177 := n2_; have GE177 := n3_; clear n0_ n1_ n2_ n3_; clear hb hbox hg) | ((with_reducible refine gate_dst (N := 3) rfl ?_); refine box_eventG ?hg (N := 3) ?hd (cs := #[.slice A1_0 l1_0.length c1_0, .slice A1_1 l1_1.length c1_1]) (t := 41) ?hr ?_; (case hd => rfl); (case hg => rfl); (case hr => first | (go_simp; done) | (go_simp; rfl)); intro gb178 hg w5 hbox hb hgr; have HX0 := Aside0.mk (Gr.trans (by repeat (first | (with_reducible first | exact HX.out | apply Gr.alloc | apply Gr.drewN | apply Gr.drew) | exact HX.out)) hgr); clear hgr; clear HX; have HX := HX0; clear HX0; have n0_ := Aside0.mk (blk_below (g := gb177) (o := .cells #[.slice A0_0 l0_0.length c0_0, .slice A0_1 l0_1.length c0_1] 41 (0, 0)) (by (with_reducible repeat (first | refine blk_drewN ?_ _ | refine blk_drew ?_ | refine blk_alloc ?_ _)); exact BK177.out) hb); have n1_ := Aside0.mk (below_step (by repeat (first | (with_reducible first | exact HB.out | apply below_alloc | apply pw_below_drewN | apply below_drew1 | refine below_set ?_ GE177.out) | exact HB.out)) hb); have n2_ := Aside0.mk (hbox); have n3_ := Aside0.mk ((by rw [hg]; exact (below_size (by repeat (first | (with_reducible first | exact HB.out | apply below_alloc | apply pw_below_drewN | apply below_drew1 | refine below_set ?_ GE177.out) | exact HB.out))) : w.heap.size ≤ gb178)); have n4_ := Aside0.mk ((by rw [hg]; exact (below_size (by repeat (first | (with_reducible first | exact HB.out | apply below_alloc | apply pw_below_drewN | apply below_drew1 | refine below_set ?_ GE177.out) | exact HB.out))) : w.heap.size ≤ gb178)); have n5_ := Aside0.mk ((by rw [hg]; exact Nat.ne_of_lt (blk_lt (g := gb177) (o := .cells #[.slice A0_0 l0_0.length c0_0, .slice A0_1 l0_1.length c0_1] 41 (0, 0)) (by (with_reducible repeat (first | refine blk_drewN ?_ _ | refine blk_drew ?_ | refine blk_alloc ?_ _)); exact BK177.out)) : gb177 ≠ gb178)); have n6_ := Aside0.mk ((by rw [hg]; exact Nat.ne_of_gt (blk_lt (g := gb177) (o := .cells #[.slice A0_0 l0_0.length c0_0, .slice A0_1 l0_1.length c0_1] 41 (0, 0)) (by (with_reducible repeat (first | refine blk_drewN ?_ _ | refine blk_drew ?_ | refine blk_alloc ?_ _)); exact BK177.out)) : gb178 ≠ gb177)); clear BK177; clear HB; have BK177 := n0_; have HB := n1_; have BK178 := n2_; have GW178 := n3_; have GE178 := n4_; have NB177_178 := n5_; have NB178_177 := n6_; clear n0_ n1_ n2_ n3_ n4_ n5_ n6_; clear hb hbox hg; have hnb6 := NB177_178.out; have hnc6 := NB178_177.out; have hcz7_0 : w5.cell? ⟨gb177, 0, none⟩ = some (.slice A0_0 l0_0.length c0_0) := (blk_cell BK177.out 0).trans rfl; have hcz7_1 : w5.cell? ⟨gb177, 1, none⟩ = some (.slice A0_1 l0_1.length c0_1) := (blk_cell BK177.out 1).trans rfl; have hfz7_0 := blk_frozen BK177.out 0; have hfz7_1 := blk_frozen BK177.out 1; have hcz8_0 : w5.cell? ⟨gb178, 0, none⟩ = some (.slice A1_0 l1_0.length c1_0) := (blk_cell BK178.out 0).trans rfl; have hcz8_1 : w5.cell? ⟨gb178, 1, none⟩ = some (.slice A1_1 l1_1.length c1_1) := (blk_cell BK178.out 1).trans rfl; have hfz8_0 := blk_frozen BK178.out 0; have hfz8_1 := blk_frozen BK178.out 1) | ((with_reducible refine gate_callee (f := 40) rfl ?_); refine goesL_ (some 9) rfl rfl Tryd.func40 (by kernel_rfl) rfl #[.slice A0_0 l0_0.length c0_0, .slice A1_0 l1_0.length c1_0] rfl (by (try simp only [List.map_toArray, List.map_cons, List.map_nil]); first | done | rfl | (simp only [List.length_drop, List.length_take]; rfl)) ?_; (with_reducible refine (liaison_before.calls k _ _ l0_0 _ _ l1_0 t179 _ ?side1 ?side2 ?side3 ?side4 A3.out).mono ?_); (case side1 => repeat (first | exact (Kd.C_below HR0_0.out HB.out) | (with_reducible refine Kd.C_alloc ?_ _) | (with_reducible refine Kd.C_drewN ?_ _) | (with_reducible refine Kd.C_drew ?_))); (case side2 => exact HC0_0.out); (case side3 => repeat (first | exact (Kd.C_below HR1_0.out HB.out) | (with_reducible refine Kd.C_alloc ?_ _) | (with_reducible refine Kd.C_drewN ?_ _) | (with_reducible refine Kd.C_drew ?_))); (case side4 => exact HC1_0.out); rintro e w' ⟨rfl, ⟨nd, rfl⟩⟩; refine ⟨_, rfl, ?_⟩))
 go_ret
 exact ⟨by first | rfl | (simp [errW_none, errW_some] <;> rfl) | (simp [*, errW_none, errW_some] <;> rfl), by repeat (first | (with_reducible first | exact HB.out | apply below_alloc | apply pw_below_drewN | apply below_drew1 | refine below_set ?_ GE177.out | refine below_set ?_ GE178.out) | exact HB.out), (by repeat (first | (with_reducible first | exact HX.out | apply Gr.alloc | apply Gr.drewN | apply Gr.drew) | exact HX.out))⟩
theorem liaison_Cuts_1.calls (k : Nat) (A0_0 : Option Addr) (c0_0 : Nat) (l0_0 : List Int) (A0_1 : Option Addr) (c0_1 : Nat) (l0_1 : List Int) (A1_0 : Option Addr) (c1_0 : Nat) (l1_0 : List Int) (A1_1 : Option Addr) (c1_1 : Nat) (l1_1 : List Int) (r : Int) (w : World) (hr0_0 : Kd.C (Kd.int .i64) w A0_0 l0_0.length l0_0) (hc0_0 : l0_0.length ≤ c0_0) (hr0_1 : Kd.C (Kd.int .i64) w A0_1 l0_1.length l0_1) (hc0_1 : l0_1.length ≤ c0_1) (hr1_0 : Kd.C (Kd.int .i64) w A1_0 l1_0.length l1_0) (hc1_0 : l1_0.length ≤ c1_0) (hr1_1 : Kd.C (Kd.int .i64) w A1_1 l1_1.length l1_1) (hc1_1 : l1_1.length ≤ c1_1) (h : liaison_Cuts_1.f k l0_0 l0_1 l1_0 l1_1 = some r) :
  Calls Tryd.prog 39 #[.agg #[.slice A0_0 l0_0.length c0_0, .slice A0_1 l0_1.length c0_1], .agg #[.slice A1_0 l1_0.length c1_0, .slice A1_1 l1_1.length c1_1]] w fun e w' => e = .returned (.int .i64 r) ∧ Below w.heap.size w w' :=
 (liaison_Cuts_1.exact k A0_0 c0_0 l0_0 A0_1 c0_1 l0_1 A1_0 c1_0 l1_0 A1_1 c1_1 l1_1 r w hr0_0 hc0_0 hr0_1 hc0_1 hr1_0 hc1_0 hr1_1 hc1_1 h).mono fun _ _ h_ => ⟨h_.1, h_.2.1⟩
end
end Go.Proofs.YtbghfbhlbfcloaaDoor.PL
namespace Go.Proofs.YtbghfbhlbfcloaaDoor.PL
section
open Go.RowKit Go.Proofs.YtbghfbhlbfcloaaDoorW.PrintWords Go.Proofs.YtbghfbhlbfcloaaDoorW.PrintLast Go.Proofs.YtbghfbhlbfcloaaDoorW.PrintMore
attribute [local go_sem] Oper.semAt_some
set_option linter.unusedVariables false
set_option linter.unusedSimpArgs false

/-! ### the order of sets -/
def cmpL : List Int → List Int → Int
 | [], [] => 0
 | [], _ :: _ => -1
 | _ :: _, [] => 1
 | a :: r, b :: t => if a < b then -1 else if b < a then 1 else cmpL r t
def befL (a b : List Int) : Int := if (a.length : Int) = (b.length : Int) then cmpL a b else (a.length : Int) - (b.length : Int)
theorem cmpL_neg : ∀ a b, cmpL b a = - cmpL a b
 | [], [] => rfl
 | [], _ :: _ => rfl
 | _ :: _, [] => rfl
 | a :: r, b :: t => by
  unfold cmpL
  by_cases h1 : a < b
  ·simp only [if_pos h1, if_neg (show ¬ b < a by omega)]; rfl
  ·by_cases h2 : b < a
   ·simp only [if_neg h1, if_pos h2]
   ·simp only [if_neg h1, if_neg h2]
    exact cmpL_neg r t
theorem cmpL_eq : ∀ a b, cmpL a b = 0 → a = b
 | [], [], _ => rfl
 | [], _ :: _, h => by simp [cmpL] at h
 | _ :: _, [], h => by simp [cmpL] at h
 | a :: r, b :: t, h => by
  unfold cmpL at h
  by_cases h1 : a < b
  ·rw [if_pos h1] at h; omega
  ·by_cases h2 : b < a
   ·rw [if_neg h1, if_pos h2] at h; omega
   ·rw [if_neg h1, if_neg h2] at h
    rw [cmpL_eq r t h, show a = b by omega]
theorem cmpL_le : ∀ a b c, cmpL a b ≤ 0 → cmpL b c ≤ 0 → cmpL a c ≤ 0
 | [], _, [], _, _ => by simp [cmpL]
 | [], _, _ :: _, _, _ => by simp [cmpL]
 | _ :: _, [], _, h, _ => by simp [cmpL] at h
 | _ :: _, _ :: _, [], _, h => by simp [cmpL] at h
 | a :: r, b :: t, c :: u, h, k => by
  have ih := cmpL_le r t u
  unfold cmpL at h k ⊢
  split at h <;> split at k <;> (try split at h) <;> (try split at k) <;> split <;> (try split) <;> first | omega | exact ih h k
theorem befL_neg (a b : List Int) : befL b a = - befL a b := by
 unfold befL
 by_cases h : (a.length : Int) = b.length
 ·rw [if_pos h, if_pos h.symm, cmpL_neg]
 ·rw [if_neg h, if_neg (fun e => h e.symm)]; omega
theorem befL_eq (a b : List Int) (h : befL a b = 0) : a = b := by
 unfold befL at h
 split at h
 ·exact cmpL_eq a b h
 ·omega
theorem befL_le (a b c : List Int) (h : befL a b ≤ 0) (k : befL b c ≤ 0) : befL a c ≤ 0 := by
 have ih := cmpL_le a b c
 unfold befL at *
 split at h <;> split at k <;> split <;> first | omega | exact ih h k
def befC (x y : S41) : Int := befL x.f0 y.f0
theorem befL_swo {α : Type} (f : α → List Int) : Go.Sort.SWO (Go.Proofs.ltOf fun x y => befL (f x) (f y)) where
 irrefl x := by
  have h := befL_neg (f x) (f x)
  simp only [Go.Proofs.ltOf, decide_eq_false_iff_not]; omega
 trans x y z h1 h2 := by
  simp only [Go.Proofs.ltOf, decide_eq_true_eq] at *
  have h3 := befL_le (f x) (f y) (f z) (by omega) (by omega)
  rcases Int.lt_or_eq_of_le h3 with h | h
  ·exact h
  ·have e := befL_eq _ _ h
   rw [e] at h1
   have h4 := befL_neg (f y) (f z)
   omega
 ntrans x y z h1 h2 := by
  simp only [Go.Proofs.ltOf, decide_eq_false_iff_not] at *
  have h4 := befL_neg (f x) (f y)
  have h5 := befL_neg (f y) (f z)
  have h6 := befL_neg (f x) (f z)
  have h3 := befL_le (f z) (f y) (f x) (by omega) (by omega)
  omega

/-! ### what Cuts computes -/
def CU.k : Nat := 1000
def subs (m : Int) : Nat → Int → Option (List Int)
 | 0, _ => none
 | q + 1, s => if s = 0 then some [] else if 0 < s ∧ 0 ≤ nextS m s ∧ nextS m s < s then (subs m q (nextS m s)).bind fun r => some (s :: r) else none
theorem subs_chain (m : Int) : ∀ (q : Nat) (s : Int) (ms : List Int), subs m q s = some ms → Chain m s ms
 | 0, _, _, h => by simp [subs] at h
 | q + 1, s, ms, h => by
  unfold subs at h
  split at h
  ·rename_i h0
   injection h with h
   subst h
   exact h0
  ·split at h
   ·rename_i h1
    obtain ⟨r, hr, h⟩ := Option.bind_eq_some_iff.1 h
    injection h with h
    subst h
    exact ⟨rfl, h1.1, h1.2.1, h1.2.2, subs_chain m q _ r hr⟩
   ·cases h
def cnB (L : List Int) (s : Int) : Bool := (liaison_links_connected.f CU.k L s).getD false
/-- What a round does at the subset x of m. -/
def ctO (L : List Int) (m x : Int) : Option (List S41) :=
 if Go.bits .and .u64 x (Go.bits .and .u64 m (IntKind.u64.wrap (-m))) = 0 then some [] else
 if Go.bits .andNot .u64 m x = 0 then some [] else
 (liaison_links_connected.f CU.k L (Go.bits .andNot .u64 m x)).bind fun c => if c = true then
  (liaison_listed.f CU.k x).bind fun a => (liaison_listed.f CU.k (Go.bits .andNot .u64 m x)).bind fun b => some [⟨a, b⟩]
 else some []
def allO (L : List Int) (m : Int) : List Int → Option (List S41)
 | [] => some []
 | x :: r => (ctO L m x).bind fun a => (allO L m r).bind fun b => some (a ++ b)
def sortC (l : List S41) : List S41 := isort (leC befC) l
def okC (l : List S41) : Bool := decide (l.length ≤ 1000) && (l.all fun x => l.all fun y => liaison_Cuts_1.f CU.k x.f0 x.f1 y.f0 y.f1 == some (befC x y)) && decide ((l.map fun x => x.f0).Nodup)
def CU.f (a0 : Int) (l0 : List S68) (l1 : List Int) : Option (List S41 × Int) :=
 (liaison_opened.f CU.k a0 l0 l1).bind fun t => if t.2.2 = 0 then (liaison_links_connected.f CU.k t.1 t.2.1).bind fun c => if c = true then
  (subs t.2.1 1000 t.2.1).bind fun ms => if ms.all (fun s => (liaison_links_connected.f CU.k t.1 s).isSome) = true then (allO t.1 t.2.1 (ms.filter (cnB t.1))).bind fun out => if okC out = true then some (sortC out, 0) else none else none
 else some ([], 17) else some ([], t.2.2)

theorem allO_at {L : List Int} {m : Int} : ∀ {l : List Int} {out : List S41}, allO L m l = some out → ∀ x ∈ l, ∃ a, ctO L m x = some a
 | [], _, _, x, hx => by simp at hx
 | y :: r, out, h, x, hx => by
  unfold allO at h
  obtain ⟨a, ha, h⟩ := Option.bind_eq_some_iff.1 h
  obtain ⟨b, hb, h⟩ := Option.bind_eq_some_iff.1 h
  rcases List.mem_cons.1 hx with rfl | hx
  ·exact ⟨a, ha⟩
  ·exact allO_at hb x hx
theorem allO_snoc {L : List Int} {m : Int} : ∀ {l : List Int} {out a : List S41} {x : Int}, allO L m l = some out → ctO L m x = some a → allO L m (l ++ [x]) = some (out ++ a)
 | [], out, a, x, h, hx => by
  simp only [allO, Option.some.injEq] at h
  subst h
  simp [allO, hx]
 | y :: r, out, a, x, h, hx => by
  unfold allO at h
  obtain ⟨p, hp, h⟩ := Option.bind_eq_some_iff.1 h
  obtain ⟨b, hb, h⟩ := Option.bind_eq_some_iff.1 h
  injection h with h
  subst h
  simp only [List.cons_append, allO, hp, Option.bind_some, allO_snoc hb hx, List.append_assoc]
theorem ctO_len {L : List Int} {m x : Int} {a : List S41} (h : ctO L m x = some a) : a.length ≤ 1 := by
 unfold ctO at h
 split at h
 ·injection h with h; subst h; simp
 ·split at h
  ·injection h with h; subst h; simp
  ·obtain ⟨c, _, h⟩ := Option.bind_eq_some_iff.1 h
   split at h
   ·obtain ⟨p, _, h⟩ := Option.bind_eq_some_iff.1 h
    obtain ⟨q, _, h⟩ := Option.bind_eq_some_iff.1 h
    injection h with h; subst h; simp
   ·injection h with h; subst h; simp
theorem allO_len {L : List Int} {m : Int} : ∀ {l : List Int} {out : List S41}, allO L m l = some out → out.length ≤ l.length
 | [], out, h => by
  simp only [allO, Option.some.injEq] at h
  subst h
  simp
 | y :: r, out, h => by
  unfold allO at h
  obtain ⟨p, hp, h⟩ := Option.bind_eq_some_iff.1 h
  obtain ⟨b, hb, h⟩ := Option.bind_eq_some_iff.1 h
  injection h with h
  subst h
  have h1 := ctO_len hp
  have h2 := allO_len hb
  simp only [List.length_append, List.length_cons]
  omega
theorem subs_len (m : Int) : ∀ (q : Nat) (s : Int) (ms : List Int), subs m q s = some ms → ms.length ≤ q
 | 0, _, _, h => by simp [subs] at h
 | q + 1, s, ms, h => by
  unfold subs at h
  split at h
  ·injection h with h; subst h; simp
  ·split at h
   ·obtain ⟨r, hr, h⟩ := Option.bind_eq_some_iff.1 h
    injection h with h
    subst h
    have := subs_len m q _ r hr
    simp; omega
   ·cases h
end
end Go.Proofs.YtbghfbhlbfcloaaDoor.PL
namespace Go.Proofs.YtbghfbhlbfcloaaDoor.PL
section
set_option linter.unusedVariables false
set_option linter.unusedSimpArgs false
open Go.RowKit Go.Proofs.YtbghfbhlbfcloaaDoorW.PrintWords Go.Proofs.YtbghfbhlbfcloaaDoorW.PrintLast Go.Proofs.YtbghfbhlbfcloaaDoorW.PrintMore

theorem EI_wo {m p : Nat} : ((EI m).filter fun x => !decide (x ∈ EI p)) = EI (wo m p) := by
 unfold EI El
 rw [List.filter_map, List.filter_filter]
 congr 1
 refine List.filter_congr fun i hi => ?_
 have hi6 := List.mem_range.1 hi
 rw [wo_bit m p i hi6]
 have e : decide (((i : Nat) : Int) ∈ List.map (fun i : Nat => (i : Int)) (List.filter (fun i => p.testBit i) (List.range 6))) = p.testBit i := by
  cases e : p.testBit i with
  | true => exact decide_eq_true (List.mem_map.2 ⟨i, List.mem_filter.2 ⟨hi, e⟩, rfl⟩)
  | false =>
   refine decide_eq_false fun h => ?_
   obtain ⟨j, hj, he⟩ := List.mem_map.1 h
   obtain rfl : j = i := by omega
   rw [(List.mem_filter.1 hj).2] at e
   cases e
 simp only [Function.comp, e]
 exact Bool.and_comm _ _
theorem piece_ex {A : List Nat} (hA : Gd A) (m : Nat) (hm : m < 64) (h0 : m ≠ 0) : ∃ p, IsP A m p := by
 obtain ⟨p, _, h⟩ := piece_f hA m hm h0 700 (Nat.le_refl _)
 exact ⟨p, h⟩
/-! ### connected masks -/
def cB (A : List Nat) (x : Nat) : Bool := cnB (LI A) (x : Int)
theorem cB_f {A : List Nat} (hA : Gd A) {x : Nat} (hx : x < 64) (h0 : x ≠ 0) (k : Nat) (hk : 700 ≤ k) : liaison_links_connected.f k (LI A) (x : Int) = some (cB A x) := by
 obtain ⟨p, hp⟩ := piece_ex hA x hx h0
 unfold cB cnB
 rw [connected_f hA x p hx h0 hp k hk, connected_f hA x p hx h0 hp CU.k (by decide)]
 rfl
theorem rcB_f {A : List Nat} {E : List S68} (hA : Gd A) (hE : Ed A E) (n : Int) {x : Nat} (hx : x < 64) (h0 : x ≠ 0) (k : Nat) (hk : 200 ≤ k) : dowellaw29_connected.f k n E (EI x) = some (cB A x) := by
 obtain ⟨p, hp⟩ := piece_ex hA x hx h0
 rw [rc_f hE n hx h0 hp k hk]
 unfold cB cnB
 rw [connected_f hA x p hx h0 hp CU.k (by decide)]
 rfl
end
end Go.Proofs.YtbghfbhlbfcloaaDoor.PL
namespace Go.Proofs.YtbghfbhlbfcloaaDoor.PL
section
open Go.RowKit Go.Proofs.YtbghfbhlbfcloaaDoorW.PrintWords Go.Proofs.YtbghfbhlbfcloaaDoorW.PrintLast Go.Proofs.YtbghfbhlbfcloaaDoorW.PrintMore
attribute [local go_sem] max2_int min2_int max_two min_two max_three min_three max_four min_four   -- for this text's walks alone
set_option linter.unusedVariables false
set_option linter.unusedSimpArgs false
/-! ### slices_Equal_int_int: function 60 -/
def slices_Equal_int_int.l0 : Nat → List Int → List Int → Int → Int → Option (Bool)
 | 0, _, _, _, _ => none
 | k + 1, x0, x1, x12, x13 => if x13 < x12 then (if 0 ≤ x13 then (if x13 < (x0.length : Int) then (if x13 < (x1.length : Int) then (if (rd x0 x13) = (rd x1 x13) then (slices_Equal_int_int.l0 k x0 x1 x12 (wrap64 (x13 + 1))) else (some false)) else (none)) else (none)) else (none)) else (some true)
def slices_Equal_int_int.f (k : Nat) (l0 : List Int) (l1 : List Int) : Option (Bool) := if (l0.length : Int) = (l1.length : Int) then (slices_Equal_int_int.l0 k l0 l1 (l0.length : Int) 0) else (some false)
theorem slices_Equal_int_int.mono_l : ∀ k, (∀ y0 y1 y2 y3, LeO (slices_Equal_int_int.l0 k y0 y1 y2 y3) (slices_Equal_int_int.l0 (k + 1) y0 y1 y2 y3))
 | 0 => fun _ _ _ _ r h => by simp [slices_Equal_int_int.l0] at h
 | k + 1 => by
  have ih0 := slices_Equal_int_int.mono_l k
  ·intro y0 y1 y2 y3
   unfold slices_Equal_int_int.l0
   repeat' first
   | (with_reducible exact ih0 _ _ _ _)
   | (with_reducible exact LeO.refl _)
   | (with_reducible exact LeO.none _)
   | (with_reducible refine LeO.ite ?_ ?_)
   | (with_reducible refine LeO.bind ?_ (fun _ => ?_))
   | exact ih0 _ _ _ _
   | exact LeO.none _
   | refine LeO.ite ?_ ?_
   | refine LeO.bind ?_ (fun _ => ?_)
theorem slices_Equal_int_int.mono : ∀ a0 a1 k, LeO (slices_Equal_int_int.f k a0 a1) (slices_Equal_int_int.f (k + 1) a0 a1) := by
 intro a0 a1 k
 have ih0 := slices_Equal_int_int.mono_l k
 unfold slices_Equal_int_int.f
 repeat' first
   | (with_reducible exact ih0 _ _ _ _)
   | (with_reducible exact LeO.refl _)
   | (with_reducible exact LeO.none _)
   | (with_reducible refine LeO.ite ?_ ?_)
   | (with_reducible refine LeO.bind ?_ (fun _ => ?_))
   | exact ih0 _ _ _ _
   | exact LeO.none _
   | refine LeO.ite ?_ ?_
   | refine LeO.bind ?_ (fun _ => ?_)
set_option maxHeartbeats 8000000 in
set_option maxRecDepth 100000 in
theorem slices_Equal_int_int.calls (k : Nat) (A0 : Option Addr) (c0 : Nat) (l0 : List Int) (A1 : Option Addr) (c1 : Nat) (l1 : List Int) (r : Bool) (w : World) (hr0 : Kd.C (Kd.int .i64) w A0 l0.length l0) (hc0 : l0.length ≤ c0) (hr1 : Kd.C (Kd.int .i64) w A1 l1.length l1) (hc1 : l1.length ≤ c1) (h : slices_Equal_int_int.f k l0 l1 = some r) :
  Calls Tryd.prog 60 #[.slice A0 l0.length c0, .slice A1 l1.length c1] w fun e w' => e = .returned (.bool r) ∧ Drawn0 w w' := by
 have HR0 := Aside0.mk hr0
 have HC0 := Aside0.mk hc0
 clear hr0 hc0
 have HR1 := Aside0.mk hr1
 have HC1 := Aside0.mk hc1
 clear hr1 hc1
 have H : (if (l0.length : Int) = (l1.length : Int) then (slices_Equal_int_int.l0 k l0 l1 (l0.length : Int) 0) else (some false)) = some r := h
 clear h
 by_cases c3 : (l0.length : Int) = (l1.length : Int)
 ·rw [if_pos c3] at H
  have c3b0 : ((l0.length : Int) == (l1.length : Int)) = true := beq_iff_eq.mpr c3
  have c3b1 : ((l0.length : Int) != (l1.length : Int)) = false := bne_eq_false_iff_eq.mpr c3
  have c3b2 : (l0.length == l1.length) = true := by first | simpa using c3 | (simp at c3 ⊢; omega)
  clear c3
  have H' := Aside0.mk H
  clear H
  go_enter Tryd.func60, Tryd.ntmps60
  go_wp2
  repeat (go_quiet (fail); try go_wp2)
  go_loopg [13] k (fun kq v13 w' => ∃ (x13_1 : Int), v13 = .int .i64 x13_1 ∧ Aside0 (slices_Equal_int_int.l0 kq l0 l1 (l0.length : Int) x13_1 = some r) ∧ Aside0 (kq ≤ k) ∧ Drawn0 w w')
  case atStart => exact ⟨(0), (by first | rfl | (simp; done) | (simp [*]; done)), H', ⟨Nat.le_refl _⟩, by repeat (first | exact Drawn0.refl _ | apply Drawn0.step)⟩
  case round =>
   clear H'
   try clear c1
   try clear p2
   try clear c3
   try clear c3b0
   try clear c3b1
   try clear c3b2
   obtain ⟨x13_1, rfl, HA, HK1, ⟨m1, rfl⟩⟩ := hrel
   cases gk with
   | zero => exact absurd HA.out (by simp [slices_Equal_int_int.l0])
   | succ k1 =>
    have H := HA.out
    clear HA
    simp only [slices_Equal_int_int.l0] at H
    by_cases c4 : x13_1 < (l0.length : Int)
    ·rw [if_pos c4] at H
     have c4b0 : decide (x13_1 < (l0.length : Int)) = true := decide_eq_true c4
     clear c4
     by_cases c5 : 0 ≤ x13_1
     ·rw [if_pos c5] at H
      have c5b0 : decide (0 ≤ x13_1) = true := decide_eq_true c5
      clear c5
      by_cases c6 : x13_1 < (l0.length : Int)
      ·rw [if_pos c6] at H
       have c6b0 : decide (x13_1 < (l0.length : Int)) = true := decide_eq_true c6
       clear c6
       by_cases c7 : x13_1 < (l1.length : Int)
       ·rw [if_pos c7] at H
        have c7b0 : decide (x13_1 < (l1.length : Int)) = true := decide_eq_true c7
        clear c7
        by_cases c8 : (rd l0 x13_1) = (rd l1 x13_1)
        ·rw [if_pos c8] at H
         have c8b0 : ((rd l0 x13_1) == (rd l1 x13_1)) = true := beq_iff_eq.mpr c8
         have c8b1 : ((rd l0 x13_1) != (rd l1 x13_1)) = false := bne_eq_false_iff_eq.mpr c8
         clear c8
         have H' := Aside0.mk H
         clear H
         have p422 : 0 ≤ (x13_1 : Int) := of_decide_eq_true (by first | (with_reducible assumption) | assumption)
         have q422 : x13_1 < (l0.length : Int) := of_decide_eq_true (by first | (with_reducible assumption) | assumption)
         obtain ⟨ad422, e422, hx422_0⟩ := Kd.at_int HR0.out x13_1 p422 q422
         cases e422
         replace p422 := eq_true p422
         replace q422 := eq_true q422
         have p423 : 0 ≤ (x13_1 : Int) := of_decide_eq_true (by first | (with_reducible assumption) | assumption)
         have q423 : x13_1 < (l1.length : Int) := of_decide_eq_true (by first | (with_reducible assumption) | assumption)
         obtain ⟨ad423, e423, hx423_0⟩ := Kd.at_int HR1.out x13_1 p423 q423
         cases e423
         replace p423 := eq_true p423
         replace q423 := eq_true q423
         go_wp2
         repeat (go_quiet (fail); try go_wp2)
         go_roundg k1
         case measure => have := HK1.out; omega
         case rel => exact ⟨(wrap64 (x13_1 + 1)), (by first | rfl | (simp; done) | (simp [*]; done)), H', ⟨by have := HK1.out; omega⟩, by repeat (first | exact Drawn0.refl _ | apply Drawn0.step)⟩
        ·rw [if_neg c8] at H
         have c8b0 : ((rd l0 x13_1) == (rd l1 x13_1)) = false := beq_eq_false_iff_ne.mpr c8
         have c8b1 : ((rd l0 x13_1) != (rd l1 x13_1)) = true := bne_iff_ne.mpr c8
         obtain rfl := Option.some.inj H
         have p422 : 0 ≤ (x13_1 : Int) := of_decide_eq_true (by first | (with_reducible assumption) | assumption)
         have q422 : x13_1 < (l0.length : Int) := of_decide_eq_true (by first | (with_reducible assumption) | assumption)
         obtain ⟨ad422, e422, hx422_0⟩ := Kd.at_int HR0.out x13_1 p422 q422
         cases e422
         replace p422 := eq_true p422
         replace q422 := eq_true q422
         have p423 : 0 ≤ (x13_1 : Int) := of_decide_eq_true (by first | (with_reducible assumption) | assumption)
         have q423 : x13_1 < (l1.length : Int) := of_decide_eq_true (by first | (with_reducible assumption) | assumption)
         obtain ⟨ad423, e423, hx423_0⟩ := Kd.at_int HR1.out x13_1 p423 q423
         cases e423
         replace p423 := eq_true p423
         replace q423 := eq_true q423
         go_wp2
         repeat (go_quiet (fail); try go_wp2)
         go_ret
         exact ⟨by first | rfl | (simp; done) | (simp [*]; done), by repeat (first | exact Drawn0.refl _ | apply Drawn0.step)⟩
       ·rw [if_neg c7] at H
        exact absurd H (by simp)
      ·rw [if_neg c6] at H
       exact absurd H (by simp)
     ·rw [if_neg c5] at H
      exact absurd H (by simp)
    ·rw [if_neg c4] at H
     have c4b0 : decide (x13_1 < (l0.length : Int)) = false := decide_eq_false c4
     clear c4
     obtain rfl := Option.some.inj H
     go_wp2
     repeat (go_quiet (fail); try go_wp2)
     go_ret
     exact ⟨by first | rfl | (simp; done) | (simp [*]; done), by repeat (first | exact Drawn0.refl _ | apply Drawn0.step)⟩
 ·rw [if_neg c3] at H
  have c3b0 : ((l0.length : Int) == (l1.length : Int)) = false := beq_eq_false_iff_ne.mpr c3
  have c3b1 : ((l0.length : Int) != (l1.length : Int)) = true := bne_iff_ne.mpr c3
  have c3b2 : (l0.length == l1.length) = false := by first | simpa using c3 | (simp at c3 ⊢; omega)
  obtain rfl := Option.some.inj H
  go_enter Tryd.func60, Tryd.ntmps60
  go_wp2
  repeat (go_quiet (fail); try go_wp2)
  go_ret
  exact ⟨by first | rfl | (simp; done) | (simp [*]; done), by repeat (first | exact Drawn0.refl _ | apply Drawn0.step)⟩
end
end Go.Proofs.YtbghfbhlbfcloaaDoor.PL
namespace Go.Proofs
section
set_option linter.unusedVariables false
set_option linter.unusedSimpArgs false
open Go.Shelf
def Tryd.contG_ren : Go.Shelf.Ren := ⟨fun | 8 => 56 | 6 => 77 | n => n, fun | 22 => 52 | 23 => 57 | 25 => 94 | 4 => 4 | 3 => 3 | 0 => 0 | n => n, fun | n => n⟩
theorem Tryd.contG : Go.Proofs.SlLaysH0.n8 Tryd.prog Tryd.contG_ren := {
 mixed := by kernel_rfl
 f6 := ⟨Tryd.f77.name, by decide, Tryd.func77.trans (congrArg some (by kernel_rfl))⟩
 f8 := ⟨Tryd.f56.name, by decide, Tryd.func56.trans (congrArg some (by kernel_rfl))⟩
 t0 := Tryd.underlying0
 a0 := Tryd.isAgg0
 z0 := Tryd.sizeOf0
 v0 := Tryd.zeroValue0
 t3 := Tryd.underlying3
 a3 := Tryd.isAgg3
 z3 := Tryd.sizeOf3
 v3 := Tryd.zeroValue3
 t4 := Tryd.underlying4
 a4 := Tryd.isAgg4
 z4 := Tryd.sizeOf4
 v4 := Tryd.zeroValue4
 t22 := Tryd.underlying52
 a22 := Tryd.isAgg52
 z22 := Tryd.sizeOf52
 v22 := Tryd.zeroValue52
 t25 := Tryd.underlying94
 a25 := Tryd.isAgg94
 z25 := Tryd.sizeOf94
 v25 := Tryd.zeroValue94 }
def Tryd.contS_ren : Go.Shelf.Ren := ⟨fun | 17 => 75 | 15 => 96 | 20 => 112 | n => n, fun | 9 => 9 | 23 => 104 | 4 => 4 | 3 => 3 | 0 => 0 | 21 => 21 | n => n, fun | n => n⟩
theorem Tryd.contS : Go.Proofs.LaysGw.n17 Tryd.prog Tryd.contS_ren := {
 mixed := by kernel_rfl
 f15 := Tryd.func96.trans (congrArg some (by kernel_rfl))
 f17 := Tryd.func75.trans (congrArg some (by kernel_rfl))
 f20 := Tryd.func112.trans (congrArg some (by kernel_rfl))
 t0 := Tryd.underlying0
 a0 := Tryd.isAgg0
 z0 := Tryd.sizeOf0
 v0 := Tryd.zeroValue0
 i0 := by kernel_rfl
 t3 := Tryd.underlying3
 a3 := Tryd.isAgg3
 z3 := Tryd.sizeOf3
 v3 := Tryd.zeroValue3
 i3 := by kernel_rfl
 t4 := Tryd.underlying4
 a4 := Tryd.isAgg4
 z4 := Tryd.sizeOf4
 v4 := Tryd.zeroValue4
 i4 := by kernel_rfl
 t9 := Tryd.underlying9
 a9 := Tryd.isAgg9
 z9 := Tryd.sizeOf9
 v9 := Tryd.zeroValue9
 i9 := by kernel_rfl
 t21 := Tryd.underlying21
 a21 := Tryd.isAgg21
 z21 := Tryd.sizeOf21
 v21 := Tryd.zeroValue21
 i21 := by kernel_rfl
 t23 := Tryd.underlying104
 a23 := Tryd.isAgg104
 z23 := Tryd.sizeOf104
 v23 := Tryd.zeroValue104
 i23 := by kernel_rfl }
end
end Go.Proofs
namespace Go.Proofs.YtbghfbhlbfcloaaDoor.PL
section
open Go.RowKit Go.Proofs.YtbghfbhlbfcloaaDoorW.PrintWords Go.Proofs.YtbghfbhlbfcloaaDoorW.PrintLast Go.Proofs.YtbghfbhlbfcloaaDoorW.PrintMore
set_option linter.unusedVariables false
set_option linter.unusedSimpArgs false

set_option maxHeartbeats 1000000 in
theorem clo57 (B : Nat) (s y0 : ByteArray) (v : Value) (W : World) (hc : W.cell? ⟨B, 0, none⟩ = some (.string s)) (A : Option Addr) (n c : Nat) (hv : v = .slice A n c) :
  Calls Tryd.prog 57 #[.agg #[.string y0, v], .pointer (some ⟨B, 0, none⟩)] W fun e w' => e = .returned (.bool (y0.toList == s.toList)) ∧ Below W.heap.size W w' := by
 subst hv
 have hu57 := Tryd.underlying57
 have hlt := World.block_lt_of_cell? W _ hc
 have hc2 := (below_alloc (Below.refl W.heap.size W) (.cells #[.string y0, .slice A n c] 57)).cell (p := ⟨B, 0, none⟩) hlt
 rw [hc] at hc2
 go_enter Tryd.func57, Tryd.ntmps57
 go_wp2
 go_ret
 exact ⟨rfl, below_alloc (Below.refl _ _) _⟩

set_option maxHeartbeats 1000000 in
theorem clo59 (k : Nat) (B : Nat) (y0 : ByteArray) (xs ys : List Int) (A A' : Option Addr) (c c' : Nat) (r : Bool) (W : World) (hc : W.cell? ⟨B, 1, none⟩ = some (.slice A xs.length c)) (hx : Kd.C (Kd.int .i64) W A xs.length xs) (hxc : xs.length ≤ c) (hy : Kd.C (Kd.int .i64) W A' ys.length ys) (hyc : ys.length ≤ c')
  (h : slices_Equal_int_int.f k xs ys = some r) :
  Calls Tryd.prog 59 #[.agg #[.string y0, .slice A' ys.length c'], .pointer (some ⟨B, 0, none⟩)] W fun e w' => e = .returned (.bool r) ∧ Below W.heap.size W w' := by
 have hu57 := Tryd.underlying57
 have hlt := World.block_lt_of_cell? W _ hc
 have hc2 := (below_alloc (Below.refl W.heap.size W) (.cells #[.string y0, .slice A' ys.length c'] 57)).cell (p := ⟨B, 1, none⟩) hlt
 rw [hc] at hc2
 have HE := Aside0.mk (slices_Equal_int_int.calls k A c xs A' c' ys r (W.alloc (.cells #[.string y0, .slice A' ys.length c'] 57)) (Kd.C_alloc hx _) hxc (Kd.C_alloc hy _) hyc h)
 clear hx hy hxc hyc h
 go_enter Tryd.func59, Tryd.ntmps59
 go_wp2_with (go_at_call 60; refine HE.out.mono ?_; rintro e w' ⟨rfl, ⟨nd, rfl⟩⟩)
 go_ret
 exact ⟨rfl, pw_below_drewN (below_alloc (Below.refl _ _) _) _⟩
end
end Go.Proofs.YtbghfbhlbfcloaaDoor.PL
namespace Go.Proofs.YtbghfbhlbfcloaaDoor.PL
section
open Go.RowKit Go.Proofs Go.Proofs.YtbghfbhlbfcloaaDoorW.PrintWords Go.Proofs.YtbghfbhlbfcloaaDoorW.PrintLast Go.Proofs.YtbghfbhlbfcloaaDoorW.PrintMore
set_option linter.unusedVariables false
set_option linter.unusedSimpArgs false

def badR (r : Nat) : Bool := decide (r < 33) || decide (126 < r)
def nameB (s : ByteArray) : Bool := decide (0 < s.size) && decide (s.size ≤ 40) && !(decide (0 ≤ Lib.idxFunc badR true s))

theorem pred76 (w : World) : PredAt Tryd.prog 76 #[] encR badR w := fun W r _ => by
 unfold FnGives
 by_cases h1 : (r : Int) < 33
 ·have h2 : r < 33 := by omega
  go_enter Tryd.func76, Tryd.ntmps76
  go_wp2
  go_ret
  exact ⟨by simp [badR, h2], 0, rfl⟩
 ·have h2 : ¬ r < 33 := by omega
  by_cases h3 : (126 : Int) < r
  ·have h4 : 126 < r := by omega
   go_enter Tryd.func76, Tryd.ntmps76
   go_wp2
   go_ret
   exact ⟨by simp [badR, h4], 0, rfl⟩
  ·have h4 : ¬ 126 < r := by omega
   go_enter Tryd.func76, Tryd.ntmps76
   go_wp2
   go_ret
   exact ⟨by simp [badR, h2, h4], 0, rfl⟩

theorem contS (s : ByteArray) (w : World) : Calls Tryd.prog 75 #[.string s, .func (.func 76) #[] #[]] w fun e w' => e = .returned (.bool (decide (0 ≤ Lib.idxFunc badR true s))) ∧ Below w.heap.size w w' :=
 Any.strings_ContainsFunc Tryd.contS 76 #[] (enters_of Tryd.func76 (by kernel_rfl) rfl) badR s w (pred76 w)

set_option maxHeartbeats 1000000 in
theorem nameC (s : ByteArray) (w : World) : Calls Tryd.prog 55 #[.string s] w fun e w' => e = .returned (.bool (nameB s)) ∧ Below w.heap.size w w' := by
 have HC := Aside0.mk (fun w => contS s w)
 by_cases h1 : (0 : Int) < s.size
 ·by_cases h2 : (s.size : Int) ≤ 40
  ·go_enter Tryd.func55, Tryd.ntmps55
   go_wp2_with (go_at_call 75; refine (HC.out _).mono ?_; rintro e w' ⟨rfl, hb⟩)
   go_ret
   have e : nameB s = !decide (0 ≤ Lib.idxFunc badR true s) := by unfold nameB; rw [decide_eq_true (show 0 < s.size by omega), decide_eq_true (show s.size ≤ 40 by omega)]; rfl
   exact ⟨by rw [e]; rfl, hb⟩
  ·have e : nameB s = false := by unfold nameB; rw [decide_eq_false (show ¬ s.size ≤ 40 by omega), Bool.and_false]; rfl
   go_enter Tryd.func55, Tryd.ntmps55
   go_wp2
   go_ret
   exact ⟨rfl, Below.refl _ _⟩
 ·have e : nameB s = false := by unfold nameB; rw [decide_eq_false (show ¬ 0 < s.size by omega)]; rfl
  go_enter Tryd.func55, Tryd.ntmps55
  go_wp2
  go_ret
  exact ⟨rfl, Below.refl _ _⟩

theorem any_take_succ {l : List S57} {p : S57 → Bool} {x : Nat} (h : x < l.length) : (l.take (x + 1)).any p = ((l.take x).any p || p (rd_T57 l (x : Int))) := by
 rw [List.take_succ_eq_append_getElem h, List.any_append]
 simp only [List.any_cons, List.any_nil, Bool.or_false]
 unfold rd_T57
 rw [Int.toNat_natCast, List.getD_eq_getElem?_getD, List.getElem?_eq_getElem h]
 rfl
theorem any_take_false {l : List S57} {p : S57 → Bool} {x i : Nat} (hx : x < i) (hi : i ≤ l.length) (h : p (rd_T57 l (x : Int)) = true) : (l.take i).any p = true := by
 rw [List.any_eq_true]
 refine ⟨rd_T57 l (x : Int), ?_, h⟩
 unfold rd_T57
 rw [Int.toNat_natCast, List.getD_eq_getElem?_getD, List.getElem?_eq_getElem (by omega)]
 rw [List.mem_iff_getElem?]
 exact ⟨x, by rw [List.getElem?_take_of_lt hx, List.getElem?_eq_getElem (by omega)]; rfl⟩
theorem rd_mem57 {l : List S57} {x : Nat} (h : x < l.length) : rd_T57 l (x : Int) ∈ l := by
 unfold rd_T57
 rw [Int.toNat_natCast, List.getD_eq_getElem?_getD, List.getElem?_eq_getElem h]
 exact List.getElem_mem h
/-- slices.IndexFunc at a part of the groups, with a closure that reads a group. -/
theorem idxG (A : Option Addr) (cc i : Nat) (l : List S57) (g : Nat) (lb : Array Value) (p : S57 → Bool) (w : World) (hr : Kd.C k57 w A l.length l) (hi : i ≤ l.length) (hl : l.length < 1000000) (eg : ∀ args w, (callFunc g args).run Tryd.prog w = .ok (.enter g args) w)
  (hp : ∀ (W : World) (y : S57) (cy : List Value), y ∈ l → Below w.heap.size w W → k57.K W y cy → Calls Tryd.prog g (#[.agg cy.toArray] ++ lb) W fun e w' => e = .returned (.bool (p y)) ∧ Below W.heap.size W w') :
  Calls Tryd.prog 77 #[.slice A i cc, .func (.func g) #[] lb] w fun e w' => ∃ r : Int, e = .returned (.int .i64 r) ∧ decide (0 ≤ r) = (l.take i).any p ∧ Below w.heap.size w w' := by
 have HP := Aside0.mk hp
 have HR := Aside0.mk hr
 have HL := Aside0.mk hl
 clear hp hr hl
 have hu57 := Tryd.underlying57
 go_enter Tryd.func77, Tryd.ntmps77
 go_wp2
 go_loopw [8] (fun v8 wr => ∃ x : Int, v8 = .int .i64 x ∧ 0 ≤ x ∧ x ≤ i ∧ Aside0 ((l.take x.toNat).any p = false) ∧ Aside0 (Below w.heap.size w wr)) (fun v8 _ => i - (intOf v8).toNat)
 case atStart => exact ⟨0, rfl, by omega, by omega, ⟨rfl⟩, ⟨Below.refl _ _⟩⟩
 case round =>
  obtain ⟨x, rfl, hx0, hxi, HN, HB⟩ := hrel
  have hle : (i : Int) < 1000000 := by have := HL.out; omega
  by_cases hlt : x < i
  ·obtain ⟨y, hy⟩ : ∃ y : Nat, (y : Int) = x := ⟨x.toNat, by omega⟩
   obtain ⟨ad, A1, c1, rfl, ha0, ha1, hc1, hC1⟩ := at_T57 HR.out x (by omega) (by omega)
   have hb0 := (HB.out.cell (World.block_lt_of_cell? w _ ha0)).trans ha0
   have hb1 := (HB.out.cell (World.block_lt_of_cell? w _ ha1)).trans ha1
   have hmem : rd_T57 l x ∈ l := by rw [← hy]; exact rd_mem57 (by omega)
   have HK := Aside0.mk (HP.out wr (rd_T57 l x) [.string (rd_T57 l x).f0, .slice A1 (rd_T57 l x).f1.length c1] hmem HB.out (k57_mk wr (rd_T57 l x) hc1 (Kd.C_below hC1 HB.out)))
   clear ha0 ha1 hC1 hc1 hmem
   by_cases hpy : p (rd_T57 l x) = true
   ·have HQ := Aside0.mk (any_take_false (x := y) (i := i) (by omega) hi (by rw [hy]; exact hpy))
    rw [hpy] at HK
    clear hpy hy
    generalize (rd_T57 l x).f0 = s0 at hb0 HK
    generalize (rd_T57 l x).f1.length = n1 at hb1 HK
    go_wp2_with (go_at_fn g; refine HK.out.mono ?_; rintro e w2 ⟨rfl, hb2⟩)
    go_ret
    exact ⟨x, rfl, by rw [HQ.out]; exact decide_eq_true hx0, HB.out.trans (hb2.mono HB.out.size)⟩
   ·have HQ := Aside0.mk (any_take_succ (x := y) (l := l) (p := p) (by omega))
    rw [hy] at HQ
    have hpf : p (rd_T57 l x) = false := by simpa using hpy
    have e1 : (x + 1).toNat = y + 1 := by omega
    have e0 : x.toNat = y := by omega
    rw [hpf] at HK
    have HN2 : Aside0 ((l.take (x + 1).toNat).any p = false) := ⟨by rw [e1, HQ.out, ← e0, HN.out, hpf]; rfl⟩
    clear hpy hy HQ hpf e1 e0
    generalize (rd_T57 l x).f0 = s0 at hb0 HK
    generalize (rd_T57 l x).f1.length = n1 at hb1 HK
    go_wp2_with (go_at_fn g; refine HK.out.mono ?_; rintro e w2 ⟨rfl, hb2⟩)
    go_roundw
    case rel => exact ⟨x + 1, by go_num, by omega, by omega, HN2, ⟨HB.out.trans (hb2.mono HB.out.size)⟩⟩
    case measure => simp [intOf]; omega
  ·go_wp2
   go_ret
   have e : x.toNat = i := by omega
   exact ⟨-1, rfl, by rw [← e, HN.out]; rfl, HB.out⟩

/-- slices.ContainsFunc at a part of the groups, with a closure that reads a group. -/
theorem contG (A : Option Addr) (cc i : Nat) (l : List S57) (g : Nat) (lb : Array Value) (p : S57 → Bool) (w : World) (hr : Kd.C k57 w A l.length l) (hi : i ≤ l.length) (hl : l.length < 1000000) (eg : ∀ args w, (callFunc g args).run Tryd.prog w = .ok (.enter g args) w)
  (hp : ∀ (W : World) (y : S57) (cy : List Value), y ∈ l → Below w.heap.size w W → k57.K W y cy → Calls Tryd.prog g (#[.agg cy.toArray] ++ lb) W fun e w' => e = .returned (.bool (p y)) ∧ Below W.heap.size W w') :
  Calls Tryd.prog 56 #[.slice A i cc, .func (.func g) #[] lb] w fun e w' => e = .returned (.bool ((l.take i).any p)) ∧ Below w.heap.size w w' := by
 have HI := Aside0.mk (idxG A cc i l g lb p w hr hi hl eg hp)
 clear hp hr
 go_enter Tryd.func56, Tryd.ntmps56
 go_wp2_with (go_at_call 77; refine HI.out.mono ?_; rintro e w2 ⟨r, rfl, hd, hb⟩)
 go_ret
 exact ⟨rfl, hb⟩
end
end Go.Proofs.YtbghfbhlbfcloaaDoor.PL
namespace Go.Proofs.YtbghfbhlbfcloaaDoor.PL
section
open Go.RowKit Go.Proofs Go.Proofs.YtbghfbhlbfcloaaDoorW.PrintWords Go.Proofs.YtbghfbhlbfcloaaDoorW.PrintLast Go.Proofs.YtbghfbhlbfcloaaDoorW.PrintMore
set_option linter.unusedVariables false
set_option linter.unusedSimpArgs false

def CG.k : Nat := 200
/-- slices.Equal, told plainly. -/
theorem equal_l (xs ys : List Int) (hxy : xs.length = ys.length) (hl : xs.length ≤ 150) : ∀ (k i : Nat), i ≤ xs.length → xs.length - i < k → slices_Equal_int_int.l0 k xs ys (xs.length : Int) (i : Int) = some (decide (xs.drop i = ys.drop i))
 | 0, i, _, h => absurd h (Nat.not_lt_zero _)
 | k + 1, i, hi, h => by
  unfold slices_Equal_int_int.l0
  by_cases hlt : i < xs.length
  ·have ih := equal_l xs ys hxy hl k (i + 1) (by omega) (by omega)
   have h2 : i < ys.length := by omega
   rw [if_pos (by omega), if_pos (by omega), if_pos (by omega), if_pos (by omega)]
   have ex : xs.drop i = (Go.Proofs.YtbghfbhlbfcloaaDoorW.PrintWords.rd xs i) :: xs.drop (i + 1) := by
    rw [List.drop_eq_getElem_cons hlt]
    unfold Go.Proofs.YtbghfbhlbfcloaaDoorW.PrintWords.rd
    rw [Int.toNat_natCast, List.getD_eq_getElem?_getD, List.getElem?_eq_getElem hlt]
    rfl
   have ey : ys.drop i = (Go.Proofs.YtbghfbhlbfcloaaDoorW.PrintWords.rd ys i) :: ys.drop (i + 1) := by
    rw [List.drop_eq_getElem_cons h2]
    unfold Go.Proofs.YtbghfbhlbfcloaaDoorW.PrintWords.rd
    rw [Int.toNat_natCast, List.getD_eq_getElem?_getD, List.getElem?_eq_getElem h2]
    rfl
   rw [ex, ey]
   by_cases he : Go.Proofs.YtbghfbhlbfcloaaDoorW.PrintWords.rd xs (i : Int) = Go.Proofs.YtbghfbhlbfcloaaDoorW.PrintWords.rd ys (i : Int)
   ·rw [if_pos he, he]
    have hw : wrap64 ((i : Int) + 1) = ((i + 1 : Nat) : Int) := by
     unfold wrap64
     omega
    rw [hw, ih]
    congr 1
    simp
   ·rw [if_neg he]
    rw [decide_eq_false (fun e => he (by injection e))]
  ·rw [if_neg (by omega)]
   have h1 : xs.drop i = [] := List.drop_eq_nil_of_le (by omega)
   have h2 : ys.drop i = [] := List.drop_eq_nil_of_le (by omega)
   rw [h1, h2]
   simp
theorem equal_f (xs ys : List Int) (hl : xs.length ≤ 150) : slices_Equal_int_int.f CG.k xs ys = some (decide (xs = ys)) := by
 unfold slices_Equal_int_int.f
 by_cases h : xs.length = ys.length
 ·rw [if_pos (by omega)]
  have := equal_l xs ys h hl CG.k 0 (Nat.zero_le _) (by unfold CG.k; omega)
  simpa using this
 ·rw [if_neg (by omega), decide_eq_false (fun e => h (by rw [e]))]

/-- Does a group's mask cross another's? -/
def CG.cross (m o : Int) : Bool := decide (Go.bits .and .u64 o m ≠ 0) && decide (Go.bits .and .u64 o m ≠ m) && decide (Go.bits .and .u64 o m ≠ o)
def CG.inn (m : Int) : List S57 → Option Bool
 | [] => some false
 | y :: r => (liaison_masked.f CG.k y.f1).bind fun o => if CG.cross m o = true then some true else CG.inn m r
/-- What a round says of group number i, x: 0: go on. -/
def CG.one (l : List S57) (n : Int) (i : Nat) (x : S57) : Option Int :=
 if nameB x.f0 = false then some 11 else
 if (l.take i).any (fun y => y.f0.toList == x.f0.toList) = true then some 9 else
 if (x.f1.length : Int) < 2 then some 7 else
 (liaison_ordered.f CG.k x.f1 n).bind fun e => if e ≠ 0 then some e else
 if (l.take i).any (fun y => decide (x.f1 = y.f1)) = true then some 9 else
 (liaison_masked.f CG.k x.f1).bind fun m => (CG.inn m (l.take i)).bind fun b => if b = true then some 17 else some 0
def CG.go (l : List S57) (n : Int) : Nat → List S57 → Option Int
 | _, [] => some 0
 | i, x :: r => (CG.one l n i x).bind fun e => if e = 0 then CG.go l n (i + 1) r else some e
def CG.f (l : List S57) (n : Int) : Option Int :=
 if n < 0 ∨ 12 < n then some 2 else if 32 < (l.length : Int) then some 6 else if (l.all fun x => decide (x.f1.length ≤ 150)) = true then CG.go l n 0 l else none

theorem drop57 (l : List S57) (x : Int) (h0 : 0 ≤ x) (h1 : x < l.length) : l.drop x.toNat = rd_T57 l x :: l.drop (x + 1).toNat := by
 rw [show (x + 1).toNat = x.toNat + 1 by omega, List.drop_eq_getElem_cons (show x.toNat < l.length by omega)]
 unfold rd_T57
 rw [List.getD_eq_getElem?_getD, List.getElem?_eq_getElem (show x.toNat < l.length by omega)]
 rfl
end
end Go.Proofs.YtbghfbhlbfcloaaDoor.PL
namespace Go.Proofs.YtbghfbhlbfcloaaDoor.PL
section
open Go.RowKit Go.Proofs.YtbghfbhlbfcloaaDoorW.PrintWords Go.Proofs.YtbghfbhlbfcloaaDoorW.PrintLast Go.Proofs.YtbghfbhlbfcloaaDoorW.PrintMore
attribute [local go_sem] max2_int min2_int max_two min_two max_three min_three max_four min_four   -- for this text's walks alone
set_option linter.unusedVariables false
set_option linter.unusedSimpArgs false
/-! ### dowellaw29_name: function 48 -/
def dowellaw29_name.l0 : Nat → ByteArray → Int → Option (Bool)
 | 0, _, _ => none
 | k + 1, x0, x3 => if x3 < (x0.size : Int) then (if 0 ≤ x3 then (if (bt x0 x3) < 33 then (some false) else (if (bt x0 x3) > 126 then (some false) else (dowellaw29_name.l0 k x0 (wrap64 (x3 + 1))))) else (none)) else (if (x0.size : Int) ≥ 1 then (some (decide ((x0.size : Int) ≤ 40))) else (some false))
def dowellaw29_name.f (k : Nat) (a0 : ByteArray) : Option (Bool) := dowellaw29_name.l0 k a0 0
theorem dowellaw29_name.mono_l : ∀ k, (∀ y0 y1, LeO (dowellaw29_name.l0 k y0 y1) (dowellaw29_name.l0 (k + 1) y0 y1))
 | 0 => fun _ _ r h => by simp [dowellaw29_name.l0] at h
 | k + 1 => by
  have ih0 := dowellaw29_name.mono_l k
  ·intro y0 y1
   unfold dowellaw29_name.l0
   repeat' first
   | (with_reducible exact ih0 _ _)
   | (with_reducible exact LeO.refl _)
   | (with_reducible exact LeO.none _)
   | (with_reducible refine LeO.ite ?_ ?_)
   | (with_reducible refine LeO.bind ?_ (fun _ => ?_))
   | exact ih0 _ _
   | exact LeO.none _
   | refine LeO.ite ?_ ?_
   | refine LeO.bind ?_ (fun _ => ?_)
theorem dowellaw29_name.mono : ∀ a0 k, LeO (dowellaw29_name.f k a0) (dowellaw29_name.f (k + 1) a0) := by
 intro a0 k
 have ih0 := dowellaw29_name.mono_l k
 unfold dowellaw29_name.f
 repeat' first
   | (with_reducible exact ih0 _ _)
   | (with_reducible exact LeO.refl _)
   | (with_reducible exact LeO.none _)
   | (with_reducible refine LeO.ite ?_ ?_)
   | (with_reducible refine LeO.bind ?_ (fun _ => ?_))
   | exact ih0 _ _
   | exact LeO.none _
   | refine LeO.ite ?_ ?_
   | refine LeO.bind ?_ (fun _ => ?_)
set_option maxHeartbeats 8000000 in
set_option maxRecDepth 100000 in
theorem dowellaw29_name.calls (k : Nat) (a0 : ByteArray) (r : Bool) (w : World) (h : dowellaw29_name.f k a0 = some r) :
  Calls Tryd.prog 48 #[.string a0] w fun e w' => e = .returned (.bool r) ∧ Drawn0 w w' := by
 have H : (dowellaw29_name.l0 k a0 0) = some r := h
 clear h
 have H' := Aside0.mk H
 clear H
 go_enter Tryd.func48, Tryd.ntmps48
 go_wp2
 go_loopg [3] k (fun kq v3 w' => ∃ (x3_1 : Int), v3 = .int .i64 x3_1 ∧ Aside0 (dowellaw29_name.l0 kq a0 x3_1 = some r) ∧ Aside0 (kq ≤ k) ∧ Drawn0 w w')
 case atStart => exact ⟨(0), (by first | rfl | (simp; done) | (simp [*]; done)), H', ⟨Nat.le_refl _⟩, by repeat (first | exact Drawn0.refl _ | apply Drawn0.step)⟩
 case round =>
  clear H'
  obtain ⟨x3_1, rfl, HA, HK1, ⟨m1, rfl⟩⟩ := hrel
  cases gk with
  | zero => exact absurd HA.out (by simp [dowellaw29_name.l0])
  | succ k1 =>
   have H := HA.out
   clear HA
   simp only [dowellaw29_name.l0] at H
   by_cases c2 : x3_1 < (a0.size : Int)
   ·rw [if_pos c2] at H
    have c2b0 : decide (x3_1 < (a0.size : Int)) = true := decide_eq_true c2
    clear c2
    by_cases c3 : 0 ≤ x3_1
    ·rw [if_pos c3] at H
     have c3b0 : decide (0 ≤ x3_1) = true := decide_eq_true c3
     clear c3
     by_cases c5 : (bt a0 x3_1) < 33
     ·rw [if_pos c5] at H
      have c5b0 : decide ((bt a0 x3_1) < 33) = true := decide_eq_true c5
      clear c5
      obtain rfl := Option.some.inj H
      have p4 : 0 ≤ (x3_1 : Int) := of_decide_eq_true (by first | (with_reducible assumption) | assumption)
      have q4 : x3_1 < (a0.size : Int) := of_decide_eq_true (by first | (with_reducible assumption) | assumption)
      have hx4 := bt_at a0 x3_1
      replace p4 := eq_true p4
      replace q4 := eq_true q4
      go_wp2
      go_ret
      exact ⟨by first | rfl | (simp; done) | (simp [*]; done), by repeat (first | exact Drawn0.refl _ | apply Drawn0.step)⟩
     ·rw [if_neg c5] at H
      have c5b0 : decide ((bt a0 x3_1) < 33) = false := decide_eq_false c5
      clear c5
      by_cases c7 : (bt a0 x3_1) > 126
      ·rw [if_pos c7] at H
       have c7b0 : decide (126 < (bt a0 x3_1)) = true := decide_eq_true c7
       clear c7
       obtain rfl := Option.some.inj H
       have p4 : 0 ≤ (x3_1 : Int) := of_decide_eq_true (by first | (with_reducible assumption) | assumption)
       have q4 : x3_1 < (a0.size : Int) := of_decide_eq_true (by first | (with_reducible assumption) | assumption)
       have hx4 := bt_at a0 x3_1
       replace p4 := eq_true p4
       replace q4 := eq_true q4
       have p6 : 0 ≤ (x3_1 : Int) := of_decide_eq_true (by first | (with_reducible assumption) | assumption)
       have q6 : x3_1 < (a0.size : Int) := of_decide_eq_true (by first | (with_reducible assumption) | assumption)
       have hx6 := bt_at a0 x3_1
       replace p6 := eq_true p6
       replace q6 := eq_true q6
       go_wp2
       go_ret
       exact ⟨by first | rfl | (simp; done) | (simp [*]; done), by repeat (first | exact Drawn0.refl _ | apply Drawn0.step)⟩
      ·rw [if_neg c7] at H
       have c7b0 : decide (126 < (bt a0 x3_1)) = false := decide_eq_false c7
       clear c7
       have H' := Aside0.mk H
       clear H
       have p4 : 0 ≤ (x3_1 : Int) := of_decide_eq_true (by first | (with_reducible assumption) | assumption)
       have q4 : x3_1 < (a0.size : Int) := of_decide_eq_true (by first | (with_reducible assumption) | assumption)
       have hx4 := bt_at a0 x3_1
       replace p4 := eq_true p4
       replace q4 := eq_true q4
       have p6 : 0 ≤ (x3_1 : Int) := of_decide_eq_true (by first | (with_reducible assumption) | assumption)
       have q6 : x3_1 < (a0.size : Int) := of_decide_eq_true (by first | (with_reducible assumption) | assumption)
       have hx6 := bt_at a0 x3_1
       replace p6 := eq_true p6
       replace q6 := eq_true q6
       go_wp2
       go_roundg k1
       case measure => have := HK1.out; omega
       case rel => exact ⟨(wrap64 (x3_1 + 1)), (by first | rfl | (simp; done) | (simp [*]; done)), H', ⟨by have := HK1.out; omega⟩, by repeat (first | exact Drawn0.refl _ | apply Drawn0.step)⟩
    ·rw [if_neg c3] at H
     exact absurd H (by simp)
   ·rw [if_neg c2] at H
    have c2b0 : decide (x3_1 < (a0.size : Int)) = false := decide_eq_false c2
    clear c2
    by_cases c8 : (a0.size : Int) ≥ 1
    ·rw [if_pos c8] at H
     have c8b0 : decide (1 ≤ (a0.size : Int)) = true := decide_eq_true c8
     have c8b1 : decide (1 ≤ a0.size) = true := decide_eq_true (by omega)
     clear c8
     obtain rfl := Option.some.inj H
     go_wp2
     go_ret
     exact ⟨by first | rfl | (simp; done) | (simp [*]; done), by repeat (first | exact Drawn0.refl _ | apply Drawn0.step)⟩
    ·rw [if_neg c8] at H
     have c8b0 : decide (1 ≤ (a0.size : Int)) = false := decide_eq_false c8
     have c8b1 : decide (1 ≤ a0.size) = false := decide_eq_false (by omega)
     clear c8
     obtain rfl := Option.some.inj H
     go_wp2
     go_ret
     exact ⟨by first | rfl | (simp; done) | (simp [*]; done), by repeat (first | exact Drawn0.refl _ | apply Drawn0.step)⟩
end
end Go.Proofs.YtbghfbhlbfcloaaDoor.PL
namespace Go.Proofs.YtbghfbhlbfcloaaDoor.PL
section
open Go.RowKit Go.Proofs.YtbghfbhlbfcloaaDoorW.PrintWords Go.Proofs.YtbghfbhlbfcloaaDoorW.PrintLast Go.Proofs.YtbghfbhlbfcloaaDoorW.PrintMore
attribute [local go_sem] max2_int min2_int max_two min_two max_three min_three max_four min_four   -- for this text's walks alone
set_option linter.unusedVariables false
set_option linter.unusedSimpArgs false
/-! ### dowellaw29_within: function 51 -/
def dowellaw29_within.l0 : Nat → List Int → List Int → Int → Option (Bool)
 | 0, _, _, _ => none
 | k + 1, x0, x1, x5 => if x5 < (x0.length : Int) then (if 0 ≤ x5 then ((dowellaw29_has.f k x1 (rd x0 x5)).bind fun t444 => (if t444 = true then (dowellaw29_within.l0 k x0 x1 (wrap64 (x5 + 1))) else (some false))) else (none)) else (some true)
def dowellaw29_within.f (k : Nat) (l0 : List Int) (l1 : List Int) : Option (Bool) := dowellaw29_within.l0 k l0 l1 0
theorem dowellaw29_within.mono_l : ∀ k, (∀ y0 y1 y2, LeO (dowellaw29_within.l0 k y0 y1 y2) (dowellaw29_within.l0 (k + 1) y0 y1 y2))
 | 0 => fun _ _ _ r h => by simp [dowellaw29_within.l0] at h
 | k + 1 => by
  have ih0 := dowellaw29_within.mono_l k
  ·intro y0 y1 y2
   unfold dowellaw29_within.l0
   repeat' first
   | (with_reducible exact ih0 _ _ _)
   | (with_reducible exact dowellaw29_has.mono _ _ _)
   | (with_reducible exact LeO.refl _)
   | (with_reducible exact LeO.none _)
   | (with_reducible refine LeO.ite ?_ ?_)
   | (with_reducible refine LeO.bind ?_ (fun _ => ?_))
   | exact ih0 _ _ _
   | exact dowellaw29_has.mono _ _ _
   | exact LeO.none _
   | refine LeO.ite ?_ ?_
   | refine LeO.bind ?_ (fun _ => ?_)
theorem dowellaw29_within.mono : ∀ a0 a1 k, LeO (dowellaw29_within.f k a0 a1) (dowellaw29_within.f (k + 1) a0 a1) := by
 intro a0 a1 k
 have ih0 := dowellaw29_within.mono_l k
 unfold dowellaw29_within.f
 repeat' first
   | (with_reducible exact ih0 _ _ _)
   | (with_reducible exact dowellaw29_has.mono _ _ _)
   | (with_reducible exact LeO.refl _)
   | (with_reducible exact LeO.none _)
   | (with_reducible refine LeO.ite ?_ ?_)
   | (with_reducible refine LeO.bind ?_ (fun _ => ?_))
   | exact ih0 _ _ _
   | exact dowellaw29_has.mono _ _ _
   | exact LeO.none _
   | refine LeO.ite ?_ ?_
   | refine LeO.bind ?_ (fun _ => ?_)
set_option maxHeartbeats 8000000 in
set_option maxRecDepth 100000 in
theorem dowellaw29_within.calls (k : Nat) (A0 : Option Addr) (c0 : Nat) (l0 : List Int) (A1 : Option Addr) (c1 : Nat) (l1 : List Int) (r : Bool) (w : World) (hr0 : Kd.C (Kd.int .i64) w A0 l0.length l0) (hc0 : l0.length ≤ c0) (hr1 : Kd.C (Kd.int .i64) w A1 l1.length l1) (hc1 : l1.length ≤ c1) (h : dowellaw29_within.f k l0 l1 = some r) :
  Calls Tryd.prog 51 #[.slice A0 l0.length c0, .slice A1 l1.length c1] w fun e w' => e = .returned (.bool r) ∧ Drawn0 w w' := by
 have HR0 := Aside0.mk hr0
 have HC0 := Aside0.mk hc0
 clear hr0 hc0
 have HR1 := Aside0.mk hr1
 have HC1 := Aside0.mk hc1
 clear hr1 hc1
 have H : (dowellaw29_within.l0 k l0 l1 0) = some r := h
 clear h
 have H' := Aside0.mk H
 clear H
 go_enter Tryd.func51, Tryd.ntmps51
 go_wp2
 go_loopg [5] k (fun kq v5 w' => ∃ (x5_1 : Int), v5 = .int .i64 x5_1 ∧ Aside0 (dowellaw29_within.l0 kq l0 l1 x5_1 = some r) ∧ Aside0 (kq ≤ k) ∧ Drawn0 w w')
 case atStart => exact ⟨(0), (by first | rfl | (simp; done) | (simp [*]; done)), H', ⟨Nat.le_refl _⟩, by repeat (first | exact Drawn0.refl _ | apply Drawn0.step)⟩
 case round =>
  clear H'
  try clear c1
  try clear p2
  obtain ⟨x5_1, rfl, HA, HK1, ⟨m1, rfl⟩⟩ := hrel
  cases gk with
  | zero => exact absurd HA.out (by simp [dowellaw29_within.l0])
  | succ k1 =>
   have H := HA.out
   clear HA
   simp only [dowellaw29_within.l0] at H
   by_cases c3 : x5_1 < (l0.length : Int)
   ·rw [if_pos c3] at H
    have c3b0 : decide (x5_1 < (l0.length : Int)) = true := decide_eq_true c3
    clear c3
    by_cases c4 : 0 ≤ x5_1
    ·rw [if_pos c4] at H
     have c4b0 : decide (0 ≤ x5_1) = true := decide_eq_true c4
     clear c4
     replace H := Option.bind_eq_some_iff.mp H
     obtain ⟨t444, A50, H⟩ := H
     replace H : (if t444 = true then (dowellaw29_within.l0 k1 l0 l1 (wrap64 (x5_1 + 1))) else (some false)) = some r := H
     have A5 := Aside0.mk A50
     clear A50
     by_cases c6 : t444 = true
     ·subst c6
      have H1 : (dowellaw29_within.l0 k1 l0 l1 (wrap64 (x5_1 + 1))) = some r := by rw [if_pos rfl] at H; exact H
      clear H
      have H := H1
      clear H1
      have H' := Aside0.mk H
      clear H
      have p443 : 0 ≤ (x5_1 : Int) := of_decide_eq_true (by first | (with_reducible assumption) | assumption)
      have q443 : x5_1 < (l0.length : Int) := of_decide_eq_true (by first | (with_reducible assumption) | assumption)
      obtain ⟨ad443, e443, hx443_0⟩ := Kd.at_int HR0.out x5_1 p443 q443
      cases e443
      replace p443 := eq_true p443
      replace q443 := eq_true q443
      go_wp2_with (first | ((with_reducible refine gate_callee (f := 20) rfl ?_); refine goesL_ (some 17) rfl rfl Tryd.func20 (by kernel_rfl) rfl #[.slice A1 l1.length c1, .int .i64 (rd l0 x5_1)] rfl (by (try simp only [List.map_toArray, List.map_cons, List.map_nil]); first | done | rfl | (simp only [List.length_drop, List.length_take]; rfl)) ?_; (with_reducible refine (dowellaw29_has.calls k1 _ _ l1 (rd l0 x5_1) true _ ?side1 ?side2 A5.out).mono ?_); (case side1 => repeat (first | exact HR1.out | (with_reducible refine Kd.C_alloc ?_ _) | (with_reducible refine Kd.C_drewN ?_ _) | (with_reducible refine Kd.C_drew ?_))); (case side2 => exact HC1.out); rintro e w' ⟨rfl, ⟨nd, rfl⟩⟩; refine ⟨_, rfl, ?_⟩))
      go_roundg k1
      case measure => have := HK1.out; omega
      case rel => exact ⟨(wrap64 (x5_1 + 1)), (by first | rfl | (simp; done) | (simp [*]; done)), H', ⟨by have := HK1.out; omega⟩, by repeat (first | exact Drawn0.refl _ | apply Drawn0.step)⟩
     ·replace c6 := Bool.eq_false_iff.mpr c6
      subst c6
      have H1 : (some false) = some r := by rw [if_neg (show ¬ (false = true) by decide)] at H; exact H
      clear H
      have H := H1
      clear H1
      obtain rfl := Option.some.inj H
      have p443 : 0 ≤ (x5_1 : Int) := of_decide_eq_true (by first | (with_reducible assumption) | assumption)
      have q443 : x5_1 < (l0.length : Int) := of_decide_eq_true (by first | (with_reducible assumption) | assumption)
      obtain ⟨ad443, e443, hx443_0⟩ := Kd.at_int HR0.out x5_1 p443 q443
      cases e443
      replace p443 := eq_true p443
      replace q443 := eq_true q443
      go_wp2_with (first | ((with_reducible refine gate_callee (f := 20) rfl ?_); refine goesL_ (some 17) rfl rfl Tryd.func20 (by kernel_rfl) rfl #[.slice A1 l1.length c1, .int .i64 (rd l0 x5_1)] rfl (by (try simp only [List.map_toArray, List.map_cons, List.map_nil]); first | done | rfl | (simp only [List.length_drop, List.length_take]; rfl)) ?_; (with_reducible refine (dowellaw29_has.calls k1 _ _ l1 (rd l0 x5_1) false _ ?side1 ?side2 A5.out).mono ?_); (case side1 => repeat (first | exact HR1.out | (with_reducible refine Kd.C_alloc ?_ _) | (with_reducible refine Kd.C_drewN ?_ _) | (with_reducible refine Kd.C_drew ?_))); (case side2 => exact HC1.out); rintro e w' ⟨rfl, ⟨nd, rfl⟩⟩; refine ⟨_, rfl, ?_⟩))
      go_ret
      exact ⟨by first | rfl | (simp; done) | (simp [*]; done), by repeat (first | exact Drawn0.refl _ | apply Drawn0.step)⟩
    ·rw [if_neg c4] at H
     exact absurd H (by simp)
   ·rw [if_neg c3] at H
    have c3b0 : decide (x5_1 < (l0.length : Int)) = false := decide_eq_false c3
    clear c3
    obtain rfl := Option.some.inj H
    go_wp2
    go_ret
    exact ⟨by first | rfl | (simp; done) | (simp [*]; done), by repeat (first | exact Drawn0.refl _ | apply Drawn0.step)⟩
end
end Go.Proofs.YtbghfbhlbfcloaaDoor.PL
namespace Go.Proofs.YtbghfbhlbfcloaaDoor.PL
section
open Go.RowKit Go.Proofs.YtbghfbhlbfcloaaDoorW.PrintWords Go.Proofs.YtbghfbhlbfcloaaDoorW.PrintLast Go.Proofs.YtbghfbhlbfcloaaDoorW.PrintMore
attribute [local go_sem] max2_int min2_int max_two min_two max_three min_three max_four min_four   -- for this text's walks alone
set_option linter.unusedVariables false
set_option linter.unusedSimpArgs false
/-! ### dowellaw29_checkSet: function 49 -/
mutual
def dowellaw29_checkSet.l0 : Nat → List Int → Int → Int → Option (Int)
 | 0, _, _, _ => none
 | k + 1, x0, x1, x5 => if x5 < (x0.length : Int) then (if 0 ≤ x5 then (if (rd x0 x5) < 0 then (dowellaw29_checkSet.j1 k x0 x1 x5 true) else (dowellaw29_checkSet.j1 k x0 x1 x5 (decide ((rd x0 x5) ≥ x1)))) else (none)) else (some 0)
def dowellaw29_checkSet.j1 : Nat → List Int → Int → Int → Bool → Option (Int)
 | 0, _, _, _, _ => none
 | k + 1, x0, x1, x5, x27 => if x27 = true then (some 2) else (if x5 > 0 then (if 0 ≤ x5 then (if x5 < (x0.length : Int) then (if 0 ≤ (wrap64 (x5 - 1)) then (if (wrap64 (x5 - 1)) < (x0.length : Int) then (if (rd x0 x5) ≤ (rd x0 (wrap64 (x5 - 1))) then (some 8) else (dowellaw29_checkSet.l0 k x0 x1 (wrap64 (x5 + 1)))) else (none)) else (none)) else (none)) else (none)) else (dowellaw29_checkSet.l0 k x0 x1 (wrap64 (x5 + 1))))
end
def dowellaw29_checkSet.f (k : Nat) (l0 : List Int) (a1 : Int) : Option (Int) := if (l0.length : Int) = 0 then (some 7) else (dowellaw29_checkSet.l0 k l0 a1 0)
theorem dowellaw29_checkSet.mono_l : ∀ k, (∀ y0 y1 y2, LeO (dowellaw29_checkSet.l0 k y0 y1 y2) (dowellaw29_checkSet.l0 (k + 1) y0 y1 y2)) ∧ (∀ y0 y1 y2 y3, LeO (dowellaw29_checkSet.j1 k y0 y1 y2 y3) (dowellaw29_checkSet.j1 (k + 1) y0 y1 y2 y3))
 | 0 => ⟨fun _ _ _ r h => by simp [dowellaw29_checkSet.l0] at h, fun _ _ _ _ r h => by simp [dowellaw29_checkSet.j1] at h⟩
 | k + 1 => by
  obtain ⟨ih0, ih1⟩ := dowellaw29_checkSet.mono_l k
  refine ⟨?_, ?_⟩
  ·intro y0 y1 y2
   unfold dowellaw29_checkSet.l0
   repeat' first
   | (with_reducible exact ih0 _ _ _)
   | (with_reducible exact ih1 _ _ _ _)
   | (with_reducible exact LeO.refl _)
   | (with_reducible exact LeO.none _)
   | (with_reducible refine LeO.ite ?_ ?_)
   | (with_reducible refine LeO.bind ?_ (fun _ => ?_))
   | exact ih0 _ _ _
   | exact ih1 _ _ _ _
   | exact LeO.none _
   | refine LeO.ite ?_ ?_
   | refine LeO.bind ?_ (fun _ => ?_)
  ·intro y0 y1 y2 y3
   unfold dowellaw29_checkSet.j1
   repeat' first
   | (with_reducible exact ih0 _ _ _)
   | (with_reducible exact ih1 _ _ _ _)
   | (with_reducible exact LeO.refl _)
   | (with_reducible exact LeO.none _)
   | (with_reducible refine LeO.ite ?_ ?_)
   | (with_reducible refine LeO.bind ?_ (fun _ => ?_))
   | exact ih0 _ _ _
   | exact ih1 _ _ _ _
   | exact LeO.none _
   | refine LeO.ite ?_ ?_
   | refine LeO.bind ?_ (fun _ => ?_)
theorem dowellaw29_checkSet.mono : ∀ a0 a1 k, LeO (dowellaw29_checkSet.f k a0 a1) (dowellaw29_checkSet.f (k + 1) a0 a1) := by
 intro a0 a1 k
 obtain ⟨ih0, ih1⟩ := dowellaw29_checkSet.mono_l k
 unfold dowellaw29_checkSet.f
 repeat' first
   | (with_reducible exact ih0 _ _ _)
   | (with_reducible exact ih1 _ _ _ _)
   | (with_reducible exact LeO.refl _)
   | (with_reducible exact LeO.none _)
   | (with_reducible refine LeO.ite ?_ ?_)
   | (with_reducible refine LeO.bind ?_ (fun _ => ?_))
   | exact ih0 _ _ _
   | exact ih1 _ _ _ _
   | exact LeO.none _
   | refine LeO.ite ?_ ?_
   | refine LeO.bind ?_ (fun _ => ?_)
set_option maxHeartbeats 8000000 in
set_option maxRecDepth 100000 in
theorem dowellaw29_checkSet.calls (k : Nat) (A0 : Option Addr) (c0 : Nat) (l0 : List Int) (a1 : Int) (r : Int) (w : World) (hr0 : Kd.C (Kd.int .i64) w A0 l0.length l0) (hc0 : l0.length ≤ c0) (h : dowellaw29_checkSet.f k l0 a1 = some r) :
  Calls Tryd.prog 49 #[.slice A0 l0.length c0, .int .i64 a1] w fun e w' => e = .returned (.int .i64 r) ∧ Drawn0 w w' := by
 have HR0 := Aside0.mk hr0
 have HC0 := Aside0.mk hc0
 clear hr0 hc0
 have H : (if (l0.length : Int) = 0 then (some 7) else (dowellaw29_checkSet.l0 k l0 a1 0)) = some r := h
 clear h
 by_cases c3 : (l0.length : Int) = 0
 ·rw [if_pos c3] at H
  have c3b0 : ((l0.length : Int) == 0) = true := beq_iff_eq.mpr c3
  have c3b1 : ((l0.length : Int) != 0) = false := bne_eq_false_iff_eq.mpr c3
  clear c3
  obtain rfl := Option.some.inj H
  go_enter Tryd.func49, Tryd.ntmps49
  go_wp2
  repeat (go_quiet (fail); try go_wp2)
  go_ret
  exact ⟨by first | rfl | (simp; done) | (simp [*]; done), by repeat (first | exact Drawn0.refl _ | apply Drawn0.step)⟩
 ·rw [if_neg c3] at H
  have c3b0 : ((l0.length : Int) == 0) = false := beq_eq_false_iff_ne.mpr c3
  have c3b1 : ((l0.length : Int) != 0) = true := bne_iff_ne.mpr c3
  have c3b2 : ¬ (l0 = []) := fun h_ => c3 (by rw [h_]; rfl)
  have H' := Aside0.mk H
  clear H
  go_enter Tryd.func49, Tryd.ntmps49
  go_wp2
  repeat (go_quiet (fail); try go_wp2)
  go_loopg [5] k (fun kq v5 w' => ∃ (x5_1 : Int), v5 = .int .i64 x5_1 ∧ Aside0 (dowellaw29_checkSet.l0 kq l0 a1 x5_1 = some r) ∧ Aside0 (kq ≤ k) ∧ Drawn0 w w')
  case atStart => exact ⟨(0), (by first | rfl | (simp; done) | (simp [*]; done)), H', ⟨Nat.le_refl _⟩, by repeat (first | exact Drawn0.refl _ | apply Drawn0.step)⟩
  case round =>
   clear H'
   try clear p2
   try clear c3
   try clear c3b0
   try clear c3b1
   try clear c3b2
   obtain ⟨x5_1, rfl, HA, HK1, ⟨m1, rfl⟩⟩ := hrel
   cases gk with
   | zero => exact absurd HA.out (by simp [dowellaw29_checkSet.l0])
   | succ k1 =>
    have H := HA.out
    clear HA
    simp only [dowellaw29_checkSet.l0] at H
    by_cases c4 : x5_1 < (l0.length : Int)
    ·rw [if_pos c4] at H
     have c4b0 : decide (x5_1 < (l0.length : Int)) = true := decide_eq_true c4
     clear c4
     have HC5 := Aside0.mk H
     clear H
     go_upto_region 6 with (fail)
     repeat (go_quiet (fail); go_upto_region 6 with (fail))
     go_cut [27] (fun v27 wc => ∃ (kq : Nat) (x27_4 : Bool), v27 = .bool x27_4 ∧ Aside0 (dowellaw29_checkSet.j1 kq l0 a1 x5_1 x27_4 = some r) ∧ Aside0 (kq ≤ k1) ∧ Drawn0 w wc)
     case first =>
      have H := HC5.out
      clear HC5
      by_cases c6 : 0 ≤ x5_1
      ·rw [if_pos c6] at H
       have c6b0 : decide (0 ≤ x5_1) = true := decide_eq_true c6
       clear c6
       (first | rw [c6b0] | (simp only [i64_w, i32_w]; rw [c6b0]) | skip)
       by_cases c7 : (rd l0 x5_1) < 0
       ·rw [if_pos c7] at H
        have c7b0 : decide ((rd l0 x5_1) < 0) = true := decide_eq_true c7
        clear c7
        have H' := Aside0.mk H
        clear H
        have p437 : 0 ≤ (x5_1 : Int) := of_decide_eq_true (by first | (with_reducible assumption) | assumption)
        have q437 : x5_1 < (l0.length : Int) := of_decide_eq_true (by first | (with_reducible assumption) | assumption)
        obtain ⟨ad437, e437, hx437_0⟩ := Kd.at_int HR0.out x5_1 p437 q437
        cases e437
        replace p437 := eq_true p437
        replace q437 := eq_true q437
        go_wp2
        repeat (go_quiet (fail); try go_wp2)
        go_meet
        case rel => exact ⟨_, (true), (by first | rfl | (simp; done) | (simp [*]; done)), H', ⟨by have := HK1.out; first | omega | exact Nat.le_refl _⟩, by repeat (first | exact Drawn0.refl _ | apply Drawn0.step)⟩
       ·rw [if_neg c7] at H
        have c7b0 : decide ((rd l0 x5_1) < 0) = false := decide_eq_false c7
        clear c7
        have H' := Aside0.mk H
        clear H
        have p437 : 0 ≤ (x5_1 : Int) := of_decide_eq_true (by first | (with_reducible assumption) | assumption)
        have q437 : x5_1 < (l0.length : Int) := of_decide_eq_true (by first | (with_reducible assumption) | assumption)
        obtain ⟨ad437, e437, hx437_0⟩ := Kd.at_int HR0.out x5_1 p437 q437
        cases e437
        replace p437 := eq_true p437
        replace q437 := eq_true q437
        have p438 : 0 ≤ (x5_1 : Int) := of_decide_eq_true (by first | (with_reducible assumption) | assumption)
        have q438 : x5_1 < (l0.length : Int) := of_decide_eq_true (by first | (with_reducible assumption) | assumption)
        obtain ⟨ad438, e438, hx438_0⟩ := Kd.at_int HR0.out x5_1 p438 q438
        obtain rfl : ad437 = ad438 := (by injection e438)
        replace p438 := eq_true p438
        replace q438 := eq_true q438
        go_wp2
        repeat (go_quiet (fail); try go_wp2)
        go_meet
        case rel => exact ⟨_, (decide ((rd l0 x5_1) ≥ a1)), (by first | rfl | (simp; done) | (simp [*]; done)), H', ⟨by have := HK1.out; first | omega | exact Nat.le_refl _⟩, by repeat (first | exact Drawn0.refl _ | apply Drawn0.step)⟩
      ·rw [if_neg c6] at H
       exact absurd H (by simp)
     case rest =>
      clear HC5
      try clear p2
      try clear c3
      try clear c3b0
      try clear c3b1
      try clear c3b2
      try clear c4
      try clear c4b0
      try clear p4
      try clear q4
      try clear hx4
      try clear c6
      try clear c6b0
      try clear c7
      try clear c7b0
      try clear hx437_0
      try clear hx438_0
      try clear p2
      try clear p437
      try clear p438
      try clear q437
      try clear q438
      obtain ⟨kq, x27_4, rfl, HA, HJ4, ⟨mc4, rfl⟩⟩ := hcut
      cases kq with
      | zero => exact absurd HA.out (by simp [dowellaw29_checkSet.j1])
      | succ kj4 =>
       have H := HA.out
       clear HA
       simp only [dowellaw29_checkSet.j1] at H
       by_cases c8 : x27_4 = true
       ·subst c8
        have H1 : (some 2) = some r := by rw [if_pos rfl] at H; exact H
        clear H
        have H := H1
        clear H1
        obtain rfl := Option.some.inj H
        go_wp2
        repeat (go_quiet (fail); try go_wp2)
        go_ret
        exact ⟨by first | rfl | (simp; done) | (simp [*]; done), by repeat (first | exact Drawn0.refl _ | apply Drawn0.step)⟩
       ·replace c8 := Bool.eq_false_iff.mpr c8
        subst c8
        have H1 : (if x5_1 > 0 then (if 0 ≤ x5_1 then (if x5_1 < (l0.length : Int) then (if 0 ≤ (wrap64 (x5_1 - 1)) then (if (wrap64 (x5_1 - 1)) < (l0.length : Int) then (if (rd l0 x5_1) ≤ (rd l0 (wrap64 (x5_1 - 1))) then (some 8) else (dowellaw29_checkSet.l0 kj4 l0 a1 (wrap64 (x5_1 + 1)))) else (none)) else (none)) else (none)) else (none)) else (dowellaw29_checkSet.l0 kj4 l0 a1 (wrap64 (x5_1 + 1)))) = some r := by rw [if_neg (show ¬ (false = true) by decide)] at H; exact H
        clear H
        have H := H1
        clear H1
        by_cases c9 : x5_1 > 0
        ·rw [if_pos c9] at H
         have c9b0 : decide (0 < x5_1) = true := decide_eq_true c9
         clear c9
         by_cases c10 : 0 ≤ x5_1
         ·rw [if_pos c10] at H
          have c10b0 : decide (0 ≤ x5_1) = true := decide_eq_true c10
          clear c10
          by_cases c11 : x5_1 < (l0.length : Int)
          ·rw [if_pos c11] at H
           have c11b0 : decide (x5_1 < (l0.length : Int)) = true := decide_eq_true c11
           clear c11
           obtain ⟨ji12, hji12⟩ : ∃ j_ : Int, (wrap64 (x5_1 - 1)) = j_ := ⟨_, rfl⟩
           replace H : (if 0 ≤ (ji12) then (if (ji12) < (l0.length : Int) then (if (rd l0 x5_1) ≤ (rd l0 (ji12)) then (some 8) else (dowellaw29_checkSet.l0 kj4 l0 a1 (wrap64 (x5_1 + 1)))) else (none)) else (none)) = some r := by first | (rw [hji12] at H; exact H) | (simp only [hji12] at H ⊢; exact H)
           have hji12w : (IntKind.i64.wrap (x5_1 - 1)) = ji12 := (i64_w _).trans hji12
           by_cases c13 : 0 ≤ (ji12)
           ·rw [if_pos c13] at H
            have c13b0 : decide (0 ≤ (ji12)) = true := decide_eq_true c13
            clear c13
            by_cases c14 : (ji12) < (l0.length : Int)
            ·rw [if_pos c14] at H
             have c14b0 : decide ((ji12) < (l0.length : Int)) = true := decide_eq_true c14
             clear c14
             by_cases c15 : (rd l0 x5_1) ≤ (rd l0 (ji12))
             ·rw [if_pos c15] at H
              have c15b0 : decide ((rd l0 x5_1) ≤ (rd l0 (ji12))) = true := decide_eq_true c15
              clear c15
              obtain rfl := Option.some.inj H
              have p439 : 0 ≤ (x5_1 : Int) := of_decide_eq_true (by first | (with_reducible assumption) | assumption)
              have q439 : x5_1 < (l0.length : Int) := of_decide_eq_true (by first | (with_reducible assumption) | assumption)
              obtain ⟨ad439, e439, hx439_0⟩ := Kd.at_int HR0.out x5_1 p439 q439
              cases e439
              replace p439 := eq_true p439
              replace q439 := eq_true q439
              have p440 : 0 ≤ ((ji12) : Int) := of_decide_eq_true (by first | (with_reducible assumption) | assumption)
              have q440 : (ji12) < (l0.length : Int) := of_decide_eq_true (by first | (with_reducible assumption) | assumption)
              obtain ⟨ad440, e440, hx440_0⟩ := Kd.at_int HR0.out (ji12) p440 q440
              obtain rfl : ad439 = ad440 := (by injection e440)
              replace p440 := eq_true p440
              replace q440 := eq_true q440
              go_wp2
              repeat (go_quiet (fail); try go_wp2)
              go_ret
              exact ⟨by first | rfl | (simp; done) | (simp only [← hji12] <;> (first | rfl | simp)) | (simp [*]; done), by repeat (first | exact Drawn0.refl _ | apply Drawn0.step)⟩
             ·rw [if_neg c15] at H
              have c15b0 : decide ((rd l0 x5_1) ≤ (rd l0 (ji12))) = false := decide_eq_false c15
              clear c15
              have H' := Aside0.mk H
              clear H
              have p439 : 0 ≤ (x5_1 : Int) := of_decide_eq_true (by first | (with_reducible assumption) | assumption)
              have q439 : x5_1 < (l0.length : Int) := of_decide_eq_true (by first | (with_reducible assumption) | assumption)
              obtain ⟨ad439, e439, hx439_0⟩ := Kd.at_int HR0.out x5_1 p439 q439
              cases e439
              replace p439 := eq_true p439
              replace q439 := eq_true q439
              have p440 : 0 ≤ ((ji12) : Int) := of_decide_eq_true (by first | (with_reducible assumption) | assumption)
              have q440 : (ji12) < (l0.length : Int) := of_decide_eq_true (by first | (with_reducible assumption) | assumption)
              obtain ⟨ad440, e440, hx440_0⟩ := Kd.at_int HR0.out (ji12) p440 q440
              obtain rfl : ad439 = ad440 := (by injection e440)
              replace p440 := eq_true p440
              replace q440 := eq_true q440
              go_wp2
              repeat (go_quiet (fail); try go_wp2)
              go_roundg kj4
              case measure => have := HK1.out; have := HJ4.out; omega
              case rel => exact ⟨(wrap64 (x5_1 + 1)), (by first | rfl | (simp; done) | (simp [*]; done)), H', ⟨by have := HK1.out; have := HJ4.out; omega⟩, by repeat (first | exact Drawn0.refl _ | apply Drawn0.step)⟩
            ·rw [if_neg c14] at H
             exact absurd H (by simp)
           ·rw [if_neg c13] at H
            exact absurd H (by simp)
          ·rw [if_neg c11] at H
           exact absurd H (by simp)
         ·rw [if_neg c10] at H
          exact absurd H (by simp)
        ·rw [if_neg c9] at H
         have c9b0 : decide (0 < x5_1) = false := decide_eq_false c9
         clear c9
         have H' := Aside0.mk H
         clear H
         go_wp2
         repeat (go_quiet (fail); try go_wp2)
         go_roundg kj4
         case measure => have := HK1.out; have := HJ4.out; omega
         case rel => exact ⟨(wrap64 (x5_1 + 1)), (by first | rfl | (simp; done) | (simp [*]; done)), H', ⟨by have := HK1.out; have := HJ4.out; omega⟩, by repeat (first | exact Drawn0.refl _ | apply Drawn0.step)⟩
    ·rw [if_neg c4] at H
     have c4b0 : decide (x5_1 < (l0.length : Int)) = false := decide_eq_false c4
     clear c4
     obtain rfl := Option.some.inj H
     go_wp2
     repeat (go_quiet (fail); try go_wp2)
     go_ret
     exact ⟨by first | rfl | (simp; done) | (simp [*]; done), by repeat (first | exact Drawn0.refl _ | apply Drawn0.step)⟩
end
end Go.Proofs.YtbghfbhlbfcloaaDoor.PL
namespace Go.Proofs.YtbghfbhlbfcloaaDoor.PL
section
open Go.RowKit Go.Proofs.YtbghfbhlbfcloaaDoorW.PrintWords Go.Proofs.YtbghfbhlbfcloaaDoorW.PrintLast Go.Proofs.YtbghfbhlbfcloaaDoorW.PrintMore
attribute [local go_sem] max2_int min2_int max_two min_two max_three min_three max_four min_four   -- for this text's walks alone
set_option linter.unusedVariables false
set_option linter.unusedSimpArgs false
/-! ### dowellaw29_apart: function 50 -/
def dowellaw29_apart.l0 : Nat → List Int → List Int → Int → Option (Bool)
 | 0, _, _, _ => none
 | k + 1, x0, x1, x5 => if x5 < (x0.length : Int) then (if 0 ≤ x5 then ((dowellaw29_has.f k x1 (rd x0 x5)).bind fun t442 => (if t442 = true then (some false) else (dowellaw29_apart.l0 k x0 x1 (wrap64 (x5 + 1))))) else (none)) else (some true)
def dowellaw29_apart.f (k : Nat) (l0 : List Int) (l1 : List Int) : Option (Bool) := dowellaw29_apart.l0 k l0 l1 0
theorem dowellaw29_apart.mono_l : ∀ k, (∀ y0 y1 y2, LeO (dowellaw29_apart.l0 k y0 y1 y2) (dowellaw29_apart.l0 (k + 1) y0 y1 y2))
 | 0 => fun _ _ _ r h => by simp [dowellaw29_apart.l0] at h
 | k + 1 => by
  have ih0 := dowellaw29_apart.mono_l k
  ·intro y0 y1 y2
   unfold dowellaw29_apart.l0
   repeat' first
   | (with_reducible exact ih0 _ _ _)
   | (with_reducible exact dowellaw29_has.mono _ _ _)
   | (with_reducible exact LeO.refl _)
   | (with_reducible exact LeO.none _)
   | (with_reducible refine LeO.ite ?_ ?_)
   | (with_reducible refine LeO.bind ?_ (fun _ => ?_))
   | exact ih0 _ _ _
   | exact dowellaw29_has.mono _ _ _
   | exact LeO.none _
   | refine LeO.ite ?_ ?_
   | refine LeO.bind ?_ (fun _ => ?_)
theorem dowellaw29_apart.mono : ∀ a0 a1 k, LeO (dowellaw29_apart.f k a0 a1) (dowellaw29_apart.f (k + 1) a0 a1) := by
 intro a0 a1 k
 have ih0 := dowellaw29_apart.mono_l k
 unfold dowellaw29_apart.f
 repeat' first
   | (with_reducible exact ih0 _ _ _)
   | (with_reducible exact dowellaw29_has.mono _ _ _)
   | (with_reducible exact LeO.refl _)
   | (with_reducible exact LeO.none _)
   | (with_reducible refine LeO.ite ?_ ?_)
   | (with_reducible refine LeO.bind ?_ (fun _ => ?_))
   | exact ih0 _ _ _
   | exact dowellaw29_has.mono _ _ _
   | exact LeO.none _
   | refine LeO.ite ?_ ?_
   | refine LeO.bind ?_ (fun _ => ?_)
set_option maxHeartbeats 8000000 in
set_option maxRecDepth 100000 in
theorem dowellaw29_apart.calls (k : Nat) (A0 : Option Addr) (c0 : Nat) (l0 : List Int) (A1 : Option Addr) (c1 : Nat) (l1 : List Int) (r : Bool) (w : World) (hr0 : Kd.C (Kd.int .i64) w A0 l0.length l0) (hc0 : l0.length ≤ c0) (hr1 : Kd.C (Kd.int .i64) w A1 l1.length l1) (hc1 : l1.length ≤ c1) (h : dowellaw29_apart.f k l0 l1 = some r) :
  Calls Tryd.prog 50 #[.slice A0 l0.length c0, .slice A1 l1.length c1] w fun e w' => e = .returned (.bool r) ∧ Drawn0 w w' := by
 have HR0 := Aside0.mk hr0
 have HC0 := Aside0.mk hc0
 clear hr0 hc0
 have HR1 := Aside0.mk hr1
 have HC1 := Aside0.mk hc1
 clear hr1 hc1
 have H : (dowellaw29_apart.l0 k l0 l1 0) = some r := h
 clear h
 have H' := Aside0.mk H
 clear H
 go_enter Tryd.func50, Tryd.ntmps50
 go_wp2
 go_loopg [5] k (fun kq v5 w' => ∃ (x5_1 : Int), v5 = .int .i64 x5_1 ∧ Aside0 (dowellaw29_apart.l0 kq l0 l1 x5_1 = some r) ∧ Aside0 (kq ≤ k) ∧ Drawn0 w w')
 case atStart => exact ⟨(0), (by first | rfl | (simp; done) | (simp [*]; done)), H', ⟨Nat.le_refl _⟩, by repeat (first | exact Drawn0.refl _ | apply Drawn0.step)⟩
 case round =>
  clear H'
  try clear c1
  try clear p2
  obtain ⟨x5_1, rfl, HA, HK1, ⟨m1, rfl⟩⟩ := hrel
  cases gk with
  | zero => exact absurd HA.out (by simp [dowellaw29_apart.l0])
  | succ k1 =>
   have H := HA.out
   clear HA
   simp only [dowellaw29_apart.l0] at H
   by_cases c3 : x5_1 < (l0.length : Int)
   ·rw [if_pos c3] at H
    have c3b0 : decide (x5_1 < (l0.length : Int)) = true := decide_eq_true c3
    clear c3
    by_cases c4 : 0 ≤ x5_1
    ·rw [if_pos c4] at H
     have c4b0 : decide (0 ≤ x5_1) = true := decide_eq_true c4
     clear c4
     replace H := Option.bind_eq_some_iff.mp H
     obtain ⟨t442, A50, H⟩ := H
     replace H : (if t442 = true then (some false) else (dowellaw29_apart.l0 k1 l0 l1 (wrap64 (x5_1 + 1)))) = some r := H
     have A5 := Aside0.mk A50
     clear A50
     by_cases c6 : t442 = true
     ·subst c6
      have H1 : (some false) = some r := by rw [if_pos rfl] at H; exact H
      clear H
      have H := H1
      clear H1
      obtain rfl := Option.some.inj H
      have p441 : 0 ≤ (x5_1 : Int) := of_decide_eq_true (by first | (with_reducible assumption) | assumption)
      have q441 : x5_1 < (l0.length : Int) := of_decide_eq_true (by first | (with_reducible assumption) | assumption)
      obtain ⟨ad441, e441, hx441_0⟩ := Kd.at_int HR0.out x5_1 p441 q441
      cases e441
      replace p441 := eq_true p441
      replace q441 := eq_true q441
      go_wp2_with (first | ((with_reducible refine gate_callee (f := 20) rfl ?_); refine goesL_ (some 17) rfl rfl Tryd.func20 (by kernel_rfl) rfl #[.slice A1 l1.length c1, .int .i64 (rd l0 x5_1)] rfl (by (try simp only [List.map_toArray, List.map_cons, List.map_nil]); first | done | rfl | (simp only [List.length_drop, List.length_take]; rfl)) ?_; (with_reducible refine (dowellaw29_has.calls k1 _ _ l1 (rd l0 x5_1) true _ ?side1 ?side2 A5.out).mono ?_); (case side1 => repeat (first | exact HR1.out | (with_reducible refine Kd.C_alloc ?_ _) | (with_reducible refine Kd.C_drewN ?_ _) | (with_reducible refine Kd.C_drew ?_))); (case side2 => exact HC1.out); rintro e w' ⟨rfl, ⟨nd, rfl⟩⟩; refine ⟨_, rfl, ?_⟩))
      go_ret
      exact ⟨by first | rfl | (simp; done) | (simp [*]; done), by repeat (first | exact Drawn0.refl _ | apply Drawn0.step)⟩
     ·replace c6 := Bool.eq_false_iff.mpr c6
      subst c6
      have H1 : (dowellaw29_apart.l0 k1 l0 l1 (wrap64 (x5_1 + 1))) = some r := by rw [if_neg (show ¬ (false = true) by decide)] at H; exact H
      clear H
      have H := H1
      clear H1
      have H' := Aside0.mk H
      clear H
      have p441 : 0 ≤ (x5_1 : Int) := of_decide_eq_true (by first | (with_reducible assumption) | assumption)
      have q441 : x5_1 < (l0.length : Int) := of_decide_eq_true (by first | (with_reducible assumption) | assumption)
      obtain ⟨ad441, e441, hx441_0⟩ := Kd.at_int HR0.out x5_1 p441 q441
      cases e441
      replace p441 := eq_true p441
      replace q441 := eq_true q441
      go_wp2_with (first | ((with_reducible refine gate_callee (f := 20) rfl ?_); refine goesL_ (some 17) rfl rfl Tryd.func20 (by kernel_rfl) rfl #[.slice A1 l1.length c1, .int .i64 (rd l0 x5_1)] rfl (by (try simp only [List.map_toArray, List.map_cons, List.map_nil]); first | done | rfl | (simp only [List.length_drop, List.length_take]; rfl)) ?_; (with_reducible refine (dowellaw29_has.calls k1 _ _ l1 (rd l0 x5_1) false _ ?side1 ?side2 A5.out).mono ?_); (case side1 => repeat (first | exact HR1.out | (with_reducible refine Kd.C_alloc ?_ _) | (with_reducible refine Kd.C_drewN ?_ _) | (with_reducible refine Kd.C_drew ?_))); (case side2 => exact HC1.out); rintro e w' ⟨rfl, ⟨nd, rfl⟩⟩; refine ⟨_, rfl, ?_⟩))
      go_roundg k1
      case measure => have := HK1.out; omega
      case rel => exact ⟨(wrap64 (x5_1 + 1)), (by first | rfl | (simp; done) | (simp [*]; done)), H', ⟨by have := HK1.out; omega⟩, by repeat (first | exact Drawn0.refl _ | apply Drawn0.step)⟩
    ·rw [if_neg c4] at H
     exact absurd H (by simp)
   ·rw [if_neg c3] at H
    have c3b0 : decide (x5_1 < (l0.length : Int)) = false := decide_eq_false c3
    clear c3
    obtain rfl := Option.some.inj H
    go_wp2
    go_ret
    exact ⟨by first | rfl | (simp; done) | (simp [*]; done), by repeat (first | exact Drawn0.refl _ | apply Drawn0.step)⟩
end
end Go.Proofs.YtbghfbhlbfcloaaDoor.PL
namespace Go.Proofs.YtbghfbhlbfcloaaDoor.PL
section
open Go.RowKit Go.Proofs.YtbghfbhlbfcloaaDoorW.PrintWords Go.Proofs.YtbghfbhlbfcloaaDoorW.PrintLast Go.Proofs.YtbghfbhlbfcloaaDoorW.PrintMore
attribute [local go_sem] max2_int min2_int max_two min_two max_three min_three max_four min_four   -- for this text's walks alone
set_option linter.unusedVariables false
set_option linter.unusedSimpArgs false
/-! ### dowellaw29_checkGroups: function 25 -/
mutual
def dowellaw29_checkGroups.j0 : Nat → List (S57) → Int → Bool → Option (Int)
 | 0, _, _, _ => none
 | k + 1, x0, x1, x17 => if x17 = true then (some 2) else (if (x0.length : Int) > 32 then (some 6) else (dowellaw29_checkGroups.l0 k x0 x1 0))
def dowellaw29_checkGroups.l0 : Nat → List (S57) → Int → Int → Option (Int)
 | 0, _, _, _ => none
 | k + 1, x0, x1, x5 => if x5 < (x0.length : Int) then (if 0 ≤ x5 then ((dowellaw29_name.f k ((rd_T57 x0 x5).f0)).bind fun t446 => (if t446 = true then (dowellaw29_checkGroups.l1 k x0 x1 x5 0) else (some 11))) else (none)) else (some 0)
def dowellaw29_checkGroups.l1 : Nat → List (S57) → Int → Int → Int → Option (Int)
 | 0, _, _, _, _ => none
 | k + 1, x0, x1, x5, x6 => if x6 < x5 then (if 0 ≤ x6 then (if x6 < (x0.length : Int) then (if 0 ≤ x5 then (if x5 < (x0.length : Int) then (if ((rd_T57 x0 x6).f0).toList = ((rd_T57 x0 x5).f0).toList then (some 9) else (dowellaw29_checkGroups.l1 k x0 x1 x5 (wrap64 (x6 + 1)))) else (none)) else (none)) else (none)) else (none)) else (if 0 ≤ x5 then (if x5 < (x0.length : Int) then (if (((rd_T57 x0 x5).f1).length : Int) < 2 then (some 7) else ((dowellaw29_checkSet.f k ((rd_T57 x0 x5).f1) x1).bind fun t451 => (if t451 = 0 then (dowellaw29_checkGroups.l2 k x0 x1 x5 0) else (some t451)))) else (none)) else (none))
def dowellaw29_checkGroups.l2 : Nat → List (S57) → Int → Int → Int → Option (Int)
 | 0, _, _, _, _ => none
 | k + 1, x0, x1, x5, x8 => if x8 < x5 then (if 0 ≤ x8 then (if x8 < (x0.length : Int) then (if 0 ≤ x5 then (if x5 < (x0.length : Int) then ((dowellaw29_same.f k ((rd_T57 x0 x8).f1) ((rd_T57 x0 x5).f1)).bind fun t454 => (if t454 = true then (some 9) else (dowellaw29_checkGroups.l2 k x0 x1 x5 (wrap64 (x8 + 1))))) else (none)) else (none)) else (none)) else (none)) else (dowellaw29_checkGroups.l3 k x0 x1 x5 0)
def dowellaw29_checkGroups.l3 : Nat → List (S57) → Int → Int → Int → Option (Int)
 | 0, _, _, _, _ => none
 | k + 1, x0, x1, x5, x9 => if x9 < x5 then (if 0 ≤ x5 then (if x5 < (x0.length : Int) then (if 0 ≤ x9 then (if x9 < (x0.length : Int) then ((dowellaw29_apart.f k ((rd_T57 x0 x5).f1) ((rd_T57 x0 x9).f1)).bind fun t457 => (if t457 = true then (dowellaw29_checkGroups.l3 k x0 x1 x5 (wrap64 (x9 + 1))) else ((dowellaw29_within.f k ((rd_T57 x0 x5).f1) ((rd_T57 x0 x9).f1)).bind fun t458 => (if t458 = true then (dowellaw29_checkGroups.l3 k x0 x1 x5 (wrap64 (x9 + 1))) else ((dowellaw29_within.f k ((rd_T57 x0 x9).f1) ((rd_T57 x0 x5).f1)).bind fun t459 => (if t459 = true then (dowellaw29_checkGroups.l3 k x0 x1 x5 (wrap64 (x9 + 1))) else (some 17))))))) else (none)) else (none)) else (none)) else (none)) else (dowellaw29_checkGroups.l0 k x0 x1 (wrap64 (x5 + 1)))
end
def dowellaw29_checkGroups.f (k : Nat) (l0 : List (S57)) (a1 : Int) : Option (Int) := if a1 < 0 then (dowellaw29_checkGroups.j0 k l0 a1 true) else (dowellaw29_checkGroups.j0 k l0 a1 (decide (a1 > 12)))
theorem dowellaw29_checkGroups.mono_l : ∀ k, (∀ y0 y1 y2, LeO (dowellaw29_checkGroups.j0 k y0 y1 y2) (dowellaw29_checkGroups.j0 (k + 1) y0 y1 y2)) ∧ (∀ y0 y1 y2, LeO (dowellaw29_checkGroups.l0 k y0 y1 y2) (dowellaw29_checkGroups.l0 (k + 1) y0 y1 y2)) ∧ (∀ y0 y1 y2 y3, LeO (dowellaw29_checkGroups.l1 k y0 y1 y2 y3) (dowellaw29_checkGroups.l1 (k + 1) y0 y1 y2 y3)) ∧ (∀ y0 y1 y2 y3, LeO (dowellaw29_checkGroups.l2 k y0 y1 y2 y3) (dowellaw29_checkGroups.l2 (k + 1) y0 y1 y2 y3)) ∧ (∀ y0 y1 y2 y3, LeO (dowellaw29_checkGroups.l3 k y0 y1 y2 y3) (dowellaw29_checkGroups.l3 (k + 1) y0 y1 y2 y3))
 | 0 => ⟨fun _ _ _ r h => by simp [dowellaw29_checkGroups.j0] at h, fun _ _ _ r h => by simp [dowellaw29_checkGroups.l0] at h, fun _ _ _ _ r h => by simp [dowellaw29_checkGroups.l1] at h, fun _ _ _ _ r h => by simp [dowellaw29_checkGroups.l2] at h, fun _ _ _ _ r h => by simp [dowellaw29_checkGroups.l3] at h⟩
 | k + 1 => by
  obtain ⟨ih0, ih1, ih2, ih3, ih4⟩ := dowellaw29_checkGroups.mono_l k
  refine ⟨?_, ?_, ?_, ?_, ?_⟩
  ·intro y0 y1 y2
   unfold dowellaw29_checkGroups.j0
   repeat' first
   | (with_reducible exact ih0 _ _ _)
   | (with_reducible exact ih1 _ _ _)
   | (with_reducible exact ih2 _ _ _ _)
   | (with_reducible exact ih3 _ _ _ _)
   | (with_reducible exact ih4 _ _ _ _)
   | (with_reducible exact dowellaw29_apart.mono _ _ _)
   | (with_reducible exact dowellaw29_checkSet.mono _ _ _)
   | (with_reducible exact dowellaw29_name.mono _ _)
   | (with_reducible exact dowellaw29_same.mono _ _ _)
   | (with_reducible exact dowellaw29_within.mono _ _ _)
   | (with_reducible exact LeO.refl _)
   | (with_reducible exact LeO.none _)
   | (with_reducible refine LeO.ite ?_ ?_)
   | (with_reducible refine LeO.bind ?_ (fun _ => ?_))
   | exact ih0 _ _ _
   | exact ih1 _ _ _
   | exact ih2 _ _ _ _
   | exact ih3 _ _ _ _
   | exact ih4 _ _ _ _
   | exact dowellaw29_apart.mono _ _ _
   | exact dowellaw29_checkSet.mono _ _ _
   | exact dowellaw29_name.mono _ _
   | exact dowellaw29_same.mono _ _ _
   | exact dowellaw29_within.mono _ _ _
   | exact LeO.none _
   | refine LeO.ite ?_ ?_
   | refine LeO.bind ?_ (fun _ => ?_)
  ·intro y0 y1 y2
   unfold dowellaw29_checkGroups.l0
   repeat' first
   | (with_reducible exact ih0 _ _ _)
   | (with_reducible exact ih1 _ _ _)
   | (with_reducible exact ih2 _ _ _ _)
   | (with_reducible exact ih3 _ _ _ _)
   | (with_reducible exact ih4 _ _ _ _)
   | (with_reducible exact dowellaw29_apart.mono _ _ _)
   | (with_reducible exact dowellaw29_checkSet.mono _ _ _)
   | (with_reducible exact dowellaw29_name.mono _ _)
   | (with_reducible exact dowellaw29_same.mono _ _ _)
   | (with_reducible exact dowellaw29_within.mono _ _ _)
   | (with_reducible exact LeO.refl _)
   | (with_reducible exact LeO.none _)
   | (with_reducible refine LeO.ite ?_ ?_)
   | (with_reducible refine LeO.bind ?_ (fun _ => ?_))
   | exact ih0 _ _ _
   | exact ih1 _ _ _
   | exact ih2 _ _ _ _
   | exact ih3 _ _ _ _
   | exact ih4 _ _ _ _
   | exact dowellaw29_apart.mono _ _ _
   | exact dowellaw29_checkSet.mono _ _ _
   | exact dowellaw29_name.mono _ _
   | exact dowellaw29_same.mono _ _ _
   | exact dowellaw29_within.mono _ _ _
   | exact LeO.none _
   | refine LeO.ite ?_ ?_
   | refine LeO.bind ?_ (fun _ => ?_)
  ·intro y0 y1 y2 y3
   unfold dowellaw29_checkGroups.l1
   repeat' first
   | (with_reducible exact ih0 _ _ _)
   | (with_reducible exact ih1 _ _ _)
   | (with_reducible exact ih2 _ _ _ _)
   | (with_reducible exact ih3 _ _ _ _)
   | (with_reducible exact ih4 _ _ _ _)
   | (with_reducible exact dowellaw29_apart.mono _ _ _)
   | (with_reducible exact dowellaw29_checkSet.mono _ _ _)
   | (with_reducible exact dowellaw29_name.mono _ _)
   | (with_reducible exact dowellaw29_same.mono _ _ _)
   | (with_reducible exact dowellaw29_within.mono _ _ _)
   | (with_reducible exact LeO.refl _)
   | (with_reducible exact LeO.none _)
   | (with_reducible refine LeO.ite ?_ ?_)
   | (with_reducible refine LeO.bind ?_ (fun _ => ?_))
   | exact ih0 _ _ _
   | exact ih1 _ _ _
   | exact ih2 _ _ _ _
   | exact ih3 _ _ _ _
   | exact ih4 _ _ _ _
   | exact dowellaw29_apart.mono _ _ _
   | exact dowellaw29_checkSet.mono _ _ _
   | exact dowellaw29_name.mono _ _
   | exact dowellaw29_same.mono _ _ _
   | exact dowellaw29_within.mono _ _ _
   | exact LeO.none _
   | refine LeO.ite ?_ ?_
   | refine LeO.bind ?_ (fun _ => ?_)
  ·intro y0 y1 y2 y3
   unfold dowellaw29_checkGroups.l2
   repeat' first
   | (with_reducible exact ih0 _ _ _)
   | (with_reducible exact ih1 _ _ _)
   | (with_reducible exact ih2 _ _ _ _)
   | (with_reducible exact ih3 _ _ _ _)
   | (with_reducible exact ih4 _ _ _ _)
   | (with_reducible exact dowellaw29_apart.mono _ _ _)
   | (with_reducible exact dowellaw29_checkSet.mono _ _ _)
   | (with_reducible exact dowellaw29_name.mono _ _)
   | (with_reducible exact dowellaw29_same.mono _ _ _)
   | (with_reducible exact dowellaw29_within.mono _ _ _)
   | (with_reducible exact LeO.refl _)
   | (with_reducible exact LeO.none _)
   | (with_reducible refine LeO.ite ?_ ?_)
   | (with_reducible refine LeO.bind ?_ (fun _ => ?_))
   | exact ih0 _ _ _
   | exact ih1 _ _ _
   | exact ih2 _ _ _ _
   | exact ih3 _ _ _ _
   | exact ih4 _ _ _ _
   | exact dowellaw29_apart.mono _ _ _
   | exact dowellaw29_checkSet.mono _ _ _
   | exact dowellaw29_name.mono _ _
   | exact dowellaw29_same.mono _ _ _
   | exact dowellaw29_within.mono _ _ _
   | exact LeO.none _
   | refine LeO.ite ?_ ?_
   | refine LeO.bind ?_ (fun _ => ?_)
  ·intro y0 y1 y2 y3
   unfold dowellaw29_checkGroups.l3
   repeat' first
   | (with_reducible exact ih0 _ _ _)
   | (with_reducible exact ih1 _ _ _)
   | (with_reducible exact ih2 _ _ _ _)
   | (with_reducible exact ih3 _ _ _ _)
   | (with_reducible exact ih4 _ _ _ _)
   | (with_reducible exact dowellaw29_apart.mono _ _ _)
   | (with_reducible exact dowellaw29_checkSet.mono _ _ _)
   | (with_reducible exact dowellaw29_name.mono _ _)
   | (with_reducible exact dowellaw29_same.mono _ _ _)
   | (with_reducible exact dowellaw29_within.mono _ _ _)
   | (with_reducible exact LeO.refl _)
   | (with_reducible exact LeO.none _)
   | (with_reducible refine LeO.ite ?_ ?_)
   | (with_reducible refine LeO.bind ?_ (fun _ => ?_))
   | exact ih0 _ _ _
   | exact ih1 _ _ _
   | exact ih2 _ _ _ _
   | exact ih3 _ _ _ _
   | exact ih4 _ _ _ _
   | exact dowellaw29_apart.mono _ _ _
   | exact dowellaw29_checkSet.mono _ _ _
   | exact dowellaw29_name.mono _ _
   | exact dowellaw29_same.mono _ _ _
   | exact dowellaw29_within.mono _ _ _
   | exact LeO.none _
   | refine LeO.ite ?_ ?_
   | refine LeO.bind ?_ (fun _ => ?_)
theorem dowellaw29_checkGroups.mono : ∀ a0 a1 k, LeO (dowellaw29_checkGroups.f k a0 a1) (dowellaw29_checkGroups.f (k + 1) a0 a1) := by
 intro a0 a1 k
 obtain ⟨ih0, ih1, ih2, ih3, ih4⟩ := dowellaw29_checkGroups.mono_l k
 unfold dowellaw29_checkGroups.f
 repeat' first
   | (with_reducible exact ih0 _ _ _)
   | (with_reducible exact ih1 _ _ _)
   | (with_reducible exact ih2 _ _ _ _)
   | (with_reducible exact ih3 _ _ _ _)
   | (with_reducible exact ih4 _ _ _ _)
   | (with_reducible exact dowellaw29_apart.mono _ _ _)
   | (with_reducible exact dowellaw29_checkSet.mono _ _ _)
   | (with_reducible exact dowellaw29_name.mono _ _)
   | (with_reducible exact dowellaw29_same.mono _ _ _)
   | (with_reducible exact dowellaw29_within.mono _ _ _)
   | (with_reducible exact LeO.refl _)
   | (with_reducible exact LeO.none _)
   | (with_reducible refine LeO.ite ?_ ?_)
   | (with_reducible refine LeO.bind ?_ (fun _ => ?_))
   | exact ih0 _ _ _
   | exact ih1 _ _ _
   | exact ih2 _ _ _ _
   | exact ih3 _ _ _ _
   | exact ih4 _ _ _ _
   | exact dowellaw29_apart.mono _ _ _
   | exact dowellaw29_checkSet.mono _ _ _
   | exact dowellaw29_name.mono _ _
   | exact dowellaw29_same.mono _ _ _
   | exact dowellaw29_within.mono _ _ _
   | exact LeO.none _
   | refine LeO.ite ?_ ?_
   | refine LeO.bind ?_ (fun _ => ?_)
set_option maxHeartbeats 8000000 in
set_option maxRecDepth 100000 in
theorem dowellaw29_checkGroups.calls (k : Nat) (A0 : Option Addr) (c0 : Nat) (l0 : List (S57)) (a1 : Int) (r : Int) (w : World) (hr0 : Kd.C k57 w A0 l0.length l0) (hc0 : l0.length ≤ c0) (h : dowellaw29_checkGroups.f k l0 a1 = some r) :
  Calls Tryd.prog 25 #[.slice A0 l0.length c0, .int .i64 a1] w fun e w' => e = .returned (.int .i64 r) ∧ Drawn0 w w' := by
 have HR0 := Aside0.mk hr0
 have HC0 := Aside0.mk hc0
 clear hr0 hc0
 have H : (if a1 < 0 then (dowellaw29_checkGroups.j0 k l0 a1 true) else (dowellaw29_checkGroups.j0 k l0 a1 (decide (a1 > 12)))) = some r := h
 clear h
 have HC3 := Aside0.mk H
 clear H
 go_enter Tryd.func25, Tryd.ntmps25
 go_upto_region 1 with (fail)
 go_cut [17] (fun v17 wc => ∃ (kq : Nat) (x17_2 : Bool), v17 = .bool x17_2 ∧ Aside0 (dowellaw29_checkGroups.j0 kq l0 a1 x17_2 = some r) ∧ Aside0 (kq ≤ k) ∧ Drawn0 w wc)
 case first =>
  have H := HC3.out
  clear HC3
  by_cases c4 : a1 < 0
  ·rw [if_pos c4] at H
   have c4b0 : decide (a1 < 0) = true := decide_eq_true c4
   clear c4
   (first | rw [c4b0] | (simp only [i64_w, i32_w]; rw [c4b0]) | skip)
   have H' := Aside0.mk H
   clear H
   go_wp2
   go_meet
   case rel => exact ⟨_, (true), (by first | rfl | (simp; done) | (simp [*]; done)), H', ⟨by first | omega | exact Nat.le_refl _⟩, by repeat (first | exact Drawn0.refl _ | apply Drawn0.step)⟩
  ·rw [if_neg c4] at H
   have c4b0 : decide (a1 < 0) = false := decide_eq_false c4
   clear c4
   (first | rw [c4b0] | (simp only [i64_w, i32_w]; rw [c4b0]) | skip)
   have H' := Aside0.mk H
   clear H
   go_wp2
   go_meet
   case rel => exact ⟨_, (decide (a1 > 12)), (by first | rfl | (simp; done) | (simp [*]; done)), H', ⟨by first | omega | exact Nat.le_refl _⟩, by repeat (first | exact Drawn0.refl _ | apply Drawn0.step)⟩
 case rest =>
  clear HC3
  try clear c2
  try clear p2
  try clear c4
  try clear c4b0
  obtain ⟨kq, x17_2, rfl, HA, HJ2, ⟨mc2, rfl⟩⟩ := hcut
  cases kq with
  | zero => exact absurd HA.out (by simp [dowellaw29_checkGroups.j0])
  | succ kj2 =>
   have H := HA.out
   clear HA
   simp only [dowellaw29_checkGroups.j0] at H
   by_cases c5 : x17_2 = true
   ·subst c5
    have H1 : (some 2) = some r := by rw [if_pos rfl] at H; exact H
    clear H
    have H := H1
    clear H1
    obtain rfl := Option.some.inj H
    go_wp2
    go_ret
    exact ⟨by first | rfl | (simp; done) | (simp [*]; done), by repeat (first | exact Drawn0.refl _ | apply Drawn0.step)⟩
   ·replace c5 := Bool.eq_false_iff.mpr c5
    subst c5
    have H1 : (if (l0.length : Int) > 32 then (some 6) else (dowellaw29_checkGroups.l0 kj2 l0 a1 0)) = some r := by rw [if_neg (show ¬ (false = true) by decide)] at H; exact H
    clear H
    have H := H1
    clear H1
    by_cases c6 : (l0.length : Int) > 32
    ·rw [if_pos c6] at H
     have c6b0 : decide (32 < (l0.length : Int)) = true := decide_eq_true c6
     have c6b1 : decide (32 < l0.length) = true := decide_eq_true (by omega)
     clear c6
     obtain rfl := Option.some.inj H
     go_wp2
     go_ret
     exact ⟨by first | rfl | (simp; done) | (simp [*]; done), by repeat (first | exact Drawn0.refl _ | apply Drawn0.step)⟩
    ·rw [if_neg c6] at H
     have c6b0 : decide (32 < (l0.length : Int)) = false := decide_eq_false c6
     have c6b1 : decide (32 < l0.length) = false := decide_eq_false (by omega)
     clear c6
     have H' := Aside0.mk H
     clear H
     go_wp2
     go_loopg [5] kj2 (fun kq v5 w' => ∃ (x5_2 : Int), v5 = .int .i64 x5_2 ∧ Aside0 (dowellaw29_checkGroups.l0 kq l0 a1 x5_2 = some r) ∧ Aside0 (kq ≤ kj2) ∧ Drawn0 w w')
     case atStart => exact ⟨(0), (by first | rfl | (simp; done) | (simp [*]; done)), H', ⟨Nat.le_refl _⟩, by repeat (first | exact Drawn0.refl _ | apply Drawn0.step)⟩
     case round =>
      clear H'
      try clear c2
      try clear p2
      try clear c4
      try clear c4b0
      try clear c5
      try clear c6
      try clear c6b0
      try clear c6b1
      try clear p2
      obtain ⟨x5_2, rfl, HA, HK2, ⟨m2, rfl⟩⟩ := hrel
      cases gk with
      | zero => exact absurd HA.out (by simp [dowellaw29_checkGroups.l0])
      | succ k2 =>
       have H := HA.out
       clear HA
       simp only [dowellaw29_checkGroups.l0] at H
       by_cases c7 : x5_2 < (l0.length : Int)
       ·rw [if_pos c7] at H
        have c7b0 : decide (x5_2 < (l0.length : Int)) = true := decide_eq_true c7
        clear c7
        by_cases c8 : 0 ≤ x5_2
        ·rw [if_pos c8] at H
         have c8b0 : decide (0 ≤ x5_2) = true := decide_eq_true c8
         clear c8
         replace H := Option.bind_eq_some_iff.mp H
         obtain ⟨t446, A90, H⟩ := H
         replace H : (if t446 = true then (dowellaw29_checkGroups.l1 k2 l0 a1 x5_2 0) else (some 11)) = some r := H
         have A9 := Aside0.mk A90
         clear A90
         by_cases c10 : t446 = true
         ·subst c10
          have H1 : (dowellaw29_checkGroups.l1 k2 l0 a1 x5_2 0) = some r := by rw [if_pos rfl] at H; exact H
          clear H
          have H := H1
          clear H1
          have H' := Aside0.mk H
          clear H
          have p445 : 0 ≤ (x5_2 : Int) := of_decide_eq_true (by first | (with_reducible assumption) | assumption)
          have q445 : x5_2 < (l0.length : Int) := of_decide_eq_true (by first | (with_reducible assumption) | assumption)
          obtain ⟨ad445, A445_1, c445_1, e445, hx445_0, hx445_1, hl445_1, hi445_1⟩ := at_T57 HR0.out x5_2 p445 q445
          cases e445
          have HR445_1 := Aside0.mk hi445_1
          have HC445_1 := Aside0.mk hl445_1
          clear hi445_1 hl445_1
          replace p445 := eq_true p445
          replace q445 := eq_true q445
          go_wp2_with (first | (go_at_call 48; (with_reducible refine (dowellaw29_name.calls k2 ((rd_T57 l0 x5_2).f0) true _ A9.out).mono ?_); rintro e w' ⟨rfl, ⟨nd, rfl⟩⟩; (try first | exact ⟨rfl, _, World.drewN_drewN _ _ _⟩ | exact ⟨rfl, _, Eq.trans (World.drewN_drewN _ _ _) (congrArg (World.drewN _) (Nat.add_assoc _ _ _))⟩)))
          go_loopg [6] k2 (fun kq v6 w' => ∃ (x6_3 : Int), v6 = .int .i64 x6_3 ∧ Aside0 (dowellaw29_checkGroups.l1 kq l0 a1 x5_2 x6_3 = some r) ∧ Aside0 (kq ≤ k2) ∧ Drawn0 w w')
          case atStart => exact ⟨(0), (by first | rfl | (simp; done) | (simp [*]; done)), H', ⟨Nat.le_refl _⟩, by repeat (first | exact Drawn0.refl _ | apply Drawn0.step)⟩
          case round =>
           clear H'
           try clear c1
           try clear c2
           try clear p2
           try clear c4
           try clear c4b0
           try clear p4
           try clear q4
           try clear hx4
           try clear c5
           try clear c6
           try clear c6b0
           try clear c6b1
           try clear c7
           try clear c7b0
           try clear c8
           try clear c8b0
           try clear c10
           try clear hx445_0
           try clear hx445_1
           try clear p2
           try clear p445
           try clear q445
           obtain ⟨x6_3, rfl, HA, HK3, ⟨m3, rfl⟩⟩ := hrel
           cases gk with
           | zero => exact absurd HA.out (by simp [dowellaw29_checkGroups.l1])
           | succ k3 =>
            have H := HA.out
            clear HA
            simp only [dowellaw29_checkGroups.l1] at H
            by_cases c11 : x6_3 < x5_2
            ·rw [if_pos c11] at H
             have c11b0 : decide (x6_3 < x5_2) = true := decide_eq_true c11
             clear c11
             by_cases c12 : 0 ≤ x6_3
             ·rw [if_pos c12] at H
              have c12b0 : decide (0 ≤ x6_3) = true := decide_eq_true c12
              clear c12
              by_cases c13 : x6_3 < (l0.length : Int)
              ·rw [if_pos c13] at H
               have c13b0 : decide (x6_3 < (l0.length : Int)) = true := decide_eq_true c13
               clear c13
               by_cases c14 : 0 ≤ x5_2
               ·rw [if_pos c14] at H
                have c14b0 : decide (0 ≤ x5_2) = true := decide_eq_true c14
                clear c14
                by_cases c15 : x5_2 < (l0.length : Int)
                ·rw [if_pos c15] at H
                 have c15b0 : decide (x5_2 < (l0.length : Int)) = true := decide_eq_true c15
                 clear c15
                 by_cases c16 : ((rd_T57 l0 x6_3).f0).toList = ((rd_T57 l0 x5_2).f0).toList
                 ·rw [if_pos c16] at H
                  have c16b0 : (((rd_T57 l0 x6_3).f0).toList == ((rd_T57 l0 x5_2).f0).toList) = true := beq_iff_eq.mpr c16
                  have c16b1 : (((rd_T57 l0 x6_3).f0).toList != ((rd_T57 l0 x5_2).f0).toList) = false := bne_eq_false_iff_eq.mpr c16
                  clear c16
                  obtain rfl := Option.some.inj H
                  have p447 : 0 ≤ (x6_3 : Int) := of_decide_eq_true (by first | (with_reducible assumption) | assumption)
                  have q447 : x6_3 < (l0.length : Int) := of_decide_eq_true (by first | (with_reducible assumption) | assumption)
                  obtain ⟨ad447, A447_1, c447_1, e447, hx447_0, hx447_1, hl447_1, hi447_1⟩ := at_T57 HR0.out x6_3 p447 q447
                  obtain rfl : ad445 = ad447 := (by injection e447)
                  have HR447_1 := Aside0.mk hi447_1
                  have HC447_1 := Aside0.mk hl447_1
                  clear hi447_1 hl447_1
                  replace p447 := eq_true p447
                  replace q447 := eq_true q447
                  have p448 : 0 ≤ (x5_2 : Int) := of_decide_eq_true (by first | (with_reducible assumption) | assumption)
                  have q448 : x5_2 < (l0.length : Int) := of_decide_eq_true (by first | (with_reducible assumption) | assumption)
                  obtain ⟨ad448, A448_1, c448_1, e448, hx448_0, hx448_1, hl448_1, hi448_1⟩ := at_T57 HR0.out x5_2 p448 q448
                  obtain rfl : ad445 = ad448 := (by injection e448)
                  have HR448_1 := Aside0.mk hi448_1
                  have HC448_1 := Aside0.mk hl448_1
                  clear hi448_1 hl448_1
                  replace p448 := eq_true p448
                  replace q448 := eq_true q448
                  go_wp2
                  repeat (go_quiet (fail); try go_wp2)
                  go_ret
                  exact ⟨by first | rfl | (simp; done) | (simp [*]; done), by repeat (first | exact Drawn0.refl _ | apply Drawn0.step)⟩
                 ·rw [if_neg c16] at H
                  have c16b0 : (((rd_T57 l0 x6_3).f0).toList == ((rd_T57 l0 x5_2).f0).toList) = false := beq_eq_false_iff_ne.mpr c16
                  have c16b1 : (((rd_T57 l0 x6_3).f0).toList != ((rd_T57 l0 x5_2).f0).toList) = true := bne_iff_ne.mpr c16
                  have H' := Aside0.mk H
                  clear H
                  have p447 : 0 ≤ (x6_3 : Int) := of_decide_eq_true (by first | (with_reducible assumption) | assumption)
                  have q447 : x6_3 < (l0.length : Int) := of_decide_eq_true (by first | (with_reducible assumption) | assumption)
                  obtain ⟨ad447, A447_1, c447_1, e447, hx447_0, hx447_1, hl447_1, hi447_1⟩ := at_T57 HR0.out x6_3 p447 q447
                  obtain rfl : ad445 = ad447 := (by injection e447)
                  have HR447_1 := Aside0.mk hi447_1
                  have HC447_1 := Aside0.mk hl447_1
                  clear hi447_1 hl447_1
                  replace p447 := eq_true p447
                  replace q447 := eq_true q447
                  have p448 : 0 ≤ (x5_2 : Int) := of_decide_eq_true (by first | (with_reducible assumption) | assumption)
                  have q448 : x5_2 < (l0.length : Int) := of_decide_eq_true (by first | (with_reducible assumption) | assumption)
                  obtain ⟨ad448, A448_1, c448_1, e448, hx448_0, hx448_1, hl448_1, hi448_1⟩ := at_T57 HR0.out x5_2 p448 q448
                  obtain rfl : ad445 = ad448 := (by injection e448)
                  have HR448_1 := Aside0.mk hi448_1
                  have HC448_1 := Aside0.mk hl448_1
                  clear hi448_1 hl448_1
                  replace p448 := eq_true p448
                  replace q448 := eq_true q448
                  go_wp2
                  repeat (go_quiet (fail); try go_wp2)
                  go_roundg k3
                  case measure => have := HJ2.out; have := HK2.out; have := HK3.out; omega
                  case rel => exact ⟨(wrap64 (x6_3 + 1)), (by first | rfl | (simp; done) | (simp [*]; done)), H', ⟨by have := HJ2.out; have := HK2.out; have := HK3.out; omega⟩, by repeat (first | exact Drawn0.refl _ | apply Drawn0.step)⟩
                ·rw [if_neg c15] at H
                 exact absurd H (by simp)
               ·rw [if_neg c14] at H
                exact absurd H (by simp)
              ·rw [if_neg c13] at H
               exact absurd H (by simp)
             ·rw [if_neg c12] at H
              exact absurd H (by simp)
            ·rw [if_neg c11] at H
             have c11b0 : decide (x6_3 < x5_2) = false := decide_eq_false c11
             clear c11
             by_cases c17 : 0 ≤ x5_2
             ·rw [if_pos c17] at H
              have c17b0 : decide (0 ≤ x5_2) = true := decide_eq_true c17
              clear c17
              by_cases c18 : x5_2 < (l0.length : Int)
              ·rw [if_pos c18] at H
               have c18b0 : decide (x5_2 < (l0.length : Int)) = true := decide_eq_true c18
               clear c18
               by_cases c19 : (((rd_T57 l0 x5_2).f1).length : Int) < 2
               ·rw [if_pos c19] at H
                have c19b0 : decide ((((rd_T57 l0 x5_2).f1).length : Int) < 2) = true := decide_eq_true c19
                have c19b1 : decide (((rd_T57 l0 x5_2).f1).length < 2) = true := decide_eq_true (by omega)
                clear c19
                obtain rfl := Option.some.inj H
                have p449 : 0 ≤ (x5_2 : Int) := of_decide_eq_true (by first | (with_reducible assumption) | assumption)
                have q449 : x5_2 < (l0.length : Int) := of_decide_eq_true (by first | (with_reducible assumption) | assumption)
                obtain ⟨ad449, A449_1, c449_1, e449, hx449_0, hx449_1, hl449_1, hi449_1⟩ := at_T57 HR0.out x5_2 p449 q449
                obtain rfl : ad445 = ad449 := (by injection e449)
                have HR449_1 := Aside0.mk hi449_1
                have HC449_1 := Aside0.mk hl449_1
                clear hi449_1 hl449_1
                replace p449 := eq_true p449
                replace q449 := eq_true q449
                go_wp2
                go_ret
                exact ⟨by first | rfl | (simp; done) | (simp [*]; done), by repeat (first | exact Drawn0.refl _ | apply Drawn0.step)⟩
               ·rw [if_neg c19] at H
                have c19b0 : decide ((((rd_T57 l0 x5_2).f1).length : Int) < 2) = false := decide_eq_false c19
                have c19b1 : decide (((rd_T57 l0 x5_2).f1).length < 2) = false := decide_eq_false (by omega)
                clear c19
                replace H := Option.bind_eq_some_iff.mp H
                obtain ⟨t451, A200, H⟩ := H
                replace H : (if t451 = 0 then (dowellaw29_checkGroups.l2 k3 l0 a1 x5_2 0) else (some t451)) = some r := H
                have A20 := Aside0.mk A200
                clear A200
                by_cases c21 : t451 = 0
                ·rw [if_pos c21] at H
                 have c21b0 : (t451 == 0) = true := beq_iff_eq.mpr c21
                 have c21b1 : (t451 != 0) = false := bne_eq_false_iff_eq.mpr c21
                 clear c21
                 have H' := Aside0.mk H
                 clear H
                 have p449 : 0 ≤ (x5_2 : Int) := of_decide_eq_true (by first | (with_reducible assumption) | assumption)
                 have q449 : x5_2 < (l0.length : Int) := of_decide_eq_true (by first | (with_reducible assumption) | assumption)
                 obtain ⟨ad449, A449_1, c449_1, e449, hx449_0, hx449_1, hl449_1, hi449_1⟩ := at_T57 HR0.out x5_2 p449 q449
                 obtain rfl : ad445 = ad449 := (by injection e449)
                 have HR449_1 := Aside0.mk hi449_1
                 have HC449_1 := Aside0.mk hl449_1
                 clear hi449_1 hl449_1
                 replace p449 := eq_true p449
                 replace q449 := eq_true q449
                 have p450 : 0 ≤ (x5_2 : Int) := of_decide_eq_true (by first | (with_reducible assumption) | assumption)
                 have q450 : x5_2 < (l0.length : Int) := of_decide_eq_true (by first | (with_reducible assumption) | assumption)
                 obtain ⟨ad450, A450_1, c450_1, e450, hx450_0, hx450_1, hl450_1, hi450_1⟩ := at_T57 HR0.out x5_2 p450 q450
                 obtain rfl : ad445 = ad450 := (by injection e450)
                 have HR450_1 := Aside0.mk hi450_1
                 have HC450_1 := Aside0.mk hl450_1
                 clear hi450_1 hl450_1
                 replace p450 := eq_true p450
                 replace q450 := eq_true q450
                 have ea_ := Option.some.inj (hx449_1.symm.trans hx450_1)
                 injection ea_ with ea_ en_ ec_
                 subst ea_
                 subst ec_
                 clear en_
                 go_wp2_with (first | (go_at_call 49; (with_reducible refine (dowellaw29_checkSet.calls k3 _ _ ((rd_T57 l0 x5_2).f1) a1 t451 _ ?side1 ?side2 A20.out).mono ?_); (case side1 => repeat (first | exact HR450_1.out | (with_reducible refine Kd.C_alloc ?_ _) | (with_reducible refine Kd.C_drewN ?_ _) | (with_reducible refine Kd.C_drew ?_))); (case side2 => exact HC450_1.out); rintro e w' ⟨rfl, ⟨nd, rfl⟩⟩; (try first | exact ⟨rfl, _, World.drewN_drewN _ _ _⟩ | exact ⟨rfl, _, Eq.trans (World.drewN_drewN _ _ _) (congrArg (World.drewN _) (Nat.add_assoc _ _ _))⟩)))
                 go_loopg [8] k3 (fun kq v8 w' => ∃ (x8_4 : Int), v8 = .int .i64 x8_4 ∧ Aside0 (dowellaw29_checkGroups.l2 kq l0 a1 x5_2 x8_4 = some r) ∧ Aside0 (kq ≤ k3) ∧ Drawn0 w w')
                 case atStart => exact ⟨(0), (by first | rfl | (simp; done) | (simp [*]; done)), H', ⟨Nat.le_refl _⟩, by repeat (first | exact Drawn0.refl _ | apply Drawn0.step)⟩
                 case round =>
                  clear H'
                  try clear c1
                  try clear c2
                  try clear p2
                  try clear c4
                  try clear c4b0
                  try clear p4
                  try clear q4
                  try clear hx4
                  try clear c5
                  try clear c6
                  try clear c6b0
                  try clear c6b1
                  try clear p6
                  try clear c7
                  try clear c7b0
                  try clear c8
                  try clear c8b0
                  try clear c10
                  try clear c11
                  try clear c11b0
                  try clear c12
                  try clear c12b0
                  try clear c13
                  try clear c13b0
                  try clear c14
                  try clear c14b0
                  try clear c15
                  try clear c15b0
                  try clear c16
                  try clear c16b0
                  try clear c16b1
                  try clear c17
                  try clear c17b0
                  try clear c18
                  try clear c18b0
                  try clear c19
                  try clear c19b0
                  try clear c19b1
                  try clear c21
                  try clear c21b0
                  try clear c21b1
                  try clear hx445_0
                  try clear hx445_1
                  try clear hx447_0
                  try clear hx447_1
                  try clear hx448_0
                  try clear hx448_1
                  try clear hx449_0
                  try clear hx449_1
                  try clear hx450_0
                  try clear hx450_1
                  try clear p2
                  try clear p4
                  try clear p445
                  try clear p447
                  try clear p448
                  try clear p449
                  try clear p450
                  try clear q4
                  try clear q445
                  try clear q447
                  try clear q448
                  try clear q449
                  try clear q450
                  obtain ⟨x8_4, rfl, HA, HK4, ⟨m4, rfl⟩⟩ := hrel
                  cases gk with
                  | zero => exact absurd HA.out (by simp [dowellaw29_checkGroups.l2])
                  | succ k4 =>
                   have H := HA.out
                   clear HA
                   simp only [dowellaw29_checkGroups.l2] at H
                   by_cases c22 : x8_4 < x5_2
                   ·rw [if_pos c22] at H
                    have c22b0 : decide (x8_4 < x5_2) = true := decide_eq_true c22
                    clear c22
                    by_cases c23 : 0 ≤ x8_4
                    ·rw [if_pos c23] at H
                     have c23b0 : decide (0 ≤ x8_4) = true := decide_eq_true c23
                     clear c23
                     by_cases c24 : x8_4 < (l0.length : Int)
                     ·rw [if_pos c24] at H
                      have c24b0 : decide (x8_4 < (l0.length : Int)) = true := decide_eq_true c24
                      clear c24
                      by_cases c25 : 0 ≤ x5_2
                      ·rw [if_pos c25] at H
                       have c25b0 : decide (0 ≤ x5_2) = true := decide_eq_true c25
                       clear c25
                       by_cases c26 : x5_2 < (l0.length : Int)
                       ·rw [if_pos c26] at H
                        have c26b0 : decide (x5_2 < (l0.length : Int)) = true := decide_eq_true c26
                        clear c26
                        replace H := Option.bind_eq_some_iff.mp H
                        obtain ⟨t454, A270, H⟩ := H
                        replace H : (if t454 = true then (some 9) else (dowellaw29_checkGroups.l2 k4 l0 a1 x5_2 (wrap64 (x8_4 + 1)))) = some r := H
                        have A27 := Aside0.mk A270
                        clear A270
                        by_cases c28 : t454 = true
                        ·subst c28
                         have H1 : (some 9) = some r := by rw [if_pos rfl] at H; exact H
                         clear H
                         have H := H1
                         clear H1
                         obtain rfl := Option.some.inj H
                         have p452 : 0 ≤ (x8_4 : Int) := of_decide_eq_true (by first | (with_reducible assumption) | assumption)
                         have q452 : x8_4 < (l0.length : Int) := of_decide_eq_true (by first | (with_reducible assumption) | assumption)
                         obtain ⟨ad452, A452_1, c452_1, e452, hx452_0, hx452_1, hl452_1, hi452_1⟩ := at_T57 HR0.out x8_4 p452 q452
                         obtain rfl : ad445 = ad452 := (by injection e452)
                         have HR452_1 := Aside0.mk hi452_1
                         have HC452_1 := Aside0.mk hl452_1
                         clear hi452_1 hl452_1
                         replace p452 := eq_true p452
                         replace q452 := eq_true q452
                         have p453 : 0 ≤ (x5_2 : Int) := of_decide_eq_true (by first | (with_reducible assumption) | assumption)
                         have q453 : x5_2 < (l0.length : Int) := of_decide_eq_true (by first | (with_reducible assumption) | assumption)
                         obtain ⟨ad453, A453_1, c453_1, e453, hx453_0, hx453_1, hl453_1, hi453_1⟩ := at_T57 HR0.out x5_2 p453 q453
                         obtain rfl : ad445 = ad453 := (by injection e453)
                         have HR453_1 := Aside0.mk hi453_1
                         have HC453_1 := Aside0.mk hl453_1
                         clear hi453_1 hl453_1
                         replace p453 := eq_true p453
                         replace q453 := eq_true q453
                         go_wp2_with (first | (go_at_call 14; (with_reducible refine (dowellaw29_same.calls k4 _ _ ((rd_T57 l0 x8_4).f1) _ _ ((rd_T57 l0 x5_2).f1) true _ ?side1 ?side2 ?side3 ?side4 A27.out).mono ?_); (case side1 => repeat (first | exact HR452_1.out | (with_reducible refine Kd.C_alloc ?_ _) | (with_reducible refine Kd.C_drewN ?_ _) | (with_reducible refine Kd.C_drew ?_))); (case side2 => exact HC452_1.out); (case side3 => repeat (first | exact HR453_1.out | (with_reducible refine Kd.C_alloc ?_ _) | (with_reducible refine Kd.C_drewN ?_ _) | (with_reducible refine Kd.C_drew ?_))); (case side4 => exact HC453_1.out); rintro e w' ⟨rfl, ⟨nd, rfl⟩⟩; (try first | exact ⟨rfl, _, World.drewN_drewN _ _ _⟩ | exact ⟨rfl, _, Eq.trans (World.drewN_drewN _ _ _) (congrArg (World.drewN _) (Nat.add_assoc _ _ _))⟩)))
                         repeat (go_quiet (first | (go_at_call 14; (with_reducible refine (dowellaw29_same.calls k4 _ _ ((rd_T57 l0 x8_4).f1) _ _ ((rd_T57 l0 x5_2).f1) true _ ?side1 ?side2 ?side3 ?side4 A27.out).mono ?_); (case side1 => repeat (first | exact HR452_1.out | (with_reducible refine Kd.C_alloc ?_ _) | (with_reducible refine Kd.C_drewN ?_ _) | (with_reducible refine Kd.C_drew ?_))); (case side2 => exact HC452_1.out); (case side3 => repeat (first | exact HR453_1.out | (with_reducible refine Kd.C_alloc ?_ _) | (with_reducible refine Kd.C_drewN ?_ _) | (with_reducible refine Kd.C_drew ?_))); (case side4 => exact HC453_1.out); rintro e w' ⟨rfl, ⟨nd, rfl⟩⟩; (try first | exact ⟨rfl, _, World.drewN_drewN _ _ _⟩ | exact ⟨rfl, _, Eq.trans (World.drewN_drewN _ _ _) (congrArg (World.drewN _) (Nat.add_assoc _ _ _))⟩))); try go_wp2_with (first | (go_at_call 14; (with_reducible refine (dowellaw29_same.calls k4 _ _ ((rd_T57 l0 x8_4).f1) _ _ ((rd_T57 l0 x5_2).f1) true _ ?side1 ?side2 ?side3 ?side4 A27.out).mono ?_); (case side1 => repeat (first | exact HR452_1.out | (with_reducible refine Kd.C_alloc ?_ _) | (with_reducible refine Kd.C_drewN ?_ _) | (with_reducible refine Kd.C_drew ?_))); (case side2 => exact HC452_1.out); (case side3 => repeat (first | exact HR453_1.out | (with_reducible refine Kd.C_alloc ?_ _) | (with_reducible refine Kd.C_drewN ?_ _) | (with_reducible refine Kd.C_drew ?_))); (case side4 => exact HC453_1.out); rintro e w' ⟨rfl, ⟨nd, rfl⟩⟩; (try first | exact ⟨rfl, _, World.drewN_drewN _ _ _⟩ | exact ⟨rfl, _, Eq.trans (World.drewN_drewN _ _ _) (congrArg (World.drewN _) (Nat.add_assoc _ _ _))⟩))))
                         go_ret
                         exact ⟨by first | rfl | (simp; done) | (simp [*]; done), by repeat (first | exact Drawn0.refl _ | apply Drawn0.step)⟩
                        ·replace c28 := Bool.eq_false_iff.mpr c28
                         subst c28
                         have H1 : (dowellaw29_checkGroups.l2 k4 l0 a1 x5_2 (wrap64 (x8_4 + 1))) = some r := by rw [if_neg (show ¬ (false = true) by decide)] at H; exact H
                         clear H
                         have H := H1
                         clear H1
                         have H' := Aside0.mk H
                         clear H
                         have p452 : 0 ≤ (x8_4 : Int) := of_decide_eq_true (by first | (with_reducible assumption) | assumption)
                         have q452 : x8_4 < (l0.length : Int) := of_decide_eq_true (by first | (with_reducible assumption) | assumption)
                         obtain ⟨ad452, A452_1, c452_1, e452, hx452_0, hx452_1, hl452_1, hi452_1⟩ := at_T57 HR0.out x8_4 p452 q452
                         obtain rfl : ad445 = ad452 := (by injection e452)
                         have HR452_1 := Aside0.mk hi452_1
                         have HC452_1 := Aside0.mk hl452_1
                         clear hi452_1 hl452_1
                         replace p452 := eq_true p452
                         replace q452 := eq_true q452
                         have p453 : 0 ≤ (x5_2 : Int) := of_decide_eq_true (by first | (with_reducible assumption) | assumption)
                         have q453 : x5_2 < (l0.length : Int) := of_decide_eq_true (by first | (with_reducible assumption) | assumption)
                         obtain ⟨ad453, A453_1, c453_1, e453, hx453_0, hx453_1, hl453_1, hi453_1⟩ := at_T57 HR0.out x5_2 p453 q453
                         obtain rfl : ad445 = ad453 := (by injection e453)
                         have HR453_1 := Aside0.mk hi453_1
                         have HC453_1 := Aside0.mk hl453_1
                         clear hi453_1 hl453_1
                         replace p453 := eq_true p453
                         replace q453 := eq_true q453
                         go_wp2_with (first | (go_at_call 14; (with_reducible refine (dowellaw29_same.calls k4 _ _ ((rd_T57 l0 x8_4).f1) _ _ ((rd_T57 l0 x5_2).f1) false _ ?side1 ?side2 ?side3 ?side4 A27.out).mono ?_); (case side1 => repeat (first | exact HR452_1.out | (with_reducible refine Kd.C_alloc ?_ _) | (with_reducible refine Kd.C_drewN ?_ _) | (with_reducible refine Kd.C_drew ?_))); (case side2 => exact HC452_1.out); (case side3 => repeat (first | exact HR453_1.out | (with_reducible refine Kd.C_alloc ?_ _) | (with_reducible refine Kd.C_drewN ?_ _) | (with_reducible refine Kd.C_drew ?_))); (case side4 => exact HC453_1.out); rintro e w' ⟨rfl, ⟨nd, rfl⟩⟩; (try first | exact ⟨rfl, _, World.drewN_drewN _ _ _⟩ | exact ⟨rfl, _, Eq.trans (World.drewN_drewN _ _ _) (congrArg (World.drewN _) (Nat.add_assoc _ _ _))⟩)))
                         repeat (go_quiet (first | (go_at_call 14; (with_reducible refine (dowellaw29_same.calls k4 _ _ ((rd_T57 l0 x8_4).f1) _ _ ((rd_T57 l0 x5_2).f1) false _ ?side1 ?side2 ?side3 ?side4 A27.out).mono ?_); (case side1 => repeat (first | exact HR452_1.out | (with_reducible refine Kd.C_alloc ?_ _) | (with_reducible refine Kd.C_drewN ?_ _) | (with_reducible refine Kd.C_drew ?_))); (case side2 => exact HC452_1.out); (case side3 => repeat (first | exact HR453_1.out | (with_reducible refine Kd.C_alloc ?_ _) | (with_reducible refine Kd.C_drewN ?_ _) | (with_reducible refine Kd.C_drew ?_))); (case side4 => exact HC453_1.out); rintro e w' ⟨rfl, ⟨nd, rfl⟩⟩; (try first | exact ⟨rfl, _, World.drewN_drewN _ _ _⟩ | exact ⟨rfl, _, Eq.trans (World.drewN_drewN _ _ _) (congrArg (World.drewN _) (Nat.add_assoc _ _ _))⟩))); try go_wp2_with (first | (go_at_call 14; (with_reducible refine (dowellaw29_same.calls k4 _ _ ((rd_T57 l0 x8_4).f1) _ _ ((rd_T57 l0 x5_2).f1) false _ ?side1 ?side2 ?side3 ?side4 A27.out).mono ?_); (case side1 => repeat (first | exact HR452_1.out | (with_reducible refine Kd.C_alloc ?_ _) | (with_reducible refine Kd.C_drewN ?_ _) | (with_reducible refine Kd.C_drew ?_))); (case side2 => exact HC452_1.out); (case side3 => repeat (first | exact HR453_1.out | (with_reducible refine Kd.C_alloc ?_ _) | (with_reducible refine Kd.C_drewN ?_ _) | (with_reducible refine Kd.C_drew ?_))); (case side4 => exact HC453_1.out); rintro e w' ⟨rfl, ⟨nd, rfl⟩⟩; (try first | exact ⟨rfl, _, World.drewN_drewN _ _ _⟩ | exact ⟨rfl, _, Eq.trans (World.drewN_drewN _ _ _) (congrArg (World.drewN _) (Nat.add_assoc _ _ _))⟩))))
                         go_roundg k4
                         case measure => have := HJ2.out; have := HK2.out; have := HK3.out; have := HK4.out; omega
                         case rel => exact ⟨(wrap64 (x8_4 + 1)), (by first | rfl | (simp; done) | (simp [*]; done)), H', ⟨by have := HJ2.out; have := HK2.out; have := HK3.out; have := HK4.out; omega⟩, by repeat (first | exact Drawn0.refl _ | apply Drawn0.step)⟩
                       ·rw [if_neg c26] at H
                        exact absurd H (by simp)
                      ·rw [if_neg c25] at H
                       exact absurd H (by simp)
                     ·rw [if_neg c24] at H
                      exact absurd H (by simp)
                    ·rw [if_neg c23] at H
                     exact absurd H (by simp)
                   ·rw [if_neg c22] at H
                    have c22b0 : decide (x8_4 < x5_2) = false := decide_eq_false c22
                    clear c22
                    have H' := Aside0.mk H
                    clear H
                    go_wp2
                    go_loopg [9] k4 (fun kq v9 w' => ∃ (x9_5 : Int), v9 = .int .i64 x9_5 ∧ Aside0 (dowellaw29_checkGroups.l3 kq l0 a1 x5_2 x9_5 = some r) ∧ Aside0 (kq ≤ k4) ∧ Drawn0 w w')
                    case atStart => exact ⟨(0), (by first | rfl | (simp; done) | (simp [*]; done)), H', ⟨Nat.le_refl _⟩, by repeat (first | exact Drawn0.refl _ | apply Drawn0.step)⟩
                    case round =>
                     clear H'
                     try clear c1
                     try clear c2
                     try clear p2
                     try clear c4
                     try clear c4b0
                     try clear p4
                     try clear q4
                     try clear hx4
                     try clear c5
                     try clear c6
                     try clear c6b0
                     try clear c6b1
                     try clear p6
                     try clear c7
                     try clear c7b0
                     try clear c8
                     try clear c8b0
                     try clear c10
                     try clear c11
                     try clear c11b0
                     try clear c12
                     try clear c12b0
                     try clear c13
                     try clear c13b0
                     try clear c14
                     try clear c14b0
                     try clear c15
                     try clear c15b0
                     try clear c16
                     try clear c16b0
                     try clear c16b1
                     try clear c17
                     try clear c17b0
                     try clear c18
                     try clear c18b0
                     try clear c19
                     try clear c19b0
                     try clear c19b1
                     try clear c21
                     try clear c21b0
                     try clear c21b1
                     try clear c22
                     try clear c22b0
                     try clear c23
                     try clear c23b0
                     try clear c24
                     try clear c24b0
                     try clear c25
                     try clear c25b0
                     try clear c26
                     try clear c26b0
                     try clear c28
                     try clear hx445_0
                     try clear hx445_1
                     try clear hx447_0
                     try clear hx447_1
                     try clear hx448_0
                     try clear hx448_1
                     try clear hx449_0
                     try clear hx449_1
                     try clear hx450_0
                     try clear hx450_1
                     try clear hx452_0
                     try clear hx452_1
                     try clear hx453_0
                     try clear hx453_1
                     try clear p2
                     try clear p4
                     try clear p445
                     try clear p447
                     try clear p448
                     try clear p449
                     try clear p450
                     try clear p452
                     try clear p453
                     try clear p6
                     try clear q4
                     try clear q445
                     try clear q447
                     try clear q448
                     try clear q449
                     try clear q450
                     try clear q452
                     try clear q453
                     obtain ⟨x9_5, rfl, HA, HK5, ⟨m5, rfl⟩⟩ := hrel
                     cases gk with
                     | zero => exact absurd HA.out (by simp [dowellaw29_checkGroups.l3])
                     | succ k5 =>
                      have H := HA.out
                      clear HA
                      simp only [dowellaw29_checkGroups.l3] at H
                      by_cases c29 : x9_5 < x5_2
                      ·rw [if_pos c29] at H
                       have c29b0 : decide (x9_5 < x5_2) = true := decide_eq_true c29
                       clear c29
                       by_cases c30 : 0 ≤ x5_2
                       ·rw [if_pos c30] at H
                        have c30b0 : decide (0 ≤ x5_2) = true := decide_eq_true c30
                        clear c30
                        by_cases c31 : x5_2 < (l0.length : Int)
                        ·rw [if_pos c31] at H
                         have c31b0 : decide (x5_2 < (l0.length : Int)) = true := decide_eq_true c31
                         clear c31
                         by_cases c32 : 0 ≤ x9_5
                         ·rw [if_pos c32] at H
                          have c32b0 : decide (0 ≤ x9_5) = true := decide_eq_true c32
                          clear c32
                          by_cases c33 : x9_5 < (l0.length : Int)
                          ·rw [if_pos c33] at H
                           have c33b0 : decide (x9_5 < (l0.length : Int)) = true := decide_eq_true c33
                           clear c33
                           replace H := Option.bind_eq_some_iff.mp H
                           obtain ⟨t457, A340, H⟩ := H
                           replace H : (if t457 = true then (dowellaw29_checkGroups.l3 k5 l0 a1 x5_2 (wrap64 (x9_5 + 1))) else ((dowellaw29_within.f k5 ((rd_T57 l0 x5_2).f1) ((rd_T57 l0 x9_5).f1)).bind fun t458 => (if t458 = true then (dowellaw29_checkGroups.l3 k5 l0 a1 x5_2 (wrap64 (x9_5 + 1))) else ((dowellaw29_within.f k5 ((rd_T57 l0 x9_5).f1) ((rd_T57 l0 x5_2).f1)).bind fun t459 => (if t459 = true then (dowellaw29_checkGroups.l3 k5 l0 a1 x5_2 (wrap64 (x9_5 + 1))) else (some 17)))))) = some r := H
                           have A34 := Aside0.mk A340
                           clear A340
                           by_cases c35 : t457 = true
                           ·subst c35
                            have H1 : (dowellaw29_checkGroups.l3 k5 l0 a1 x5_2 (wrap64 (x9_5 + 1))) = some r := by rw [if_pos rfl] at H; exact H
                            clear H
                            have H := H1
                            clear H1
                            have H' := Aside0.mk H
                            clear H
                            have p455 : 0 ≤ (x5_2 : Int) := of_decide_eq_true (by first | (with_reducible assumption) | assumption)
                            have q455 : x5_2 < (l0.length : Int) := of_decide_eq_true (by first | (with_reducible assumption) | assumption)
                            obtain ⟨ad455, A455_1, c455_1, e455, hx455_0, hx455_1, hl455_1, hi455_1⟩ := at_T57 HR0.out x5_2 p455 q455
                            obtain rfl : ad445 = ad455 := (by injection e455)
                            have HR455_1 := Aside0.mk hi455_1
                            have HC455_1 := Aside0.mk hl455_1
                            clear hi455_1 hl455_1
                            replace p455 := eq_true p455
                            replace q455 := eq_true q455
                            have p456 : 0 ≤ (x9_5 : Int) := of_decide_eq_true (by first | (with_reducible assumption) | assumption)
                            have q456 : x9_5 < (l0.length : Int) := of_decide_eq_true (by first | (with_reducible assumption) | assumption)
                            obtain ⟨ad456, A456_1, c456_1, e456, hx456_0, hx456_1, hl456_1, hi456_1⟩ := at_T57 HR0.out x9_5 p456 q456
                            obtain rfl : ad445 = ad456 := (by injection e456)
                            have HR456_1 := Aside0.mk hi456_1
                            have HC456_1 := Aside0.mk hl456_1
                            clear hi456_1 hl456_1
                            replace p456 := eq_true p456
                            replace q456 := eq_true q456
                            go_wp2_with (first | (go_at_call 50; (with_reducible refine (dowellaw29_apart.calls k5 _ _ ((rd_T57 l0 x5_2).f1) _ _ ((rd_T57 l0 x9_5).f1) true _ ?side1 ?side2 ?side3 ?side4 A34.out).mono ?_); (case side1 => repeat (first | exact HR455_1.out | (with_reducible refine Kd.C_alloc ?_ _) | (with_reducible refine Kd.C_drewN ?_ _) | (with_reducible refine Kd.C_drew ?_))); (case side2 => exact HC455_1.out); (case side3 => repeat (first | exact HR456_1.out | (with_reducible refine Kd.C_alloc ?_ _) | (with_reducible refine Kd.C_drewN ?_ _) | (with_reducible refine Kd.C_drew ?_))); (case side4 => exact HC456_1.out); rintro e w' ⟨rfl, ⟨nd, rfl⟩⟩; (try first | exact ⟨rfl, _, World.drewN_drewN _ _ _⟩ | exact ⟨rfl, _, Eq.trans (World.drewN_drewN _ _ _) (congrArg (World.drewN _) (Nat.add_assoc _ _ _))⟩)))
                            repeat (go_quiet (first | (go_at_call 50; (with_reducible refine (dowellaw29_apart.calls k5 _ _ ((rd_T57 l0 x5_2).f1) _ _ ((rd_T57 l0 x9_5).f1) true _ ?side1 ?side2 ?side3 ?side4 A34.out).mono ?_); (case side1 => repeat (first | exact HR455_1.out | (with_reducible refine Kd.C_alloc ?_ _) | (with_reducible refine Kd.C_drewN ?_ _) | (with_reducible refine Kd.C_drew ?_))); (case side2 => exact HC455_1.out); (case side3 => repeat (first | exact HR456_1.out | (with_reducible refine Kd.C_alloc ?_ _) | (with_reducible refine Kd.C_drewN ?_ _) | (with_reducible refine Kd.C_drew ?_))); (case side4 => exact HC456_1.out); rintro e w' ⟨rfl, ⟨nd, rfl⟩⟩; (try first | exact ⟨rfl, _, World.drewN_drewN _ _ _⟩ | exact ⟨rfl, _, Eq.trans (World.drewN_drewN _ _ _) (congrArg (World.drewN _) (Nat.add_assoc _ _ _))⟩))); try go_wp2_with (first | (go_at_call 50; (with_reducible refine (dowellaw29_apart.calls k5 _ _ ((rd_T57 l0 x5_2).f1) _ _ ((rd_T57 l0 x9_5).f1) true _ ?side1 ?side2 ?side3 ?side4 A34.out).mono ?_); (case side1 => repeat (first | exact HR455_1.out | (with_reducible refine Kd.C_alloc ?_ _) | (with_reducible refine Kd.C_drewN ?_ _) | (with_reducible refine Kd.C_drew ?_))); (case side2 => exact HC455_1.out); (case side3 => repeat (first | exact HR456_1.out | (with_reducible refine Kd.C_alloc ?_ _) | (with_reducible refine Kd.C_drewN ?_ _) | (with_reducible refine Kd.C_drew ?_))); (case side4 => exact HC456_1.out); rintro e w' ⟨rfl, ⟨nd, rfl⟩⟩; (try first | exact ⟨rfl, _, World.drewN_drewN _ _ _⟩ | exact ⟨rfl, _, Eq.trans (World.drewN_drewN _ _ _) (congrArg (World.drewN _) (Nat.add_assoc _ _ _))⟩))))
                            go_roundg k5
                            case measure => have := HJ2.out; have := HK2.out; have := HK3.out; have := HK4.out; have := HK5.out; omega
                            case rel => exact ⟨(wrap64 (x9_5 + 1)), (by first | rfl | (simp; done) | (simp [*]; done)), H', ⟨by have := HJ2.out; have := HK2.out; have := HK3.out; have := HK4.out; have := HK5.out; omega⟩, by repeat (first | exact Drawn0.refl _ | apply Drawn0.step)⟩
                           ·replace c35 := Bool.eq_false_iff.mpr c35
                            subst c35
                            have H1 : ((dowellaw29_within.f k5 ((rd_T57 l0 x5_2).f1) ((rd_T57 l0 x9_5).f1)).bind fun t458 => (if t458 = true then (dowellaw29_checkGroups.l3 k5 l0 a1 x5_2 (wrap64 (x9_5 + 1))) else ((dowellaw29_within.f k5 ((rd_T57 l0 x9_5).f1) ((rd_T57 l0 x5_2).f1)).bind fun t459 => (if t459 = true then (dowellaw29_checkGroups.l3 k5 l0 a1 x5_2 (wrap64 (x9_5 + 1))) else (some 17))))) = some r := by rw [if_neg (show ¬ (false = true) by decide)] at H; exact H
                            clear H
                            have H := H1
                            clear H1
                            replace H := Option.bind_eq_some_iff.mp H
                            obtain ⟨t458, A360, H⟩ := H
                            replace H : (if t458 = true then (dowellaw29_checkGroups.l3 k5 l0 a1 x5_2 (wrap64 (x9_5 + 1))) else ((dowellaw29_within.f k5 ((rd_T57 l0 x9_5).f1) ((rd_T57 l0 x5_2).f1)).bind fun t459 => (if t459 = true then (dowellaw29_checkGroups.l3 k5 l0 a1 x5_2 (wrap64 (x9_5 + 1))) else (some 17)))) = some r := H
                            have A36 := Aside0.mk A360
                            clear A360
                            by_cases c37 : t458 = true
                            ·subst c37
                             have H1 : (dowellaw29_checkGroups.l3 k5 l0 a1 x5_2 (wrap64 (x9_5 + 1))) = some r := by rw [if_pos rfl] at H; exact H
                             clear H
                             have H := H1
                             clear H1
                             have H' := Aside0.mk H
                             clear H
                             have p455 : 0 ≤ (x5_2 : Int) := of_decide_eq_true (by first | (with_reducible assumption) | assumption)
                             have q455 : x5_2 < (l0.length : Int) := of_decide_eq_true (by first | (with_reducible assumption) | assumption)
                             obtain ⟨ad455, A455_1, c455_1, e455, hx455_0, hx455_1, hl455_1, hi455_1⟩ := at_T57 HR0.out x5_2 p455 q455
                             obtain rfl : ad445 = ad455 := (by injection e455)
                             have HR455_1 := Aside0.mk hi455_1
                             have HC455_1 := Aside0.mk hl455_1
                             clear hi455_1 hl455_1
                             replace p455 := eq_true p455
                             replace q455 := eq_true q455
                             have p456 : 0 ≤ (x9_5 : Int) := of_decide_eq_true (by first | (with_reducible assumption) | assumption)
                             have q456 : x9_5 < (l0.length : Int) := of_decide_eq_true (by first | (with_reducible assumption) | assumption)
                             obtain ⟨ad456, A456_1, c456_1, e456, hx456_0, hx456_1, hl456_1, hi456_1⟩ := at_T57 HR0.out x9_5 p456 q456
                             obtain rfl : ad445 = ad456 := (by injection e456)
                             have HR456_1 := Aside0.mk hi456_1
                             have HC456_1 := Aside0.mk hl456_1
                             clear hi456_1 hl456_1
                             replace p456 := eq_true p456
                             replace q456 := eq_true q456
                             go_wp2_with (first | (go_at_call 50; (with_reducible refine (dowellaw29_apart.calls k5 _ _ ((rd_T57 l0 x5_2).f1) _ _ ((rd_T57 l0 x9_5).f1) false _ ?side1 ?side2 ?side3 ?side4 A34.out).mono ?_); (case side1 => repeat (first | exact HR455_1.out | (with_reducible refine Kd.C_alloc ?_ _) | (with_reducible refine Kd.C_drewN ?_ _) | (with_reducible refine Kd.C_drew ?_))); (case side2 => exact HC455_1.out); (case side3 => repeat (first | exact HR456_1.out | (with_reducible refine Kd.C_alloc ?_ _) | (with_reducible refine Kd.C_drewN ?_ _) | (with_reducible refine Kd.C_drew ?_))); (case side4 => exact HC456_1.out); rintro e w' ⟨rfl, ⟨nd, rfl⟩⟩; (try first | exact ⟨rfl, _, World.drewN_drewN _ _ _⟩ | exact ⟨rfl, _, Eq.trans (World.drewN_drewN _ _ _) (congrArg (World.drewN _) (Nat.add_assoc _ _ _))⟩)) | (go_at_call 51; (with_reducible refine (dowellaw29_within.calls k5 _ _ ((rd_T57 l0 x5_2).f1) _ _ ((rd_T57 l0 x9_5).f1) true _ ?side1 ?side2 ?side3 ?side4 A36.out).mono ?_); (case side1 => repeat (first | exact HR455_1.out | (with_reducible refine Kd.C_alloc ?_ _) | (with_reducible refine Kd.C_drewN ?_ _) | (with_reducible refine Kd.C_drew ?_))); (case side2 => exact HC455_1.out); (case side3 => repeat (first | exact HR456_1.out | (with_reducible refine Kd.C_alloc ?_ _) | (with_reducible refine Kd.C_drewN ?_ _) | (with_reducible refine Kd.C_drew ?_))); (case side4 => exact HC456_1.out); rintro e w' ⟨rfl, ⟨nd, rfl⟩⟩; (try first | exact ⟨rfl, _, World.drewN_drewN _ _ _⟩ | exact ⟨rfl, _, Eq.trans (World.drewN_drewN _ _ _) (congrArg (World.drewN _) (Nat.add_assoc _ _ _))⟩)))
                             repeat (go_quiet (first | (go_at_call 50; (with_reducible refine (dowellaw29_apart.calls k5 _ _ ((rd_T57 l0 x5_2).f1) _ _ ((rd_T57 l0 x9_5).f1) false _ ?side1 ?side2 ?side3 ?side4 A34.out).mono ?_); (case side1 => repeat (first | exact HR455_1.out | (with_reducible refine Kd.C_alloc ?_ _) | (with_reducible refine Kd.C_drewN ?_ _) | (with_reducible refine Kd.C_drew ?_))); (case side2 => exact HC455_1.out); (case side3 => repeat (first | exact HR456_1.out | (with_reducible refine Kd.C_alloc ?_ _) | (with_reducible refine Kd.C_drewN ?_ _) | (with_reducible refine Kd.C_drew ?_))); (case side4 => exact HC456_1.out); rintro e w' ⟨rfl, ⟨nd, rfl⟩⟩; (try first | exact ⟨rfl, _, World.drewN_drewN _ _ _⟩ | exact ⟨rfl, _, Eq.trans (World.drewN_drewN _ _ _) (congrArg (World.drewN _) (Nat.add_assoc _ _ _))⟩)) | (go_at_call 51; (with_reducible refine (dowellaw29_within.calls k5 _ _ ((rd_T57 l0 x5_2).f1) _ _ ((rd_T57 l0 x9_5).f1) true _ ?side1 ?side2 ?side3 ?side4 A36.out).mono ?_); (case side1 => repeat (first | exact HR455_1.out | (with_reducible refine Kd.C_alloc ?_ _) | (with_reducible refine Kd.C_drewN ?_ _) | (with_reducible refine Kd.C_drew ?_))); (case side2 => exact HC455_1.out); (case side3 => repeat (first | exact HR456_1.out | (with_reducible refine Kd.C_alloc ?_ _) | (with_reducible refine Kd.C_drewN ?_ _) | (with_reducible refine Kd.C_drew ?_))); (case side4 => exact HC456_1.out); rintro e w' ⟨rfl, ⟨nd, rfl⟩⟩; (try first | exact ⟨rfl, _, World.drewN_drewN _ _ _⟩ | exact ⟨rfl, _, Eq.trans (World.drewN_drewN _ _ _) (congrArg (World.drewN _) (Nat.add_assoc _ _ _))⟩))); try go_wp2_with (first | (go_at_call 50; (with_reducible refine (dowellaw29_apart.calls k5 _ _ ((rd_T57 l0 x5_2).f1) _ _ ((rd_T57 l0 x9_5).f1) false _ ?side1 ?side2 ?side3 ?side4 A34.out).mono ?_); (case side1 => repeat (first | exact HR455_1.out | (with_reducible refine Kd.C_alloc ?_ _) | (with_reducible refine Kd.C_drewN ?_ _) | (with_reducible refine Kd.C_drew ?_))); (case side2 => exact HC455_1.out); (case side3 => repeat (first | exact HR456_1.out | (with_reducible refine Kd.C_alloc ?_ _) | (with_reducible refine Kd.C_drewN ?_ _) | (with_reducible refine Kd.C_drew ?_))); (case side4 => exact HC456_1.out); rintro e w' ⟨rfl, ⟨nd, rfl⟩⟩; (try first | exact ⟨rfl, _, World.drewN_drewN _ _ _⟩ | exact ⟨rfl, _, Eq.trans (World.drewN_drewN _ _ _) (congrArg (World.drewN _) (Nat.add_assoc _ _ _))⟩)) | (go_at_call 51; (with_reducible refine (dowellaw29_within.calls k5 _ _ ((rd_T57 l0 x5_2).f1) _ _ ((rd_T57 l0 x9_5).f1) true _ ?side1 ?side2 ?side3 ?side4 A36.out).mono ?_); (case side1 => repeat (first | exact HR455_1.out | (with_reducible refine Kd.C_alloc ?_ _) | (with_reducible refine Kd.C_drewN ?_ _) | (with_reducible refine Kd.C_drew ?_))); (case side2 => exact HC455_1.out); (case side3 => repeat (first | exact HR456_1.out | (with_reducible refine Kd.C_alloc ?_ _) | (with_reducible refine Kd.C_drewN ?_ _) | (with_reducible refine Kd.C_drew ?_))); (case side4 => exact HC456_1.out); rintro e w' ⟨rfl, ⟨nd, rfl⟩⟩; (try first | exact ⟨rfl, _, World.drewN_drewN _ _ _⟩ | exact ⟨rfl, _, Eq.trans (World.drewN_drewN _ _ _) (congrArg (World.drewN _) (Nat.add_assoc _ _ _))⟩))))
                             go_roundg k5
                             case measure => have := HJ2.out; have := HK2.out; have := HK3.out; have := HK4.out; have := HK5.out; omega
                             case rel => exact ⟨(wrap64 (x9_5 + 1)), (by first | rfl | (simp; done) | (simp [*]; done)), H', ⟨by have := HJ2.out; have := HK2.out; have := HK3.out; have := HK4.out; have := HK5.out; omega⟩, by repeat (first | exact Drawn0.refl _ | apply Drawn0.step)⟩
                            ·replace c37 := Bool.eq_false_iff.mpr c37
                             subst c37
                             have H1 : ((dowellaw29_within.f k5 ((rd_T57 l0 x9_5).f1) ((rd_T57 l0 x5_2).f1)).bind fun t459 => (if t459 = true then (dowellaw29_checkGroups.l3 k5 l0 a1 x5_2 (wrap64 (x9_5 + 1))) else (some 17))) = some r := by rw [if_neg (show ¬ (false = true) by decide)] at H; exact H
                             clear H
                             have H := H1
                             clear H1
                             replace H := Option.bind_eq_some_iff.mp H
                             obtain ⟨t459, A380, H⟩ := H
                             replace H : (if t459 = true then (dowellaw29_checkGroups.l3 k5 l0 a1 x5_2 (wrap64 (x9_5 + 1))) else (some 17)) = some r := H
                             have A38 := Aside0.mk A380
                             clear A380
                             by_cases c39 : t459 = true
                             ·subst c39
                              have H1 : (dowellaw29_checkGroups.l3 k5 l0 a1 x5_2 (wrap64 (x9_5 + 1))) = some r := by rw [if_pos rfl] at H; exact H
                              clear H
                              have H := H1
                              clear H1
                              have H' := Aside0.mk H
                              clear H
                              have p455 : 0 ≤ (x5_2 : Int) := of_decide_eq_true (by first | (with_reducible assumption) | assumption)
                              have q455 : x5_2 < (l0.length : Int) := of_decide_eq_true (by first | (with_reducible assumption) | assumption)
                              obtain ⟨ad455, A455_1, c455_1, e455, hx455_0, hx455_1, hl455_1, hi455_1⟩ := at_T57 HR0.out x5_2 p455 q455
                              obtain rfl : ad445 = ad455 := (by injection e455)
                              have HR455_1 := Aside0.mk hi455_1
                              have HC455_1 := Aside0.mk hl455_1
                              clear hi455_1 hl455_1
                              replace p455 := eq_true p455
                              replace q455 := eq_true q455
                              have p456 : 0 ≤ (x9_5 : Int) := of_decide_eq_true (by first | (with_reducible assumption) | assumption)
                              have q456 : x9_5 < (l0.length : Int) := of_decide_eq_true (by first | (with_reducible assumption) | assumption)
                              obtain ⟨ad456, A456_1, c456_1, e456, hx456_0, hx456_1, hl456_1, hi456_1⟩ := at_T57 HR0.out x9_5 p456 q456
                              obtain rfl : ad445 = ad456 := (by injection e456)
                              have HR456_1 := Aside0.mk hi456_1
                              have HC456_1 := Aside0.mk hl456_1
                              clear hi456_1 hl456_1
                              replace p456 := eq_true p456
                              replace q456 := eq_true q456
                              go_wp2_with (first | (go_at_call 50; (with_reducible refine (dowellaw29_apart.calls k5 _ _ ((rd_T57 l0 x5_2).f1) _ _ ((rd_T57 l0 x9_5).f1) false _ ?side1 ?side2 ?side3 ?side4 A34.out).mono ?_); (case side1 => repeat (first | exact HR455_1.out | (with_reducible refine Kd.C_alloc ?_ _) | (with_reducible refine Kd.C_drewN ?_ _) | (with_reducible refine Kd.C_drew ?_))); (case side2 => exact HC455_1.out); (case side3 => repeat (first | exact HR456_1.out | (with_reducible refine Kd.C_alloc ?_ _) | (with_reducible refine Kd.C_drewN ?_ _) | (with_reducible refine Kd.C_drew ?_))); (case side4 => exact HC456_1.out); rintro e w' ⟨rfl, ⟨nd, rfl⟩⟩; (try first | exact ⟨rfl, _, World.drewN_drewN _ _ _⟩ | exact ⟨rfl, _, Eq.trans (World.drewN_drewN _ _ _) (congrArg (World.drewN _) (Nat.add_assoc _ _ _))⟩)) | (go_at_call 51; (with_reducible refine (dowellaw29_within.calls k5 _ _ ((rd_T57 l0 x5_2).f1) _ _ ((rd_T57 l0 x9_5).f1) false _ ?side1 ?side2 ?side3 ?side4 A36.out).mono ?_); (case side1 => repeat (first | exact HR455_1.out | (with_reducible refine Kd.C_alloc ?_ _) | (with_reducible refine Kd.C_drewN ?_ _) | (with_reducible refine Kd.C_drew ?_))); (case side2 => exact HC455_1.out); (case side3 => repeat (first | exact HR456_1.out | (with_reducible refine Kd.C_alloc ?_ _) | (with_reducible refine Kd.C_drewN ?_ _) | (with_reducible refine Kd.C_drew ?_))); (case side4 => exact HC456_1.out); rintro e w' ⟨rfl, ⟨nd, rfl⟩⟩; (try first | exact ⟨rfl, _, World.drewN_drewN _ _ _⟩ | exact ⟨rfl, _, Eq.trans (World.drewN_drewN _ _ _) (congrArg (World.drewN _) (Nat.add_assoc _ _ _))⟩)) | (go_at_call 51; (with_reducible refine (dowellaw29_within.calls k5 _ _ ((rd_T57 l0 x9_5).f1) _ _ ((rd_T57 l0 x5_2).f1) true _ ?side1 ?side2 ?side3 ?side4 A38.out).mono ?_); (case side1 => repeat (first | exact HR456_1.out | (with_reducible refine Kd.C_alloc ?_ _) | (with_reducible refine Kd.C_drewN ?_ _) | (with_reducible refine Kd.C_drew ?_))); (case side2 => exact HC456_1.out); (case side3 => repeat (first | exact HR455_1.out | (with_reducible refine Kd.C_alloc ?_ _) | (with_reducible refine Kd.C_drewN ?_ _) | (with_reducible refine Kd.C_drew ?_))); (case side4 => exact HC455_1.out); rintro e w' ⟨rfl, ⟨nd, rfl⟩⟩; (try first | exact ⟨rfl, _, World.drewN_drewN _ _ _⟩ | exact ⟨rfl, _, Eq.trans (World.drewN_drewN _ _ _) (congrArg (World.drewN _) (Nat.add_assoc _ _ _))⟩)))
                              repeat (go_quiet (first | (go_at_call 50; (with_reducible refine (dowellaw29_apart.calls k5 _ _ ((rd_T57 l0 x5_2).f1) _ _ ((rd_T57 l0 x9_5).f1) false _ ?side1 ?side2 ?side3 ?side4 A34.out).mono ?_); (case side1 => repeat (first | exact HR455_1.out | (with_reducible refine Kd.C_alloc ?_ _) | (with_reducible refine Kd.C_drewN ?_ _) | (with_reducible refine Kd.C_drew ?_))); (case side2 => exact HC455_1.out); (case side3 => repeat (first | exact HR456_1.out | (with_reducible refine Kd.C_alloc ?_ _) | (with_reducible refine Kd.C_drewN ?_ _) | (with_reducible refine Kd.C_drew ?_))); (case side4 => exact HC456_1.out); rintro e w' ⟨rfl, ⟨nd, rfl⟩⟩; (try first | exact ⟨rfl, _, World.drewN_drewN _ _ _⟩ | exact ⟨rfl, _, Eq.trans (World.drewN_drewN _ _ _) (congrArg (World.drewN _) (Nat.add_assoc _ _ _))⟩)) | (go_at_call 51; (with_reducible refine (dowellaw29_within.calls k5 _ _ ((rd_T57 l0 x5_2).f1) _ _ ((rd_T57 l0 x9_5).f1) false _ ?side1 ?side2 ?side3 ?side4 A36.out).mono ?_); (case side1 => repeat (first | exact HR455_1.out | (with_reducible refine Kd.C_alloc ?_ _) | (with_reducible refine Kd.C_drewN ?_ _) | (with_reducible refine Kd.C_drew ?_))); (case side2 => exact HC455_1.out); (case side3 => repeat (first | exact HR456_1.out | (with_reducible refine Kd.C_alloc ?_ _) | (with_reducible refine Kd.C_drewN ?_ _) | (with_reducible refine Kd.C_drew ?_))); (case side4 => exact HC456_1.out); rintro e w' ⟨rfl, ⟨nd, rfl⟩⟩; (try first | exact ⟨rfl, _, World.drewN_drewN _ _ _⟩ | exact ⟨rfl, _, Eq.trans (World.drewN_drewN _ _ _) (congrArg (World.drewN _) (Nat.add_assoc _ _ _))⟩)) | (go_at_call 51; (with_reducible refine (dowellaw29_within.calls k5 _ _ ((rd_T57 l0 x9_5).f1) _ _ ((rd_T57 l0 x5_2).f1) true _ ?side1 ?side2 ?side3 ?side4 A38.out).mono ?_); (case side1 => repeat (first | exact HR456_1.out | (with_reducible refine Kd.C_alloc ?_ _) | (with_reducible refine Kd.C_drewN ?_ _) | (with_reducible refine Kd.C_drew ?_))); (case side2 => exact HC456_1.out); (case side3 => repeat (first | exact HR455_1.out | (with_reducible refine Kd.C_alloc ?_ _) | (with_reducible refine Kd.C_drewN ?_ _) | (with_reducible refine Kd.C_drew ?_))); (case side4 => exact HC455_1.out); rintro e w' ⟨rfl, ⟨nd, rfl⟩⟩; (try first | exact ⟨rfl, _, World.drewN_drewN _ _ _⟩ | exact ⟨rfl, _, Eq.trans (World.drewN_drewN _ _ _) (congrArg (World.drewN _) (Nat.add_assoc _ _ _))⟩))); try go_wp2_with (first | (go_at_call 50; (with_reducible refine (dowellaw29_apart.calls k5 _ _ ((rd_T57 l0 x5_2).f1) _ _ ((rd_T57 l0 x9_5).f1) false _ ?side1 ?side2 ?side3 ?side4 A34.out).mono ?_); (case side1 => repeat (first | exact HR455_1.out | (with_reducible refine Kd.C_alloc ?_ _) | (with_reducible refine Kd.C_drewN ?_ _) | (with_reducible refine Kd.C_drew ?_))); (case side2 => exact HC455_1.out); (case side3 => repeat (first | exact HR456_1.out | (with_reducible refine Kd.C_alloc ?_ _) | (with_reducible refine Kd.C_drewN ?_ _) | (with_reducible refine Kd.C_drew ?_))); (case side4 => exact HC456_1.out); rintro e w' ⟨rfl, ⟨nd, rfl⟩⟩; (try first | exact ⟨rfl, _, World.drewN_drewN _ _ _⟩ | exact ⟨rfl, _, Eq.trans (World.drewN_drewN _ _ _) (congrArg (World.drewN _) (Nat.add_assoc _ _ _))⟩)) | (go_at_call 51; (with_reducible refine (dowellaw29_within.calls k5 _ _ ((rd_T57 l0 x5_2).f1) _ _ ((rd_T57 l0 x9_5).f1) false _ ?side1 ?side2 ?side3 ?side4 A36.out).mono ?_); (case side1 => repeat (first | exact HR455_1.out | (with_reducible refine Kd.C_alloc ?_ _) | (with_reducible refine Kd.C_drewN ?_ _) | (with_reducible refine Kd.C_drew ?_))); (case side2 => exact HC455_1.out); (case side3 => repeat (first | exact HR456_1.out | (with_reducible refine Kd.C_alloc ?_ _) | (with_reducible refine Kd.C_drewN ?_ _) | (with_reducible refine Kd.C_drew ?_))); (case side4 => exact HC456_1.out); rintro e w' ⟨rfl, ⟨nd, rfl⟩⟩; (try first | exact ⟨rfl, _, World.drewN_drewN _ _ _⟩ | exact ⟨rfl, _, Eq.trans (World.drewN_drewN _ _ _) (congrArg (World.drewN _) (Nat.add_assoc _ _ _))⟩)) | (go_at_call 51; (with_reducible refine (dowellaw29_within.calls k5 _ _ ((rd_T57 l0 x9_5).f1) _ _ ((rd_T57 l0 x5_2).f1) true _ ?side1 ?side2 ?side3 ?side4 A38.out).mono ?_); (case side1 => repeat (first | exact HR456_1.out | (with_reducible refine Kd.C_alloc ?_ _) | (with_reducible refine Kd.C_drewN ?_ _) | (with_reducible refine Kd.C_drew ?_))); (case side2 => exact HC456_1.out); (case side3 => repeat (first | exact HR455_1.out | (with_reducible refine Kd.C_alloc ?_ _) | (with_reducible refine Kd.C_drewN ?_ _) | (with_reducible refine Kd.C_drew ?_))); (case side4 => exact HC455_1.out); rintro e w' ⟨rfl, ⟨nd, rfl⟩⟩; (try first | exact ⟨rfl, _, World.drewN_drewN _ _ _⟩ | exact ⟨rfl, _, Eq.trans (World.drewN_drewN _ _ _) (congrArg (World.drewN _) (Nat.add_assoc _ _ _))⟩))))
                              go_roundg k5
                              case measure => have := HJ2.out; have := HK2.out; have := HK3.out; have := HK4.out; have := HK5.out; omega
                              case rel => exact ⟨(wrap64 (x9_5 + 1)), (by first | rfl | (simp; done) | (simp [*]; done)), H', ⟨by have := HJ2.out; have := HK2.out; have := HK3.out; have := HK4.out; have := HK5.out; omega⟩, by repeat (first | exact Drawn0.refl _ | apply Drawn0.step)⟩
                             ·replace c39 := Bool.eq_false_iff.mpr c39
                              subst c39
                              have H1 : (some 17) = some r := by rw [if_neg (show ¬ (false = true) by decide)] at H; exact H
                              clear H
                              have H := H1
                              clear H1
                              obtain rfl := Option.some.inj H
                              have p455 : 0 ≤ (x5_2 : Int) := of_decide_eq_true (by first | (with_reducible assumption) | assumption)
                              have q455 : x5_2 < (l0.length : Int) := of_decide_eq_true (by first | (with_reducible assumption) | assumption)
                              obtain ⟨ad455, A455_1, c455_1, e455, hx455_0, hx455_1, hl455_1, hi455_1⟩ := at_T57 HR0.out x5_2 p455 q455
                              obtain rfl : ad445 = ad455 := (by injection e455)
                              have HR455_1 := Aside0.mk hi455_1
                              have HC455_1 := Aside0.mk hl455_1
                              clear hi455_1 hl455_1
                              replace p455 := eq_true p455
                              replace q455 := eq_true q455
                              have p456 : 0 ≤ (x9_5 : Int) := of_decide_eq_true (by first | (with_reducible assumption) | assumption)
                              have q456 : x9_5 < (l0.length : Int) := of_decide_eq_true (by first | (with_reducible assumption) | assumption)
                              obtain ⟨ad456, A456_1, c456_1, e456, hx456_0, hx456_1, hl456_1, hi456_1⟩ := at_T57 HR0.out x9_5 p456 q456
                              obtain rfl : ad445 = ad456 := (by injection e456)
                              have HR456_1 := Aside0.mk hi456_1
                              have HC456_1 := Aside0.mk hl456_1
                              clear hi456_1 hl456_1
                              replace p456 := eq_true p456
                              replace q456 := eq_true q456
                              go_wp2_with (first | (go_at_call 50; (with_reducible refine (dowellaw29_apart.calls k5 _ _ ((rd_T57 l0 x5_2).f1) _ _ ((rd_T57 l0 x9_5).f1) false _ ?side1 ?side2 ?side3 ?side4 A34.out).mono ?_); (case side1 => repeat (first | exact HR455_1.out | (with_reducible refine Kd.C_alloc ?_ _) | (with_reducible refine Kd.C_drewN ?_ _) | (with_reducible refine Kd.C_drew ?_))); (case side2 => exact HC455_1.out); (case side3 => repeat (first | exact HR456_1.out | (with_reducible refine Kd.C_alloc ?_ _) | (with_reducible refine Kd.C_drewN ?_ _) | (with_reducible refine Kd.C_drew ?_))); (case side4 => exact HC456_1.out); rintro e w' ⟨rfl, ⟨nd, rfl⟩⟩; (try first | exact ⟨rfl, _, World.drewN_drewN _ _ _⟩ | exact ⟨rfl, _, Eq.trans (World.drewN_drewN _ _ _) (congrArg (World.drewN _) (Nat.add_assoc _ _ _))⟩)) | (go_at_call 51; (with_reducible refine (dowellaw29_within.calls k5 _ _ ((rd_T57 l0 x5_2).f1) _ _ ((rd_T57 l0 x9_5).f1) false _ ?side1 ?side2 ?side3 ?side4 A36.out).mono ?_); (case side1 => repeat (first | exact HR455_1.out | (with_reducible refine Kd.C_alloc ?_ _) | (with_reducible refine Kd.C_drewN ?_ _) | (with_reducible refine Kd.C_drew ?_))); (case side2 => exact HC455_1.out); (case side3 => repeat (first | exact HR456_1.out | (with_reducible refine Kd.C_alloc ?_ _) | (with_reducible refine Kd.C_drewN ?_ _) | (with_reducible refine Kd.C_drew ?_))); (case side4 => exact HC456_1.out); rintro e w' ⟨rfl, ⟨nd, rfl⟩⟩; (try first | exact ⟨rfl, _, World.drewN_drewN _ _ _⟩ | exact ⟨rfl, _, Eq.trans (World.drewN_drewN _ _ _) (congrArg (World.drewN _) (Nat.add_assoc _ _ _))⟩)) | (go_at_call 51; (with_reducible refine (dowellaw29_within.calls k5 _ _ ((rd_T57 l0 x9_5).f1) _ _ ((rd_T57 l0 x5_2).f1) false _ ?side1 ?side2 ?side3 ?side4 A38.out).mono ?_); (case side1 => repeat (first | exact HR456_1.out | (with_reducible refine Kd.C_alloc ?_ _) | (with_reducible refine Kd.C_drewN ?_ _) | (with_reducible refine Kd.C_drew ?_))); (case side2 => exact HC456_1.out); (case side3 => repeat (first | exact HR455_1.out | (with_reducible refine Kd.C_alloc ?_ _) | (with_reducible refine Kd.C_drewN ?_ _) | (with_reducible refine Kd.C_drew ?_))); (case side4 => exact HC455_1.out); rintro e w' ⟨rfl, ⟨nd, rfl⟩⟩; (try first | exact ⟨rfl, _, World.drewN_drewN _ _ _⟩ | exact ⟨rfl, _, Eq.trans (World.drewN_drewN _ _ _) (congrArg (World.drewN _) (Nat.add_assoc _ _ _))⟩)))
                              repeat (go_quiet (first | (go_at_call 50; (with_reducible refine (dowellaw29_apart.calls k5 _ _ ((rd_T57 l0 x5_2).f1) _ _ ((rd_T57 l0 x9_5).f1) false _ ?side1 ?side2 ?side3 ?side4 A34.out).mono ?_); (case side1 => repeat (first | exact HR455_1.out | (with_reducible refine Kd.C_alloc ?_ _) | (with_reducible refine Kd.C_drewN ?_ _) | (with_reducible refine Kd.C_drew ?_))); (case side2 => exact HC455_1.out); (case side3 => repeat (first | exact HR456_1.out | (with_reducible refine Kd.C_alloc ?_ _) | (with_reducible refine Kd.C_drewN ?_ _) | (with_reducible refine Kd.C_drew ?_))); (case side4 => exact HC456_1.out); rintro e w' ⟨rfl, ⟨nd, rfl⟩⟩; (try first | exact ⟨rfl, _, World.drewN_drewN _ _ _⟩ | exact ⟨rfl, _, Eq.trans (World.drewN_drewN _ _ _) (congrArg (World.drewN _) (Nat.add_assoc _ _ _))⟩)) | (go_at_call 51; (with_reducible refine (dowellaw29_within.calls k5 _ _ ((rd_T57 l0 x5_2).f1) _ _ ((rd_T57 l0 x9_5).f1) false _ ?side1 ?side2 ?side3 ?side4 A36.out).mono ?_); (case side1 => repeat (first | exact HR455_1.out | (with_reducible refine Kd.C_alloc ?_ _) | (with_reducible refine Kd.C_drewN ?_ _) | (with_reducible refine Kd.C_drew ?_))); (case side2 => exact HC455_1.out); (case side3 => repeat (first | exact HR456_1.out | (with_reducible refine Kd.C_alloc ?_ _) | (with_reducible refine Kd.C_drewN ?_ _) | (with_reducible refine Kd.C_drew ?_))); (case side4 => exact HC456_1.out); rintro e w' ⟨rfl, ⟨nd, rfl⟩⟩; (try first | exact ⟨rfl, _, World.drewN_drewN _ _ _⟩ | exact ⟨rfl, _, Eq.trans (World.drewN_drewN _ _ _) (congrArg (World.drewN _) (Nat.add_assoc _ _ _))⟩)) | (go_at_call 51; (with_reducible refine (dowellaw29_within.calls k5 _ _ ((rd_T57 l0 x9_5).f1) _ _ ((rd_T57 l0 x5_2).f1) false _ ?side1 ?side2 ?side3 ?side4 A38.out).mono ?_); (case side1 => repeat (first | exact HR456_1.out | (with_reducible refine Kd.C_alloc ?_ _) | (with_reducible refine Kd.C_drewN ?_ _) | (with_reducible refine Kd.C_drew ?_))); (case side2 => exact HC456_1.out); (case side3 => repeat (first | exact HR455_1.out | (with_reducible refine Kd.C_alloc ?_ _) | (with_reducible refine Kd.C_drewN ?_ _) | (with_reducible refine Kd.C_drew ?_))); (case side4 => exact HC455_1.out); rintro e w' ⟨rfl, ⟨nd, rfl⟩⟩; (try first | exact ⟨rfl, _, World.drewN_drewN _ _ _⟩ | exact ⟨rfl, _, Eq.trans (World.drewN_drewN _ _ _) (congrArg (World.drewN _) (Nat.add_assoc _ _ _))⟩))); try go_wp2_with (first | (go_at_call 50; (with_reducible refine (dowellaw29_apart.calls k5 _ _ ((rd_T57 l0 x5_2).f1) _ _ ((rd_T57 l0 x9_5).f1) false _ ?side1 ?side2 ?side3 ?side4 A34.out).mono ?_); (case side1 => repeat (first | exact HR455_1.out | (with_reducible refine Kd.C_alloc ?_ _) | (with_reducible refine Kd.C_drewN ?_ _) | (with_reducible refine Kd.C_drew ?_))); (case side2 => exact HC455_1.out); (case side3 => repeat (first | exact HR456_1.out | (with_reducible refine Kd.C_alloc ?_ _) | (with_reducible refine Kd.C_drewN ?_ _) | (with_reducible refine Kd.C_drew ?_))); (case side4 => exact HC456_1.out); rintro e w' ⟨rfl, ⟨nd, rfl⟩⟩; (try first | exact ⟨rfl, _, World.drewN_drewN _ _ _⟩ | exact ⟨rfl, _, Eq.trans (World.drewN_drewN _ _ _) (congrArg (World.drewN _) (Nat.add_assoc _ _ _))⟩)) | (go_at_call 51; (with_reducible refine (dowellaw29_within.calls k5 _ _ ((rd_T57 l0 x5_2).f1) _ _ ((rd_T57 l0 x9_5).f1) false _ ?side1 ?side2 ?side3 ?side4 A36.out).mono ?_); (case side1 => repeat (first | exact HR455_1.out | (with_reducible refine Kd.C_alloc ?_ _) | (with_reducible refine Kd.C_drewN ?_ _) | (with_reducible refine Kd.C_drew ?_))); (case side2 => exact HC455_1.out); (case side3 => repeat (first | exact HR456_1.out | (with_reducible refine Kd.C_alloc ?_ _) | (with_reducible refine Kd.C_drewN ?_ _) | (with_reducible refine Kd.C_drew ?_))); (case side4 => exact HC456_1.out); rintro e w' ⟨rfl, ⟨nd, rfl⟩⟩; (try first | exact ⟨rfl, _, World.drewN_drewN _ _ _⟩ | exact ⟨rfl, _, Eq.trans (World.drewN_drewN _ _ _) (congrArg (World.drewN _) (Nat.add_assoc _ _ _))⟩)) | (go_at_call 51; (with_reducible refine (dowellaw29_within.calls k5 _ _ ((rd_T57 l0 x9_5).f1) _ _ ((rd_T57 l0 x5_2).f1) false _ ?side1 ?side2 ?side3 ?side4 A38.out).mono ?_); (case side1 => repeat (first | exact HR456_1.out | (with_reducible refine Kd.C_alloc ?_ _) | (with_reducible refine Kd.C_drewN ?_ _) | (with_reducible refine Kd.C_drew ?_))); (case side2 => exact HC456_1.out); (case side3 => repeat (first | exact HR455_1.out | (with_reducible refine Kd.C_alloc ?_ _) | (with_reducible refine Kd.C_drewN ?_ _) | (with_reducible refine Kd.C_drew ?_))); (case side4 => exact HC455_1.out); rintro e w' ⟨rfl, ⟨nd, rfl⟩⟩; (try first | exact ⟨rfl, _, World.drewN_drewN _ _ _⟩ | exact ⟨rfl, _, Eq.trans (World.drewN_drewN _ _ _) (congrArg (World.drewN _) (Nat.add_assoc _ _ _))⟩))))
                              go_ret
                              exact ⟨by first | rfl | (simp; done) | (simp [*]; done), by repeat (first | exact Drawn0.refl _ | apply Drawn0.step)⟩
                          ·rw [if_neg c33] at H
                           exact absurd H (by simp)
                         ·rw [if_neg c32] at H
                          exact absurd H (by simp)
                        ·rw [if_neg c31] at H
                         exact absurd H (by simp)
                       ·rw [if_neg c30] at H
                        exact absurd H (by simp)
                      ·rw [if_neg c29] at H
                       have c29b0 : decide (x9_5 < x5_2) = false := decide_eq_false c29
                       clear c29
                       have H' := Aside0.mk H
                       clear H
                       go_wp2
                       go_roundg k5
                       case measure => have := HJ2.out; have := HK2.out; have := HK3.out; have := HK4.out; have := HK5.out; omega
                       case rel => exact ⟨(wrap64 (x5_2 + 1)), (by first | rfl | (simp; done) | (simp [*]; done)), H', ⟨by have := HJ2.out; have := HK2.out; have := HK3.out; have := HK4.out; have := HK5.out; omega⟩, by repeat (first | exact Drawn0.refl _ | apply Drawn0.step)⟩
                ·rw [if_neg c21] at H
                 have c21b0 : (t451 == 0) = false := beq_eq_false_iff_ne.mpr c21
                 have c21b1 : (t451 != 0) = true := bne_iff_ne.mpr c21
                 obtain rfl := Option.some.inj H
                 have p449 : 0 ≤ (x5_2 : Int) := of_decide_eq_true (by first | (with_reducible assumption) | assumption)
                 have q449 : x5_2 < (l0.length : Int) := of_decide_eq_true (by first | (with_reducible assumption) | assumption)
                 obtain ⟨ad449, A449_1, c449_1, e449, hx449_0, hx449_1, hl449_1, hi449_1⟩ := at_T57 HR0.out x5_2 p449 q449
                 obtain rfl : ad445 = ad449 := (by injection e449)
                 have HR449_1 := Aside0.mk hi449_1
                 have HC449_1 := Aside0.mk hl449_1
                 clear hi449_1 hl449_1
                 replace p449 := eq_true p449
                 replace q449 := eq_true q449
                 have p450 : 0 ≤ (x5_2 : Int) := of_decide_eq_true (by first | (with_reducible assumption) | assumption)
                 have q450 : x5_2 < (l0.length : Int) := of_decide_eq_true (by first | (with_reducible assumption) | assumption)
                 obtain ⟨ad450, A450_1, c450_1, e450, hx450_0, hx450_1, hl450_1, hi450_1⟩ := at_T57 HR0.out x5_2 p450 q450
                 obtain rfl : ad445 = ad450 := (by injection e450)
                 have HR450_1 := Aside0.mk hi450_1
                 have HC450_1 := Aside0.mk hl450_1
                 clear hi450_1 hl450_1
                 replace p450 := eq_true p450
                 replace q450 := eq_true q450
                 have ea_ := Option.some.inj (hx449_1.symm.trans hx450_1)
                 injection ea_ with ea_ en_ ec_
                 subst ea_
                 subst ec_
                 clear en_
                 go_wp2_with (first | (go_at_call 49; (with_reducible refine (dowellaw29_checkSet.calls k3 _ _ ((rd_T57 l0 x5_2).f1) a1 t451 _ ?side1 ?side2 A20.out).mono ?_); (case side1 => repeat (first | exact HR450_1.out | (with_reducible refine Kd.C_alloc ?_ _) | (with_reducible refine Kd.C_drewN ?_ _) | (with_reducible refine Kd.C_drew ?_))); (case side2 => exact HC450_1.out); rintro e w' ⟨rfl, ⟨nd, rfl⟩⟩; (try first | exact ⟨rfl, _, World.drewN_drewN _ _ _⟩ | exact ⟨rfl, _, Eq.trans (World.drewN_drewN _ _ _) (congrArg (World.drewN _) (Nat.add_assoc _ _ _))⟩)))
                 go_ret
                 exact ⟨by first | rfl | (simp; done) | (simp [*]; done), by repeat (first | exact Drawn0.refl _ | apply Drawn0.step)⟩
              ·rw [if_neg c18] at H
               exact absurd H (by simp)
             ·rw [if_neg c17] at H
              exact absurd H (by simp)
         ·replace c10 := Bool.eq_false_iff.mpr c10
          subst c10
          have H1 : (some 11) = some r := by rw [if_neg (show ¬ (false = true) by decide)] at H; exact H
          clear H
          have H := H1
          clear H1
          obtain rfl := Option.some.inj H
          have p445 : 0 ≤ (x5_2 : Int) := of_decide_eq_true (by first | (with_reducible assumption) | assumption)
          have q445 : x5_2 < (l0.length : Int) := of_decide_eq_true (by first | (with_reducible assumption) | assumption)
          obtain ⟨ad445, A445_1, c445_1, e445, hx445_0, hx445_1, hl445_1, hi445_1⟩ := at_T57 HR0.out x5_2 p445 q445
          cases e445
          have HR445_1 := Aside0.mk hi445_1
          have HC445_1 := Aside0.mk hl445_1
          clear hi445_1 hl445_1
          replace p445 := eq_true p445
          replace q445 := eq_true q445
          go_wp2_with (first | (go_at_call 48; (with_reducible refine (dowellaw29_name.calls k2 ((rd_T57 l0 x5_2).f0) false _ A9.out).mono ?_); rintro e w' ⟨rfl, ⟨nd, rfl⟩⟩; (try first | exact ⟨rfl, _, World.drewN_drewN _ _ _⟩ | exact ⟨rfl, _, Eq.trans (World.drewN_drewN _ _ _) (congrArg (World.drewN _) (Nat.add_assoc _ _ _))⟩)))
          go_ret
          exact ⟨by first | rfl | (simp; done) | (simp [*]; done), by repeat (first | exact Drawn0.refl _ | apply Drawn0.step)⟩
        ·rw [if_neg c8] at H
         exact absurd H (by simp)
       ·rw [if_neg c7] at H
        have c7b0 : decide (x5_2 < (l0.length : Int)) = false := decide_eq_false c7
        clear c7
        obtain rfl := Option.some.inj H
        go_wp2
        go_ret
        exact ⟨by first | rfl | (simp; done) | (simp [*]; done), by repeat (first | exact Drawn0.refl _ | apply Drawn0.step)⟩
end
end Go.Proofs.YtbghfbhlbfcloaaDoor.PL
namespace Go.Proofs.YtbghfbhlbfcloaaDoor.PL
section
open Go.RowKit Go.Proofs.YtbghfbhlbfcloaaDoorW.PrintWords Go.Proofs.YtbghfbhlbfcloaaDoorW.PrintLast Go.Proofs.YtbghfbhlbfcloaaDoorW.PrintMore
attribute [local go_sem] max2_int min2_int max_two min_two max_three min_three max_four min_four   -- for this text's walks alone
set_option linter.unusedVariables false
set_option linter.unusedSimpArgs false
/-! ### dowellaw29_few: function 23 -/
mutual
def dowellaw29_few.l0 : Nat → List (S57) → Int → Option (Bool)
 | 0, _, _ => none
 | k + 1, x0, x3 => if x3 < (x0.length : Int) then (dowellaw29_few.j1 k x0 x3 (decide (x3 < 9))) else (dowellaw29_few.j1 k x0 x3 false)
def dowellaw29_few.j1 : Nat → List (S57) → Int → Bool → Option (Bool)
 | 0, _, _, _ => none
 | k + 1, x0, x3, x11 => if x11 = true then (if 0 ≤ x3 then (if x3 < (x0.length : Int) then (if (((rd_T57 x0 x3).f1).length : Int) > 10 then (some false) else (if (((rd_T57 x0 x3).f0).size : Int) > 50 then (some false) else (dowellaw29_few.l0 k x0 (wrap64 (x3 + 1))))) else (none)) else (none)) else (some (decide ((x0.length : Int) ≤ 8)))
end
def dowellaw29_few.f (k : Nat) (l0 : List (S57)) : Option (Bool) := dowellaw29_few.l0 k l0 0
theorem dowellaw29_few.mono_l : ∀ k, (∀ y0 y1, LeO (dowellaw29_few.l0 k y0 y1) (dowellaw29_few.l0 (k + 1) y0 y1)) ∧ (∀ y0 y1 y2, LeO (dowellaw29_few.j1 k y0 y1 y2) (dowellaw29_few.j1 (k + 1) y0 y1 y2))
 | 0 => ⟨fun _ _ r h => by simp [dowellaw29_few.l0] at h, fun _ _ _ r h => by simp [dowellaw29_few.j1] at h⟩
 | k + 1 => by
  obtain ⟨ih0, ih1⟩ := dowellaw29_few.mono_l k
  refine ⟨?_, ?_⟩
  ·intro y0 y1
   unfold dowellaw29_few.l0
   repeat' first
   | (with_reducible exact ih0 _ _)
   | (with_reducible exact ih1 _ _ _)
   | (with_reducible exact LeO.refl _)
   | (with_reducible exact LeO.none _)
   | (with_reducible refine LeO.ite ?_ ?_)
   | (with_reducible refine LeO.bind ?_ (fun _ => ?_))
   | exact ih0 _ _
   | exact ih1 _ _ _
   | exact LeO.none _
   | refine LeO.ite ?_ ?_
   | refine LeO.bind ?_ (fun _ => ?_)
  ·intro y0 y1 y2
   unfold dowellaw29_few.j1
   repeat' first
   | (with_reducible exact ih0 _ _)
   | (with_reducible exact ih1 _ _ _)
   | (with_reducible exact LeO.refl _)
   | (with_reducible exact LeO.none _)
   | (with_reducible refine LeO.ite ?_ ?_)
   | (with_reducible refine LeO.bind ?_ (fun _ => ?_))
   | exact ih0 _ _
   | exact ih1 _ _ _
   | exact LeO.none _
   | refine LeO.ite ?_ ?_
   | refine LeO.bind ?_ (fun _ => ?_)
theorem dowellaw29_few.mono : ∀ a0 k, LeO (dowellaw29_few.f k a0) (dowellaw29_few.f (k + 1) a0) := by
 intro a0 k
 obtain ⟨ih0, ih1⟩ := dowellaw29_few.mono_l k
 unfold dowellaw29_few.f
 repeat' first
   | (with_reducible exact ih0 _ _)
   | (with_reducible exact ih1 _ _ _)
   | (with_reducible exact LeO.refl _)
   | (with_reducible exact LeO.none _)
   | (with_reducible refine LeO.ite ?_ ?_)
   | (with_reducible refine LeO.bind ?_ (fun _ => ?_))
   | exact ih0 _ _
   | exact ih1 _ _ _
   | exact LeO.none _
   | refine LeO.ite ?_ ?_
   | refine LeO.bind ?_ (fun _ => ?_)
set_option maxHeartbeats 8000000 in
set_option maxRecDepth 100000 in
theorem dowellaw29_few.calls (k : Nat) (A0 : Option Addr) (c0 : Nat) (l0 : List (S57)) (r : Bool) (w : World) (hr0 : Kd.C k57 w A0 l0.length l0) (hc0 : l0.length ≤ c0) (h : dowellaw29_few.f k l0 = some r) :
  Calls Tryd.prog 23 #[.slice A0 l0.length c0] w fun e w' => e = .returned (.bool r) ∧ Drawn0 w w' := by
 have HR0 := Aside0.mk hr0
 have HC0 := Aside0.mk hc0
 clear hr0 hc0
 have H : (dowellaw29_few.l0 k l0 0) = some r := h
 clear h
 have H' := Aside0.mk H
 clear H
 go_enter Tryd.func23, Tryd.ntmps23
 go_wp2
 go_loopg [3] k (fun kq v3 w' => ∃ (x3_1 : Int), v3 = .int .i64 x3_1 ∧ Aside0 (dowellaw29_few.l0 kq l0 x3_1 = some r) ∧ Aside0 (kq ≤ k) ∧ Drawn0 w w')
 case atStart => exact ⟨(0), (by first | rfl | (simp; done) | (simp [*]; done)), H', ⟨Nat.le_refl _⟩, by repeat (first | exact Drawn0.refl _ | apply Drawn0.step)⟩
 case round =>
  clear H'
  obtain ⟨x3_1, rfl, HA, HK1, ⟨m1, rfl⟩⟩ := hrel
  cases gk with
  | zero => exact absurd HA.out (by simp [dowellaw29_few.l0])
  | succ k1 =>
   have H := HA.out
   clear HA
   simp only [dowellaw29_few.l0] at H
   have HC2 := Aside0.mk H
   clear H
   go_upto_region 2 with (fail)
   go_cut [11] (fun v11 wc => ∃ (kq : Nat) (x11_1 : Bool), v11 = .bool x11_1 ∧ Aside0 (dowellaw29_few.j1 kq l0 x3_1 x11_1 = some r) ∧ Aside0 (kq ≤ k1) ∧ Drawn0 w wc)
   case first =>
    have H := HC2.out
    clear HC2
    by_cases c3 : x3_1 < (l0.length : Int)
    ·rw [if_pos c3] at H
     have c3b0 : decide (x3_1 < (l0.length : Int)) = true := decide_eq_true c3
     clear c3
     (first | rw [c3b0] | (simp only [i64_w, i32_w]; rw [c3b0]) | skip)
     have H' := Aside0.mk H
     clear H
     go_wp2
     go_meet
     case rel => exact ⟨_, (decide (x3_1 < 9)), (by first | rfl | (simp; done) | (simp [*]; done)), H', ⟨by have := HK1.out; first | omega | exact Nat.le_refl _⟩, by repeat (first | exact Drawn0.refl _ | apply Drawn0.step)⟩
    ·rw [if_neg c3] at H
     have c3b0 : decide (x3_1 < (l0.length : Int)) = false := decide_eq_false c3
     clear c3
     (first | rw [c3b0] | (simp only [i64_w, i32_w]; rw [c3b0]) | skip)
     have H' := Aside0.mk H
     clear H
     go_wp2
     go_meet
     case rel => exact ⟨_, (false), (by first | rfl | (simp; done) | (simp [*]; done)), H', ⟨by have := HK1.out; first | omega | exact Nat.le_refl _⟩, by repeat (first | exact Drawn0.refl _ | apply Drawn0.step)⟩
   case rest =>
    clear HC2
    try clear c2
    try clear p2
    try clear c3
    try clear c3b0
    obtain ⟨kq, x11_1, rfl, HA, HJ1, ⟨mc1, rfl⟩⟩ := hcut
    cases kq with
    | zero => exact absurd HA.out (by simp [dowellaw29_few.j1])
    | succ kj1 =>
     have H := HA.out
     clear HA
     simp only [dowellaw29_few.j1] at H
     by_cases c4 : x11_1 = true
     ·subst c4
      have H1 : (if 0 ≤ x3_1 then (if x3_1 < (l0.length : Int) then (if (((rd_T57 l0 x3_1).f1).length : Int) > 10 then (some false) else (if (((rd_T57 l0 x3_1).f0).size : Int) > 50 then (some false) else (dowellaw29_few.l0 kj1 l0 (wrap64 (x3_1 + 1))))) else (none)) else (none)) = some r := by rw [if_pos rfl] at H; exact H
      clear H
      have H := H1
      clear H1
      by_cases c5 : 0 ≤ x3_1
      ·rw [if_pos c5] at H
       have c5b0 : decide (0 ≤ x3_1) = true := decide_eq_true c5
       clear c5
       by_cases c6 : x3_1 < (l0.length : Int)
       ·rw [if_pos c6] at H
        have c6b0 : decide (x3_1 < (l0.length : Int)) = true := decide_eq_true c6
        clear c6
        by_cases c7 : (((rd_T57 l0 x3_1).f1).length : Int) > 10
        ·rw [if_pos c7] at H
         have c7b0 : decide (10 < (((rd_T57 l0 x3_1).f1).length : Int)) = true := decide_eq_true c7
         have c7b1 : decide (10 < ((rd_T57 l0 x3_1).f1).length) = true := decide_eq_true (by omega)
         clear c7
         obtain rfl := Option.some.inj H
         have p420 : 0 ≤ (x3_1 : Int) := of_decide_eq_true (by first | (with_reducible assumption) | assumption)
         have q420 : x3_1 < (l0.length : Int) := of_decide_eq_true (by first | (with_reducible assumption) | assumption)
         obtain ⟨ad420, A420_1, c420_1, e420, hx420_0, hx420_1, hl420_1, hi420_1⟩ := at_T57 HR0.out x3_1 p420 q420
         cases e420
         have HR420_1 := Aside0.mk hi420_1
         have HC420_1 := Aside0.mk hl420_1
         clear hi420_1 hl420_1
         replace p420 := eq_true p420
         replace q420 := eq_true q420
         go_wp2
         go_ret
         exact ⟨by first | rfl | (simp; done) | (simp [*]; done), by repeat (first | exact Drawn0.refl _ | apply Drawn0.step)⟩
        ·rw [if_neg c7] at H
         have c7b0 : decide (10 < (((rd_T57 l0 x3_1).f1).length : Int)) = false := decide_eq_false c7
         have c7b1 : decide (10 < ((rd_T57 l0 x3_1).f1).length) = false := decide_eq_false (by omega)
         clear c7
         by_cases c8 : (((rd_T57 l0 x3_1).f0).size : Int) > 50
         ·rw [if_pos c8] at H
          have c8b0 : decide (50 < (((rd_T57 l0 x3_1).f0).size : Int)) = true := decide_eq_true c8
          have c8b1 : decide (50 < ((rd_T57 l0 x3_1).f0).size) = true := decide_eq_true (by omega)
          clear c8
          obtain rfl := Option.some.inj H
          have p420 : 0 ≤ (x3_1 : Int) := of_decide_eq_true (by first | (with_reducible assumption) | assumption)
          have q420 : x3_1 < (l0.length : Int) := of_decide_eq_true (by first | (with_reducible assumption) | assumption)
          obtain ⟨ad420, A420_1, c420_1, e420, hx420_0, hx420_1, hl420_1, hi420_1⟩ := at_T57 HR0.out x3_1 p420 q420
          cases e420
          have HR420_1 := Aside0.mk hi420_1
          have HC420_1 := Aside0.mk hl420_1
          clear hi420_1 hl420_1
          replace p420 := eq_true p420
          replace q420 := eq_true q420
          have p421 : 0 ≤ (x3_1 : Int) := of_decide_eq_true (by first | (with_reducible assumption) | assumption)
          have q421 : x3_1 < (l0.length : Int) := of_decide_eq_true (by first | (with_reducible assumption) | assumption)
          obtain ⟨ad421, A421_1, c421_1, e421, hx421_0, hx421_1, hl421_1, hi421_1⟩ := at_T57 HR0.out x3_1 p421 q421
          obtain rfl : ad420 = ad421 := (by injection e421)
          have HR421_1 := Aside0.mk hi421_1
          have HC421_1 := Aside0.mk hl421_1
          clear hi421_1 hl421_1
          replace p421 := eq_true p421
          replace q421 := eq_true q421
          have ea_ := Option.some.inj (hx420_1.symm.trans hx421_1)
          injection ea_ with ea_ en_ ec_
          subst ea_
          subst ec_
          clear en_
          go_wp2
          go_ret
          exact ⟨by first | rfl | (simp; done) | (simp [*]; done), by repeat (first | exact Drawn0.refl _ | apply Drawn0.step)⟩
         ·rw [if_neg c8] at H
          have c8b0 : decide (50 < (((rd_T57 l0 x3_1).f0).size : Int)) = false := decide_eq_false c8
          have c8b1 : decide (50 < ((rd_T57 l0 x3_1).f0).size) = false := decide_eq_false (by omega)
          clear c8
          have H' := Aside0.mk H
          clear H
          have p420 : 0 ≤ (x3_1 : Int) := of_decide_eq_true (by first | (with_reducible assumption) | assumption)
          have q420 : x3_1 < (l0.length : Int) := of_decide_eq_true (by first | (with_reducible assumption) | assumption)
          obtain ⟨ad420, A420_1, c420_1, e420, hx420_0, hx420_1, hl420_1, hi420_1⟩ := at_T57 HR0.out x3_1 p420 q420
          cases e420
          have HR420_1 := Aside0.mk hi420_1
          have HC420_1 := Aside0.mk hl420_1
          clear hi420_1 hl420_1
          replace p420 := eq_true p420
          replace q420 := eq_true q420
          have p421 : 0 ≤ (x3_1 : Int) := of_decide_eq_true (by first | (with_reducible assumption) | assumption)
          have q421 : x3_1 < (l0.length : Int) := of_decide_eq_true (by first | (with_reducible assumption) | assumption)
          obtain ⟨ad421, A421_1, c421_1, e421, hx421_0, hx421_1, hl421_1, hi421_1⟩ := at_T57 HR0.out x3_1 p421 q421
          obtain rfl : ad420 = ad421 := (by injection e421)
          have HR421_1 := Aside0.mk hi421_1
          have HC421_1 := Aside0.mk hl421_1
          clear hi421_1 hl421_1
          replace p421 := eq_true p421
          replace q421 := eq_true q421
          have ea_ := Option.some.inj (hx420_1.symm.trans hx421_1)
          injection ea_ with ea_ en_ ec_
          subst ea_
          subst ec_
          clear en_
          go_wp2
          go_roundg kj1
          case measure => have := HK1.out; have := HJ1.out; omega
          case rel => exact ⟨(wrap64 (x3_1 + 1)), (by first | rfl | (simp; done) | (simp [*]; done)), H', ⟨by have := HK1.out; have := HJ1.out; omega⟩, by repeat (first | exact Drawn0.refl _ | apply Drawn0.step)⟩
       ·rw [if_neg c6] at H
        exact absurd H (by simp)
      ·rw [if_neg c5] at H
       exact absurd H (by simp)
     ·replace c4 := Bool.eq_false_iff.mpr c4
      subst c4
      have H1 : (some (decide ((l0.length : Int) ≤ 8))) = some r := by rw [if_neg (show ¬ (false = true) by decide)] at H; exact H
      clear H
      have H := H1
      clear H1
      obtain rfl := Option.some.inj H
      go_wp2
      go_ret
      exact ⟨by first | rfl | (simp; done) | (simp [*]; done), by repeat (first | exact Drawn0.refl _ | apply Drawn0.step)⟩
end
end Go.Proofs.YtbghfbhlbfcloaaDoor.PL
namespace Go.Proofs.YtbghfbhlbfcloaaDoor.PL
section
set_option linter.unusedVariables false
set_option linter.unusedSimpArgs false
open Go.RowKit Go.Proofs.YtbghfbhlbfcloaaDoorW.PrintWords Go.Proofs.YtbghfbhlbfcloaaDoorW.PrintLast Go.Proofs.YtbghfbhlbfcloaaDoorW.PrintMore

/-! ### names -/
theorem name_l (s : ByteArray) (hs : s.size < 1000000) : ∀ (c i : Nat), i + c = s.size → ∀ k, c < k → dowellaw29_name.l0 k s (i : Int) = some (!(decide (0 ≤ Lib.idxFuncFrom badR true s c i)) && (decide (1 ≤ s.size) && decide (s.size ≤ 40)))
 | 0, i, hi, k, hk => by
  obtain ⟨k, rfl⟩ : ∃ q, k = q + 1 := ⟨k - 1, by omega⟩
  rw [dowellaw29_name.l0, if_neg (by omega), Lib.idxFuncFrom]
  by_cases h : 1 ≤ s.size
  ·rw [if_pos (by omega), decide_eq_true h]
   simp only [Bool.true_and]
   rw [show (!decide ((0 : Int) ≤ -1)) = true from rfl, Bool.true_and]
   exact congrArg some (decide_eq_decide.2 (by omega))
  ·rw [if_neg (by omega), decide_eq_false h]
   simp
 | c + 1, i, hi, k, hk => by
  obtain ⟨k, rfl⟩ : ∃ q, k = q + 1 := ⟨k - 1, by omega⟩
  have hlt : i < s.size := by omega
  have hb : bt s (i : Int) = (((s[i]'hlt).toNat : Nat) : Int) := by
   unfold bt
   simp only [Int.toNat_natCast]
   rw [dif_pos hlt]
  rw [dowellaw29_name.l0, if_pos (by omega), if_pos (by omega), hb, Lib.idxFuncFrom, if_pos hlt, wr1 i (by omega)]
  by_cases h128 : (s[i]'hlt).toNat < 128
  ·rw [Go.decode_ascii s i hlt h128]
   by_cases h1 : (s[i]'hlt).toNat < 33
   ·rw [if_pos (by omega), if_pos (by simp [badR, h1]), decide_eq_true (by omega)]
    rfl
   ·by_cases h2 : 126 < (s[i]'hlt).toNat
    ·rw [if_neg (by omega), if_pos (by omega), if_pos (by simp [badR, h2]), decide_eq_true (by omega)]
     rfl
    ·rw [if_neg (by omega), if_neg (by omega), if_neg (by simp [badR, h1, h2])]
     exact name_l s hs c (i + 1) (by omega) k (by omega)
  ·have h3 := (Go.decode_high s i hlt (by omega)).1
   rw [if_neg (by omega), if_pos (by omega), if_pos (by simp only [badR, Bool.or_eq_true, decide_eq_true_eq]; omega), decide_eq_true (by omega)]
   rfl
theorem name_f (s : ByteArray) (hs : s.size < 1000000) (k : Nat) (hk : s.size < k) : dowellaw29_name.f k s = some (nameB s) := by
 have h := name_l s hs s.size 0 (by omega) k hk
 unfold dowellaw29_name.f
 rw [show dowellaw29_name.l0 k s 0 = _ from h]
 unfold nameB Lib.idxFunc
 congr 1
 rw [Bool.and_comm]
 rfl

/-! ### indices in order -/
theorem chk_l (x : List Int) (n : Int) (hx : x.length < 1000) : ∀ (c i : Nat), i + c = x.length → ∃ e, (∀ k, 2 * c < k → dowellaw29_checkSet.l0 k x n (i : Int) = some e) ∧ (∀ k, 2 * c < k → liaison_ordered.l0 k x n x (x.length : Int) (i : Int) = some e) ∧ (e = 0 → (∀ j (h : j < x.length), i ≤ j → 0 ≤ x[j] ∧ x[j] < n) ∧ ∀ j (h : j + 1 < x.length), i ≤ j + 1 → x[j] < x[j + 1])
 | 0, i, hi => by
  refine ⟨0, fun k hk => ?_, fun k hk => ?_, fun _ => ⟨fun j h hj => by omega, fun j h hj => by omega⟩⟩
  ·obtain ⟨k, rfl⟩ : ∃ q, k = q + 1 := ⟨k - 1, by omega⟩
   rw [dowellaw29_checkSet.l0, if_neg (by omega)]
  ·obtain ⟨k, rfl⟩ : ∃ q, k = q + 1 := ⟨k - 1, by omega⟩
   rw [liaison_ordered.l0, if_neg (by omega)]
 | c + 1, i, hi => by
  have hlt : i < x.length := by omega
  obtain ⟨e, h1, h2, h3⟩ := chk_l x n hx c (i + 1) (by omega)
  by_cases hr : x[i] < 0 ∨ n ≤ x[i]
  ·have hd : (x[i] < 0) ∨ ¬ (x[i] < 0) ∧ (decide (x[i] ≥ n)) = true := by
    rcases hr with h | h
    ·exact .inl h
    ·by_cases h0 : x[i] < 0
     ·exact .inl h0
     ·exact .inr ⟨h0, decide_eq_true h⟩
   refine ⟨2, fun k hk => ?_, fun k hk => ?_, fun h => by omega⟩
   ·obtain ⟨k, rfl⟩ : ∃ q, k = q + 2 := ⟨k - 2, by omega⟩
    rw [dowellaw29_checkSet.l0, if_pos (by omega), if_pos (by omega), rdI x i hlt]
    rcases hd with h | ⟨h, h'⟩
    ·rw [if_pos h, dowellaw29_checkSet.j1, if_pos rfl]
    ·rw [if_neg h, h', dowellaw29_checkSet.j1, if_pos rfl]
   ·obtain ⟨k, rfl⟩ : ∃ q, k = q + 2 := ⟨k - 2, by omega⟩
    rw [liaison_ordered.l0, if_pos (by omega), if_pos (by omega), if_pos (by omega), rdI x i hlt]
    rcases hd with h | ⟨h, h'⟩
    ·rw [if_pos h, liaison_ordered.j1, if_pos rfl]
    ·rw [if_neg h, h', liaison_ordered.j1, if_pos rfl]
  ·have hn1 : ¬ x[i] < 0 := fun h => hr (.inl h)
   have hn2 : ¬ x[i] ≥ n := fun h => hr (.inr h)
   cases i with
   | zero =>
    refine ⟨e, fun k hk => ?_, fun k hk => ?_, fun h => ⟨fun j hj hij => ?_, fun j hj hij => ?_⟩⟩
    ·obtain ⟨k, rfl⟩ : ∃ q, k = q + 2 := ⟨k - 2, by omega⟩
     rw [dowellaw29_checkSet.l0, if_pos (by omega), if_pos (by omega), rdI x 0 hlt, if_neg hn1, decide_eq_false hn2, dowellaw29_checkSet.j1, if_neg (by decide), if_neg (by omega), wr1 0 (by omega)]
     exact h1 k (by omega)
    ·obtain ⟨k, rfl⟩ : ∃ q, k = q + 2 := ⟨k - 2, by omega⟩
     rw [liaison_ordered.l0, if_pos (by omega), if_pos (by omega), if_pos (by omega), rdI x 0 hlt, if_neg hn1, decide_eq_false hn2, liaison_ordered.j1, if_neg (by decide), if_neg (by omega), wr1 0 (by omega)]
     exact h2 k (by omega)
    ·cases j with
     | zero => omega
     | succ j => exact (h3 h).1 (j + 1) hj (by omega)
    ·exact (h3 h).2 j hj (by omega)
   | succ i =>
    have hp : rd x (i : Int) = x[i] := rdI x i (by omega)
    by_cases ho : x[i + 1] ≤ x[i]
    ·refine ⟨8, fun k hk => ?_, fun k hk => ?_, fun h => by omega⟩
     ·obtain ⟨k, rfl⟩ : ∃ q, k = q + 2 := ⟨k - 2, by omega⟩
      rw [dowellaw29_checkSet.l0, if_pos (by omega), if_pos (by omega), rdI x (i + 1) hlt, if_neg hn1, decide_eq_false hn2, dowellaw29_checkSet.j1, if_neg (by decide), if_pos (by omega), if_pos (by omega), if_pos (by omega), wm1 i (by omega), if_pos (by omega), if_pos (by omega), rdI x (i + 1) hlt, hp, if_pos ho]
     ·obtain ⟨k, rfl⟩ : ∃ q, k = q + 2 := ⟨k - 2, by omega⟩
      rw [liaison_ordered.l0, if_pos (by omega), if_pos (by omega), if_pos (by omega), rdI x (i + 1) hlt, if_neg hn1, decide_eq_false hn2, liaison_ordered.j1, if_neg (by decide), if_pos (by omega), wm1 i (by omega), if_pos (by omega), if_pos (by omega), hp, if_pos ho]
    ·refine ⟨e, fun k hk => ?_, fun k hk => ?_, fun h => ⟨fun j hj hij => ?_, fun j hj hij => ?_⟩⟩
     ·obtain ⟨k, rfl⟩ : ∃ q, k = q + 2 := ⟨k - 2, by omega⟩
      rw [dowellaw29_checkSet.l0, if_pos (by omega), if_pos (by omega), rdI x (i + 1) hlt, if_neg hn1, decide_eq_false hn2, dowellaw29_checkSet.j1, if_neg (by decide), if_pos (by omega), if_pos (by omega), if_pos (by omega), wm1 i (by omega), if_pos (by omega), if_pos (by omega), rdI x (i + 1) hlt, hp, if_neg ho, wr1 (i + 1) (by omega)]
      exact h1 k (by omega)
     ·obtain ⟨k, rfl⟩ : ∃ q, k = q + 2 := ⟨k - 2, by omega⟩
      rw [liaison_ordered.l0, if_pos (by omega), if_pos (by omega), if_pos (by omega), rdI x (i + 1) hlt, if_neg hn1, decide_eq_false hn2, liaison_ordered.j1, if_neg (by decide), if_pos (by omega), wm1 i (by omega), if_pos (by omega), if_pos (by omega), hp, if_neg ho, wr1 (i + 1) (by omega)]
      exact h2 k (by omega)
     ·rcases Nat.lt_or_ge j (i + 1 + 1) with hlt2 | hge
      ·obtain rfl : j = i + 1 := by omega
       exact ⟨by omega, by omega⟩
      ·exact (h3 h).1 j hj hge
     ·rcases Nat.lt_or_ge (j + 1) (i + 1 + 1) with hlt2 | hge
      ·obtain rfl : j = i := by omega
       omega
      ·exact (h3 h).2 j hj hge
/-- Members in order, below n. -/
def OkM (n : Int) (x : List Int) : Prop := (∀ a ∈ x, 0 ≤ a ∧ a < n) ∧ x.Pairwise (· < ·)
theorem pair_of (x : List Int) (h : ∀ j (h : j + 1 < x.length), x[j] < x[j + 1]) : x.Pairwise (· < ·) := by
 have key : ∀ (d i j : Nat) (hj : j < x.length) (e : i + 1 + d = j), x[i]'(by omega) < x[j] := by
  intro d
  induction d with
  | zero =>
   intro i j hj e
   obtain rfl : j = i + 1 := by omega
   exact h i hj
  | succ d ih =>
   intro i j hj e
   obtain ⟨j, rfl⟩ : ∃ q, j = q + 1 := ⟨j - 1, by omega⟩
   exact Int.lt_trans (ih i j (by omega) (by omega)) (h j hj)
 exact List.pairwise_iff_getElem.2 fun i j hi hj hij => key (j - i - 1) i j hj (by omega)
theorem chk_f (x : List Int) (n : Int) (hx : x.length < 1000) (h0 : x.length ≠ 0) : ∃ e, (∀ k, 2 * x.length < k → dowellaw29_checkSet.f k x n = some e) ∧ (∀ k, 2 * x.length < k → liaison_ordered.f k x n = some e) ∧ (e = 0 → OkM n x) := by
 obtain ⟨e, h1, h2, h3⟩ := chk_l x n hx x.length 0 (by omega)
 refine ⟨e, fun k hk => ?_, fun k hk => ?_, fun h => ⟨fun a ha => ?_, pair_of x fun j hj => (h3 h).2 j hj (by omega)⟩⟩
 ·unfold dowellaw29_checkSet.f
  rw [if_neg (by omega)]
  exact h1 k hk
 ·exact h2 k hk
 ·obtain ⟨j, hj, rfl⟩ := List.getElem_of_mem ha
  exact (h3 h).1 j hj (Nat.zero_le _)

/-! ### masks of twelve -/
theorem wraps_12 (n : Int) (h₀ : 0 ≤ n) (h₁ : n < 2 ^ 12) : IntKind.u64.wrap n = n := by
 simp [IntKind.wrap, IntKind.bits, IntKind.signed]; omega
theorem andJ (a b : Nat) (ha : a < 4096) (hb : b < 4096) : Go.bits .and .u64 (a : Int) (b : Int) = ((a &&& b : Nat) : Int) := (bits_nat .u64 12 (by decide) wraps_12 a b ha hb).1
theorem orJ (a b : Nat) (ha : a < 4096) (hb : b < 4096) : Go.bits .or .u64 (a : Int) (b : Int) = ((a ||| b : Nat) : Int) := (bits_nat .u64 12 (by decide) wraps_12 a b ha hb).2
theorem shl_12 : ((List.range 12).all fun i => shl .u64 1 (i : Int) == ((2 ^ i : Nat) : Int)) = true := by kernel_rfl
theorem shlJ (i : Nat) (hi : i < 12) : shl .u64 1 (i : Int) = ((2 ^ i : Nat) : Int) := by
 have h := List.all_eq_true.1 shl_12 i (List.mem_range.2 hi)
 simpa using h
/-- The mask's nodes are the list's. -/
def MkOf (x : List Int) (m : Nat) : Prop := m < 4096 ∧ ∀ b : Nat, m.testBit b = true ↔ ((b : Nat) : Int) ∈ x
theorem mask_l (x : List Int) (hx : x.length < 1000) (h : ∀ a ∈ x, 0 ≤ a ∧ a < 12) : ∀ (c i m : Nat), i + c = x.length → m < 4096 → ∃ r : Nat, r < 4096 ∧ (∀ b : Nat, r.testBit b = true ↔ m.testBit b = true ∨ ((b : Nat) : Int) ∈ x.drop i) ∧ ∀ k, c < k → liaison_masked.l0 k (m : Int) x (x.length : Int) (i : Int) = some (r : Int)
 | 0, i, m, hi, hm => by
  refine ⟨m, hm, fun b => ?_, fun k hk => ?_⟩
  ·rw [List.drop_eq_nil_of_le (by omega)]
   simp
  ·obtain ⟨k, rfl⟩ : ∃ q, k = q + 1 := ⟨k - 1, by omega⟩
   rw [liaison_masked.l0, if_neg (by omega)]
 | c + 1, i, m, hi, hm => by
  have hlt : i < x.length := by omega
  have h1 := h x[i] (List.getElem_mem hlt)
  obtain ⟨v, hv⟩ : ∃ v : Nat, x[i] = (v : Int) := ⟨x[i].toNat, by omega⟩
  have hv12 : v < 12 := by omega
  have h2v : 2 ^ v < 4096 := Nat.pow_lt_pow_right (m := v) (n := 12) (by decide) hv12
  obtain ⟨r, hr, hb, hf⟩ := mask_l x hx h c (i + 1) (m ||| 2 ^ v) (by omega) (Nat.or_lt_two_pow (n := 12) hm h2v)
  refine ⟨r, hr, fun b => ?_, fun k hk => ?_⟩
  ·rw [hb b, Nat.testBit_or, Nat.testBit_two_pow, Bool.or_eq_true, decide_eq_true_eq, List.drop_eq_getElem_cons hlt, List.mem_cons, hv]
   constructor
   ·rintro ((h | h) | h)
    ·exact .inl h
    ·exact .inr (.inl (by omega))
    ·exact .inr (.inr h)
   ·rintro (h | h | h)
    ·exact .inl (.inl h)
    ·exact .inl (.inr (by omega))
    ·exact .inr h
  ·obtain ⟨k, rfl⟩ : ∃ q, k = q + 1 := ⟨k - 1, by omega⟩
   rw [liaison_masked.l0, if_pos (by omega), if_pos (by omega), if_pos (by omega), rdI x i hlt, hv, if_pos (by omega), shlJ v hv12, orJ _ _ hm h2v, wr1 i (by omega)]
   exact hf k (by omega)
theorem mask_f (x : List Int) (hx : x.length < 1000) (h : ∀ a ∈ x, 0 ≤ a ∧ a < 12) : ∃ m : Nat, MkOf x m ∧ ∀ k, x.length < k → liaison_masked.f k x = some (m : Int) := by
 obtain ⟨r, hr, hb, hf⟩ := mask_l x hx h x.length 0 0 (by omega) (by decide)
 refine ⟨r, ⟨hr, fun b => ?_⟩, fun k hk => hf k hk⟩
 rw [hb b, Nat.zero_testBit, List.drop_zero]
 simp

/-! ### apart, within -/
theorem apart_l (a b : List Int) (ha : a.length < 1000) (hb : b.length < 1000) : ∀ (c i : Nat), i + c = a.length → ∀ k, c + 1000 ≤ k → dowellaw29_apart.l0 k a b (i : Int) = some ((a.drop i).all fun x => !decide (x ∈ b))
 | 0, i, hi, k, hk => by
  obtain ⟨k, rfl⟩ : ∃ q, k = q + 1 := ⟨k - 1, by omega⟩
  rw [dowellaw29_apart.l0, if_neg (by omega), List.drop_eq_nil_of_le (by omega)]
  rfl
 | c + 1, i, hi, k, hk => by
  obtain ⟨k, rfl⟩ : ∃ q, k = q + 1 := ⟨k - 1, by omega⟩
  rw [dowellaw29_apart.l0, if_pos (by omega), if_pos (by omega), has_f k b _ (by omega) (by omega), Option.bind_some, dropI a i (by omega), List.all_cons, wr1 i (by omega)]
  by_cases h : rd a (i : Int) ∈ b
  ·rw [if_pos (decide_eq_true h), decide_eq_true h]
   rfl
  ·rw [if_neg (by simpa using h), decide_eq_false h, apart_l a b ha hb c (i + 1) (by omega) k (by omega)]
   rfl
theorem apart_f (a b : List Int) (ha : a.length < 1000) (hb : b.length < 1000) (k : Nat) (hk : 2000 ≤ k) : dowellaw29_apart.f k a b = some (a.all fun x => !decide (x ∈ b)) := apart_l a b ha hb a.length 0 (by omega) k (by omega)
theorem within_l (a b : List Int) (ha : a.length < 1000) (hb : b.length < 1000) : ∀ (c i : Nat), i + c = a.length → ∀ k, c + 1000 ≤ k → dowellaw29_within.l0 k a b (i : Int) = some ((a.drop i).all fun x => decide (x ∈ b))
 | 0, i, hi, k, hk => by
  obtain ⟨k, rfl⟩ : ∃ q, k = q + 1 := ⟨k - 1, by omega⟩
  rw [dowellaw29_within.l0, if_neg (by omega), List.drop_eq_nil_of_le (by omega)]
  rfl
 | c + 1, i, hi, k, hk => by
  obtain ⟨k, rfl⟩ : ∃ q, k = q + 1 := ⟨k - 1, by omega⟩
  rw [dowellaw29_within.l0, if_pos (by omega), if_pos (by omega), has_f k b _ (by omega) (by omega), Option.bind_some, dropI a i (by omega), List.all_cons, wr1 i (by omega)]
  by_cases h : rd a (i : Int) ∈ b
  ·rw [if_pos (decide_eq_true h), decide_eq_true h, within_l a b ha hb c (i + 1) (by omega) k (by omega)]
   rfl
  ·rw [if_neg (by simpa using h), decide_eq_false h]
   rfl
theorem within_f (a b : List Int) (ha : a.length < 1000) (hb : b.length < 1000) (k : Nat) (hk : 2000 ≤ k) : dowellaw29_within.f k a b = some (a.all fun x => decide (x ∈ b)) := within_l a b ha hb a.length 0 (by omega) k (by omega)
theorem nb_ext {a b : Nat} (h : ∀ i, a.testBit i = true ↔ b.testBit i = true) : a = b := Nat.eq_of_testBit_eq fun i => by
 cases e : a.testBit i with
 | true => exact ((h i).1 e).symm
 | false =>
  cases e2 : b.testBit i with
  | false => rfl
  | true => rw [(h i).2 e2] at e; cases e
/-- Masks cross exactly if the lists do. -/
theorem cross_f {x y : List Int} {m o : Nat} (hx : MkOf x m) (hy : MkOf y o) (hx0 : ∀ a ∈ x, 0 ≤ a) (hy0 : ∀ a ∈ y, 0 ≤ a) :
  CG.cross (m : Int) (o : Int) = !((x.all fun a => !decide (a ∈ y)) || (x.all fun a => decide (a ∈ y)) || (y.all fun a => decide (a ∈ x))) := by
 unfold CG.cross
 rw [andJ o m hy.1 hx.1]
 have nat : ∀ (z : List Int), (∀ a ∈ z, 0 ≤ a) → ∀ a ∈ z, ∃ b : Nat, a = (b : Int) := fun z hz a ha => ⟨a.toNat, by have := hz a ha; omega⟩
 have e1 : decide (((o &&& m : Nat) : Int) ≠ 0) = !(x.all fun a => !decide (a ∈ y)) := by
  rw [Bool.eq_iff_iff, decide_eq_true_eq, Bool.not_eq_true', List.all_eq_false]
  constructor
  ·intro h
   have h' : o &&& m ≠ 0 := by omega
   obtain ⟨b, hb⟩ := Nat.exists_testBit_of_ne_zero h'
   rw [Nat.testBit_and, Bool.and_eq_true] at hb
   exact ⟨_, (hx.2 b).1 hb.2, by simpa using (hy.2 b).1 hb.1⟩
  ·rintro ⟨a, ha, h⟩ he
   obtain ⟨b, rfl⟩ := nat x hx0 a ha
   have hy1 : ((b : Nat) : Int) ∈ y := by simpa using h
   have h1 : (o &&& m).testBit b = true := by rw [Nat.testBit_and, (hx.2 b).2 ha, (hy.2 b).2 hy1]; rfl
   rw [show o &&& m = 0 by omega, Nat.zero_testBit] at h1
   cases h1
 have sub : ∀ (z w : List Int) (p q : Nat), MkOf z p → MkOf w q → (∀ a ∈ z, 0 ≤ a) → (decide (((p &&& q : Nat) : Int) ≠ (p : Int)) = !(z.all fun a => decide (a ∈ w))) := by
  intro z w p q hz hw hz0
  rw [Bool.eq_iff_iff, decide_eq_true_eq, Bool.not_eq_true', List.all_eq_false]
  constructor
  ·intro h
   by_cases hc : ∃ a ∈ z, ¬ decide (a ∈ w) = true
   ·obtain ⟨a, ha, h⟩ := hc
    exact ⟨a, ha, h⟩
   ·exfalso
    apply h
    have : p &&& q = p := nb_ext fun i => by
     rw [Nat.testBit_and, Bool.and_eq_true]
     constructor
     ·exact fun h => h.1
     ·intro h
      refine ⟨h, (hw.2 i).2 ?_⟩
      by_cases hq : ((i : Nat) : Int) ∈ w
      ·exact hq
      ·exact absurd ⟨_, (hz.2 i).1 h, by simpa using hq⟩ hc
    rw [this]
  ·rintro ⟨a, ha, h⟩ he
   obtain ⟨b, rfl⟩ := nat z hz0 a ha
   have hw1 : ¬ ((b : Nat) : Int) ∈ w := by simpa using h
   have h1 : p.testBit b = true := (hz.2 b).2 ha
   rw [← show p &&& q = p by omega, Nat.testBit_and, Bool.and_eq_true] at h1
   exact hw1 ((hw.2 b).1 h1.2)
 have e2 := sub x y m o hx hy hx0
 have e3 := sub y x o m hy hx hy0
 rw [Nat.and_comm] at e2
 rw [e1, e2, e3]
 cases (x.all fun a => !decide (a ∈ y)) <;> cases (x.all fun a => decide (a ∈ y)) <;> cases (y.all fun a => decide (a ∈ x)) <;> rfl
end
end Go.Proofs.YtbghfbhlbfcloaaDoor.PL
namespace Go.Proofs.YtbghfbhlbfcloaaDoor.PL
section
set_option linter.unusedVariables false
set_option linter.unusedSimpArgs false
open Go.RowKit Go.Proofs.YtbghfbhlbfcloaaDoorW.PrintWords Go.Proofs.YtbghfbhlbfcloaaDoorW.PrintLast Go.Proofs.YtbghfbhlbfcloaaDoorW.PrintMore

theorem rdG (l : List S57) (i : Nat) (h : i < l.length) : rd_T57 l (i : Int) = l[i] := by
 unfold rd_T57
 rw [Int.toNat_natCast, List.getD_eq_getElem?_getD, List.getElem?_eq_getElem h]; rfl
/-- Few groups, small ones. -/
def smallB (x : S57) : Bool := decide (x.f1.length ≤ 10) && decide (x.f0.size ≤ 50)
def fewB (l : List S57) : Bool := ((l.take 9).all smallB) && decide (l.length ≤ 8)
theorem few_l (l : List S57) : ∀ (c i : Nat), i + c = 9 → i ≤ l.length → ∀ k, 2 * c + 1 < k → dowellaw29_few.l0 k l (i : Int) = some ((((l.drop i).take c).all smallB) && decide (l.length ≤ 8))
 | 0, i, hi, hil, k, hk => by
  obtain ⟨k, rfl⟩ : ∃ q, k = q + 2 := ⟨k - 2, by omega⟩
  have e : dowellaw29_few.l0 (k + 2) l (i : Int) = dowellaw29_few.j1 (k + 1) l (i : Int) false := by
   rw [dowellaw29_few.l0]
   by_cases h : (i : Int) < (l.length : Int)
   ·rw [if_pos h, decide_eq_false (by omega)]
   ·rw [if_neg h]
  rw [e, dowellaw29_few.j1, if_neg (by decide), List.take_zero, List.all_nil, Bool.true_and]
  exact congrArg some (decide_eq_decide.2 (by omega))
 | c + 1, i, hi, hil, k, hk => by
  obtain ⟨k, rfl⟩ : ∃ q, k = q + 2 := ⟨k - 2, by omega⟩
  by_cases hlt : i < l.length
  ·rw [dowellaw29_few.l0, if_pos (by omega), decide_eq_true (by omega), dowellaw29_few.j1, if_pos rfl, if_pos (by omega), if_pos (by omega), rdG l i hlt, List.drop_eq_getElem_cons hlt, List.take_succ_cons, List.all_cons, wr1 i (by omega)]
   by_cases h1 : l[i].f1.length ≤ 10
   ·by_cases h2 : l[i].f0.size ≤ 50
    ·rw [if_neg (by omega), if_neg (by omega), few_l l c (i + 1) (by omega) (by omega) k (by omega)]
     have : smallB l[i] = true := by unfold smallB; rw [decide_eq_true h1, decide_eq_true h2]; rfl
     rw [this]
     rfl
    ·rw [if_neg (by omega), if_pos (by omega)]
     have : smallB l[i] = false := by unfold smallB; rw [decide_eq_false h2, Bool.and_false]
     rw [this]
     rfl
   ·rw [if_pos (by omega)]
    have : smallB l[i] = false := by unfold smallB; rw [decide_eq_false h1]; rfl
    rw [this]
    rfl
  ·rw [dowellaw29_few.l0, if_neg (by omega), dowellaw29_few.j1, if_neg (by decide), List.drop_eq_nil_of_le (by omega), List.take_nil, List.all_nil, Bool.true_and]
   exact congrArg some (decide_eq_decide.2 (by omega))
theorem few_f (l : List S57) (k : Nat) (hk : 30 ≤ k) : dowellaw29_few.f k l = some (fewB l) := few_l l 9 0 rfl (Nat.zero_le _) k (by omega)
theorem few_of {l : List S57} (h : fewB l = true) : l.length ≤ 8 ∧ ∀ x ∈ l, x.f1.length ≤ 10 ∧ x.f0.size ≤ 50 := by
 unfold fewB at h
 rw [Bool.and_eq_true, decide_eq_true_eq] at h
 refine ⟨h.2, fun x hx => ?_⟩
 rw [List.take_of_length_le (by omega)] at h
 have := List.all_eq_true.1 h.1 x hx
 unfold smallB at this
 simpa using this

/-! ### the rounds -/
/-- Two lists cross. -/
def crossL (x y : List Int) : Bool := !((x.all fun a => !decide (a ∈ y)) || (x.all fun a => decide (a ∈ y)) || (y.all fun a => decide (a ∈ x)))
def GdG (n : Int) (y : S57) : Prop := OkM n y.f1 ∧ 2 ≤ y.f1.length
section
variable {l : List S57} {n : Int} {N : Nat}
theorem cg_l3 (hl : l.length ≤ 8) (hf : ∀ x ∈ l, x.f1.length ≤ 10 ∧ x.f0.size ≤ 50) (i : Nat) (hi : i < l.length) {R : Int} (hN : 2100 ≤ N) (H : ∀ k, N ≤ k → dowellaw29_checkGroups.l0 k l n ((i + 1 : Nat) : Int) = some R) : ∀ (c j : Nat), j + c = i → ∀ k, N + c < k →
  dowellaw29_checkGroups.l3 k l n (i : Int) (j : Int) = some (if (((l.take i).drop j).any fun y => crossL l[i].f1 y.f1) = true then 17 else R)
 | 0, j, hj, k, hk => by
  obtain ⟨k, rfl⟩ : ∃ q, k = q + 1 := ⟨k - 1, by omega⟩
  rw [dowellaw29_checkGroups.l3, if_neg (by omega), List.drop_eq_nil_of_le (by rw [List.length_take]; omega), wr1 i (by omega)]
  exact H k (by omega)
 | c + 1, j, hj, k, hk => by
  obtain ⟨k, rfl⟩ : ∃ q, k = q + 1 := ⟨k - 1, by omega⟩
  have hjl : j < (l.take i).length := by rw [List.length_take]; omega
  have hxi := (hf l[i] (List.getElem_mem hi)).1
  have hxj := (hf l[j] (List.getElem_mem (by omega))).1
  have ih := cg_l3 hl hf i hi hN H c (j + 1) (by omega) k (by omega)
  have hd : (l.take i).drop j = l[j] :: (l.take i).drop (j + 1) := by rw [List.drop_eq_getElem_cons hjl, List.getElem_take]
  rw [dowellaw29_checkGroups.l3, if_pos (by omega), if_pos (by omega), if_pos (by omega), if_pos (by omega), if_pos (by omega), rdG l i hi, rdG l j (by omega), apart_f _ _ (by omega) (by omega) k (by omega), Option.bind_some, within_f _ _ (by omega) (by omega) k (by omega), within_f _ _ (by omega) (by omega) k (by omega), wr1 j (by omega), ih, hd, List.any_cons]
  unfold crossL
  cases (l[i].f1.all fun a => !decide (a ∈ l[j].f1)) <;> cases (l[i].f1.all fun a => decide (a ∈ l[j].f1)) <;> cases (l[j].f1.all fun a => decide (a ∈ l[i].f1)) <;> rfl
theorem cg_l2 (hl : l.length ≤ 8) (hf : ∀ x ∈ l, x.f1.length ≤ 10 ∧ x.f0.size ≤ 50) (i : Nat) (hi : i < l.length) {R : Int} (hN : 2100 ≤ N) (H : ∀ k, N ≤ k → dowellaw29_checkGroups.l3 k l n (i : Int) 0 = some R) : ∀ (c j : Nat), j + c = i → ∀ k, N + c < k →
  dowellaw29_checkGroups.l2 k l n (i : Int) (j : Int) = some (if (((l.take i).drop j).any fun y => decide (l[i].f1 = y.f1)) = true then 9 else R)
 | 0, j, hj, k, hk => by
  obtain ⟨k, rfl⟩ : ∃ q, k = q + 1 := ⟨k - 1, by omega⟩
  rw [dowellaw29_checkGroups.l2, if_neg (by omega), List.drop_eq_nil_of_le (by rw [List.length_take]; omega)]
  exact H k (by omega)
 | c + 1, j, hj, k, hk => by
  obtain ⟨k, rfl⟩ : ∃ q, k = q + 1 := ⟨k - 1, by omega⟩
  have hjl : j < (l.take i).length := by rw [List.length_take]; omega
  have hxj := (hf l[j] (List.getElem_mem (by omega))).1
  have ih := cg_l2 hl hf i hi hN H c (j + 1) (by omega) k (by omega)
  have hd : (l.take i).drop j = l[j] :: (l.take i).drop (j + 1) := by rw [List.drop_eq_getElem_cons hjl, List.getElem_take]
  rw [dowellaw29_checkGroups.l2, if_pos (by omega), if_pos (by omega), if_pos (by omega), if_pos (by omega), if_pos (by omega), rdG l i hi, rdG l j (by omega), same_f k _ _ (by omega) (by omega), Option.bind_some, wr1 j (by omega), hd, List.any_cons]
  by_cases h : l[j].f1 = l[i].f1
  ·rw [if_pos (decide_eq_true h), decide_eq_true h.symm]
   rfl
  ·rw [if_neg (by simpa using h), decide_eq_false (fun e => h e.symm), ih]
   rfl
theorem cg_l1 (hl : l.length ≤ 8) (i : Nat) (hi : i < l.length) {R : Int} (H : ∀ k, N ≤ k → (if ((l[i].f1).length : Int) < 2 then some 7 else (dowellaw29_checkSet.f k l[i].f1 n).bind fun t => if t = 0 then dowellaw29_checkGroups.l2 k l n (i : Int) 0 else some t) = some R) : ∀ (c j : Nat), j + c = i → ∀ k, N + c < k →
  dowellaw29_checkGroups.l1 k l n (i : Int) (j : Int) = some (if (((l.take i).drop j).any fun y => y.f0.toList == l[i].f0.toList) = true then 9 else R)
 | 0, j, hj, k, hk => by
  obtain ⟨k, rfl⟩ : ∃ q, k = q + 1 := ⟨k - 1, by omega⟩
  rw [dowellaw29_checkGroups.l1, if_neg (by omega), List.drop_eq_nil_of_le (by rw [List.length_take]; omega), if_pos (by omega), if_pos (by omega), rdG l i hi]
  exact H k (by omega)
 | c + 1, j, hj, k, hk => by
  obtain ⟨k, rfl⟩ : ∃ q, k = q + 1 := ⟨k - 1, by omega⟩
  have hjl : j < (l.take i).length := by rw [List.length_take]; omega
  have ih := cg_l1 hl i hi H c (j + 1) (by omega) k (by omega)
  have hd : (l.take i).drop j = l[j] :: (l.take i).drop (j + 1) := by rw [List.drop_eq_getElem_cons hjl, List.getElem_take]
  rw [dowellaw29_checkGroups.l1, if_pos (by omega), if_pos (by omega), if_pos (by omega), if_pos (by omega), if_pos (by omega), rdG l i hi, rdG l j (by omega), wr1 j (by omega), hd, List.any_cons]
  by_cases h : l[j].f0.toList = l[i].f0.toList
  ·rw [if_pos h, beq_iff_eq.2 h]
   rfl
  ·rw [if_neg h, beq_eq_false_iff_ne.2 h, ih]
   rfl
theorem inn_f (hn : n ≤ 12) {x : List Int} {m : Nat} (hx : MkOf x m) (hx0 : ∀ a ∈ x, 0 ≤ a) : ∀ ys : List S57, (∀ y ∈ ys, OkM n y.f1 ∧ y.f1.length ≤ 10) → CG.inn (m : Int) ys = some (ys.any fun y => crossL x y.f1)
 | [], _ => rfl
 | y :: r, h => by
  obtain ⟨hy, hyl⟩ := h y (by simp)
  obtain ⟨o, ho, hof⟩ := mask_f y.f1 (by omega) (fun a ha => ⟨(hy.1 a ha).1, by have := (hy.1 a ha).2; omega⟩)
  rw [CG.inn, hof CG.k (by unfold CG.k; omega), Option.bind_some, cross_f hx ho hx0 (fun a ha => (hy.1 a ha).1), inn_f hn hx hx0 r (fun z hz => h z (by simp [hz])), List.any_cons]
  unfold crossL
  cases (!((x.all fun a => !decide (a ∈ y.f1)) || (x.all fun a => decide (a ∈ y.f1)) || (y.f1.all fun a => decide (a ∈ x)))) <;> rfl
theorem cg_l0 (hl : l.length ≤ 8) (hf : ∀ x ∈ l, x.f1.length ≤ 10 ∧ x.f0.size ≤ 50) (hn : n ≤ 12) : ∀ (c i : Nat), i + c = l.length → (∀ y ∈ l.take i, GdG n y) → ∃ e, (∀ k, 3000 + 100 * c ≤ k → dowellaw29_checkGroups.l0 k l n (i : Int) = some e) ∧ CG.go l n i (l.drop i) = some e ∧ (e = 0 → ∀ y ∈ l, GdG n y)
 | 0, i, hi, hg => by
  refine ⟨0, fun k hk => ?_, ?_, fun _ y hy => hg y (by rw [List.take_of_length_le (by omega)]; exact hy)⟩
  ·obtain ⟨k, rfl⟩ : ∃ q, k = q + 1 := ⟨k - 1, by omega⟩
   rw [dowellaw29_checkGroups.l0, if_neg (by omega)]
  ·rw [List.drop_eq_nil_of_le (by omega)]
   rfl
 | c + 1, i, hi, hg => by
  have hlt : i < l.length := by omega
  obtain ⟨hx1, hx2⟩ := hf l[i] (List.getElem_mem hlt)
  have hd : l.drop i = l[i] :: l.drop (i + 1) := List.drop_eq_getElem_cons hlt
  have tk : ∀ y ∈ l.take i, y ∈ l := fun y hy => List.mem_of_mem_take hy
  -- the round's own word
  suffices hone : ∃ e, (∀ k, 3000 + 100 * (c + 1) ≤ k → dowellaw29_checkGroups.l0 k l n (i : Int) = some e) ∧ ((∃ o, CG.one l n i l[i] = some o ∧ o ≠ 0 ∧ e = o) ∨ (CG.one l n i l[i] = some 0 ∧ CG.go l n (i + 1) (l.drop (i + 1)) = some e ∧ (e = 0 → ∀ y ∈ l, GdG n y))) by
   obtain ⟨e, h1, h2⟩ := hone
   refine ⟨e, h1, ?_, ?_⟩
   ·rw [hd, CG.go]
    rcases h2 with ⟨o, ho, hne, rfl⟩ | ⟨ho, hgo, _⟩
    ·rw [ho, Option.bind_some, if_neg hne]
    ·rw [ho, Option.bind_some, if_pos rfl, hgo]
   ·rcases h2 with ⟨o, ho, hne, rfl⟩ | ⟨ho, hgo, hh⟩
    ·exact fun h => absurd h hne
    ·exact hh
  have st : ∀ k, 3000 + 100 * c + 99 ≤ k → dowellaw29_checkGroups.l0 (k + 1) l n (i : Int) = if nameB l[i].f0 = true then dowellaw29_checkGroups.l1 k l n (i : Int) 0 else some 11 := fun k hk => by
   rw [dowellaw29_checkGroups.l0, if_pos (by omega), if_pos (by omega), rdG l i hlt, name_f _ (by omega) k (by omega), Option.bind_some]
  have st' : ∀ R, (∀ k, 3000 + 100 * c + 99 ≤ k → (if nameB l[i].f0 = true then dowellaw29_checkGroups.l1 k l n (i : Int) 0 else some 11) = some R) → ∀ k, 3000 + 100 * (c + 1) ≤ k → dowellaw29_checkGroups.l0 k l n (i : Int) = some R := fun R h k hk => by
   obtain ⟨k, rfl⟩ : ∃ q, k = q + 1 := ⟨k - 1, by omega⟩
   rw [st k (by omega)]
   exact h k (by omega)
  unfold CG.one
  cases hnm : nameB l[i].f0 with
  | false =>
   refine ⟨11, st' 11 fun k hk => by rw [hnm]; rfl, .inl ⟨11, rfl, by decide, rfl⟩⟩
  | true =>
   rw [if_neg (by decide)]
   -- what comes behind the names
   by_cases hs : ((l[i].f1).length : Int) < 2
   ·have h1 := cg_l1 (n := n) (N := 2100) hl i hlt (R := 7) (fun k _ => if_pos hs) i 0 (by omega)
    rw [if_pos hs]
    rw [List.drop_zero] at h1
    by_cases ha : ((l.take i).any fun y => y.f0.toList == l[i].f0.toList) = true
    ·rw [if_pos ha] at h1 ⊢
     exact ⟨9, st' 9 fun k hk => by rw [hnm, if_pos rfl]; exact h1 k (by omega), .inl ⟨9, rfl, by decide, rfl⟩⟩
    ·rw [if_neg ha] at h1 ⊢
     exact ⟨7, st' 7 fun k hk => by rw [hnm, if_pos rfl]; exact h1 k (by omega), .inl ⟨7, rfl, by decide, rfl⟩⟩
   ·rw [if_neg hs]
    obtain ⟨e0, he1, he2, he3⟩ := chk_f l[i].f1 n (by omega) (by omega)
    rw [he2 CG.k (by unfold CG.k; omega), Option.bind_some]
    by_cases h0 : e0 = 0
    ·subst h0
     have hgx : GdG n l[i] := ⟨he3 rfl, by omega⟩
     rw [if_neg (show ¬ ((0 : Int) ≠ 0) from fun h => h rfl)]
     obtain ⟨m, hm, hmf⟩ := mask_f l[i].f1 (by omega) (fun a ha => ⟨(hgx.1.1 a ha).1, by have := (hgx.1.1 a ha).2; omega⟩)
     rw [hmf CG.k (by unfold CG.k; omega), Option.bind_some, inn_f hn hm (fun a ha => (hgx.1.1 a ha).1) (l.take i) (fun y hy => ⟨(hg y hy).1, (hf y (tk y hy)).1⟩), Option.bind_some]
     obtain ⟨R, hR1, hR2, hR3⟩ := cg_l0 hl hf hn c (i + 1) (by omega) (fun y hy => by
      rw [List.take_succ_eq_append_getElem hlt] at hy
      rcases List.mem_append.1 hy with h | h
      ·exact hg y h
      ·rw [List.mem_singleton.1 h]; exact hgx)
     have h3 := cg_l3 (N := 3000 + 100 * c) hl hf i hlt (by omega) (fun k hk => hR1 k hk) i 0 (by omega)
     have h2 := cg_l2 (N := 3000 + 100 * c + 10) hl hf i hlt (by omega) (fun k hk => h3 k (by omega)) i 0 (by omega)
     have h1 := cg_l1 (n := n) (N := 3000 + 100 * c + 30) hl i hlt (fun k hk => by
      rw [if_neg hs, he1 k (by omega), Option.bind_some, if_pos rfl]
      exact h2 k (by omega)) i 0 (by omega)
     rw [List.drop_zero] at h1 h2 h3
     by_cases ha : ((l.take i).any fun y => y.f0.toList == l[i].f0.toList) = true
     ·rw [if_pos ha] at h1 ⊢
      exact ⟨9, st' 9 fun k hk => by rw [hnm, if_pos rfl]; exact h1 k (by omega), .inl ⟨9, rfl, by decide, rfl⟩⟩
     ·rw [if_neg ha] at h1 ⊢
      by_cases hb : ((l.take i).any fun y => decide (l[i].f1 = y.f1)) = true
      ·rw [if_pos hb] at h1 ⊢
       exact ⟨9, st' 9 fun k hk => by rw [hnm, if_pos rfl]; exact h1 k (by omega), .inl ⟨9, rfl, by decide, rfl⟩⟩
      ·rw [if_neg hb] at h1 ⊢
       by_cases hc : ((l.take i).any fun y => crossL l[i].f1 y.f1) = true
       ·rw [if_pos hc] at h1 ⊢
        exact ⟨17, st' 17 fun k hk => by rw [hnm, if_pos rfl]; exact h1 k (by omega), .inl ⟨17, rfl, by decide, rfl⟩⟩
       ·rw [if_neg hc] at h1 ⊢
        exact ⟨R, st' R fun k hk => by rw [hnm, if_pos rfl]; exact h1 k (by omega), .inr ⟨rfl, hR2, hR3⟩⟩
    ·rw [if_pos h0]
     have h1 := cg_l1 (n := n) (N := 2100) hl i hlt (R := e0) (fun k hk => by
      rw [if_neg hs, he1 k (by omega), Option.bind_some, if_neg h0]) i 0 (by omega)
     rw [List.drop_zero] at h1
     by_cases ha : ((l.take i).any fun y => y.f0.toList == l[i].f0.toList) = true
     ·rw [if_pos ha] at h1 ⊢
      exact ⟨9, st' 9 fun k hk => by rw [hnm, if_pos rfl]; exact h1 k (by omega), .inl ⟨9, rfl, by decide, rfl⟩⟩
     ·rw [if_neg ha] at h1 ⊢
      exact ⟨e0, st' e0 fun k hk => by rw [hnm, if_pos rfl]; exact h1 k (by omega), .inl ⟨e0, rfl, h0, rfl⟩⟩
end
/-- The groups' first error, told twice. -/
theorem checkGroups_f {l : List S57} (n : Int) (h : fewB l = true) : ∃ e, (∀ k, 4000 ≤ k → dowellaw29_checkGroups.f k l n = some e) ∧ CG.f l n = some e ∧ (e = 0 → 0 ≤ n ∧ n ≤ 12 ∧ ∀ y ∈ l, GdG n y) := by
 obtain ⟨hl, hf⟩ := few_of h
 have hj : ∀ k x, 1 ≤ k → x = true → dowellaw29_checkGroups.j0 k l n x = some 2 := fun k x hk hx => by
  obtain ⟨k, rfl⟩ : ∃ q, k = q + 1 := ⟨k - 1, by omega⟩
  rw [dowellaw29_checkGroups.j0, if_pos hx]
 by_cases h0 : n < 0
 ·refine ⟨2, fun k hk => ?_, ?_, fun h => by omega⟩
  ·unfold dowellaw29_checkGroups.f
   rw [if_pos h0, hj k true (by omega) rfl]
  ·unfold CG.f
   rw [if_pos (.inl h0)]
 ·by_cases h12 : 12 < n
  ·refine ⟨2, fun k hk => ?_, ?_, fun h => by omega⟩
   ·unfold dowellaw29_checkGroups.f
    rw [if_neg h0, hj k _ (by omega) (decide_eq_true h12)]
   ·unfold CG.f
    rw [if_pos (.inr h12)]
  ·obtain ⟨e, h1, h2, h3⟩ := cg_l0 (n := n) hl hf (by omega) l.length 0 (by omega) (fun y hy => by simp at hy)
   refine ⟨e, fun k hk => ?_, ?_, fun he => ⟨by omega, by omega, h3 he⟩⟩
   ·obtain ⟨k, rfl⟩ : ∃ q, k = q + 1 := ⟨k - 1, by omega⟩
    unfold dowellaw29_checkGroups.f
    rw [if_neg h0, decide_eq_false (by omega), dowellaw29_checkGroups.j0, if_neg (by decide), if_neg (by omega)]
    exact h1 k (by omega)
   ·unfold CG.f
    rw [if_neg (by omega), if_neg (by omega), if_pos ?_]
    ·exact h2
    ·rw [List.all_eq_true]
     intro x hx
     exact decide_eq_true (by have := (hf x hx).1; omega)
end
end Go.Proofs.YtbghfbhlbfcloaaDoor.PL
