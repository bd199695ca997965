/- Put together by this session's program pack.py. -/
import Derived.Below
import Derived.Deep.Draws
import Derived.Deep.AppendLies
import Derived.Maps.AppendAt
import Derived.OwnWalk
import Derived.Laws.BytesArg
import Derived.Laws.MakeOwn
import Derived.Laws.OwnMore
import Derived.Deep.OwnRows
import Derived.Tactics
import Derived.Lib.ConvBytes
import Derived.Laws.Slices
import Derived.WalkKit
import Derived.KernelRfl
import Derived.RowKit3
import Derived.Deep.LoopGhost
import Derived.Deep.QuietTactic
import Derived.BigQuiet
import Derived.WideLaws
import Derived.Deep.DeepCutAuto
import Derived.Deep.CutBlock
import Derived.Deep.RegionHeld3
import Derived.Laws.Rows
import Derived.Lib.AppendStr
import Derived.ArgAppend
import Derived.Laws.IdiomCopy
import Derived.OrdersHeld
import Derived.Laws.BitsLemmas
import Derived.RowKit
import Derived.Sort.Grow
import Derived.Shelf.SlicesQ.IndexFunc
import Derived.Shelf.GgClosure.StringsIndexFuncTop
import Derived.Shelf.SlGeneric
import Derived.Ground.SlgfProg
import Derived.Ground.GgwProg
import Derived.Laws.RangeAny
import Derived.Laws.RangeString
import Derived.Shelf.SlSortCmp.InsertionK
import Derived.Ground.SlsfProg
import Derived.Shelf.SlSortCmp.Insertion
import Derived.RangeFuncNested
import Derived.RangeFuncBound
import Derived.RangeFuncCalls
import Derived.RangeFuncLeaves
import Derived.Shelf.Abstract
import Derived.Shelf.RegionOpen
import Derived.OwnWalkIn
import Derived.TacticsInMore
import Derived.LoopNIn
import Derived.LoopIn
import Derived.OrdersIn
import Derived.RangeFuncKeeps
import Derived.Shelf.SlSortCmp.NoneTotal
import Derived.RangeFuncWrites
import Derived.WalkSpells
import Derived.Test.YtbghfbhlbfcloaaDoorGw0
import Derived.Test.YtbghfbhlbfcloaaDoorGp0
import Derived.Test.YtbghfbhlbfcloaaDoorGp1
import Derived.Test.YtbghfbhlbfcloaaDoorGp2
import Derived.Test.YtbghfbhlbfcloaaDoorGp3
import Derived.Test.YtbghfbhlbfcloaaDoorGp4
namespace Go.Proofs.YtbghfbhlbfcloaaDoor.PL
section
set_option linter.unusedVariables false
set_option linter.unusedSimpArgs false
open Go.RowKit Go.Proofs.YtbghfbhlbfcloaaDoorW.PrintWords Go.Proofs.YtbghfbhlbfcloaaDoorW.PrintLast Go.Proofs.YtbghfbhlbfcloaaDoorW.PrintMore
def wo12 (a b : Nat) : Nat := a &&& (4095 ^^^ b)
theorem bit12 (i : Nat) : (4095 : Nat).testBit i = decide (i < 12) := by
 rw [show (4095 : Nat) = 2 ^ 12 - 1 from rfl, Nat.testBit_two_pow_sub_one]
theorem lt12 {m i : Nat} (hm : m < 4096) (h : m.testBit i = true) : i < 12 := by
 rcases Nat.lt_or_ge i 12 with h1 | h1
 ·exact h1
 ·have h2 : m < 2 ^ i := Nat.lt_of_lt_of_le hm (Nat.pow_le_pow_right (n := 2) (by decide) h1 : 2 ^ 12 ≤ 2 ^ i)
  rw [Nat.testBit_lt_two_pow h2] at h
  cases h
theorem wo12_lt {a b : Nat} (ha : a < 4096) : wo12 a b < 4096 := Nat.lt_of_le_of_lt Nat.and_le_left ha
theorem wo12_bit {a b i : Nat} (ha : a < 4096) : (wo12 a b).testBit i = (a.testBit i && !b.testBit i) := by
 unfold wo12
 rw [Nat.testBit_and, Nat.testBit_xor, bit12]
 cases e : a.testBit i with
 | false => rfl
 | true =>
  rw [decide_eq_true (lt12 ha e)]
  simp
theorem andNotJ (a b : Nat) (ha : a < 4096) (hb : b < 4096) : Go.bits .andNot .u64 (a : Int) (b : Int) = ((wo12 a b : Nat) : Int) := by
 have ha' : a % 2 ^ IntKind.u64.bits = a := Nat.mod_eq_of_lt (by show a < 2 ^ 64; omega)
 have hb' : b % 2 ^ IntKind.u64.bits = b := Nat.mod_eq_of_lt (by show b < 2 ^ 64; omega)
 have key : a &&& (2 ^ IntKind.u64.bits - 1 - b) = wo12 a b := by
  show a &&& (2 ^ 64 - 1 - b) = wo12 a b
  refine Nat.eq_of_testBit_eq fun i => ?_
  rw [wo12_bit ha, Nat.testBit_and]
  cases e : a.testBit i with
  | false => rfl
  | true =>
   have hi := lt12 ha e
   rw [show 2 ^ 64 - 1 - b = 2 ^ 64 - (b + 1) by omega, Nat.testBit_two_pow_sub_succ (by omega), decide_eq_true (by omega)]
   rfl
 have hw := wraps_12 ((wo12 a b : Nat) : Int) (by omega) (by have := wo12_lt (b := b) ha; omega)
 simp only [Go.bits, BitVec.ofInt_natCast, BitVec.toNat_and, BitVec.toNat_not, BitVec.toNat_ofNat, ha', hb', key]
 exact hw
theorem E12_mem {m : Nat} {v : Int} : v ∈ E12 m ↔ ∃ i : Nat, v = (i : Int) ∧ i < 12 ∧ m.testBit i = true := by
 unfold E12
 rw [List.mem_map]
 constructor
 ·rintro ⟨i, hi, rfl⟩
  rw [List.mem_filter, List.mem_range] at hi
  exact ⟨i, rfl, hi⟩
 ·rintro ⟨i, rfl, h⟩
  exact ⟨i, by rw [List.mem_filter, List.mem_range]; exact h, rfl⟩
theorem E12_len (m : Nat) : (E12 m).length ≤ 12 := by
 unfold E12
 rw [List.length_map]
 have := List.length_filter_le (fun i => m.testBit i) (List.range 12)
 simpa using this
theorem E12_pair (m : Nat) : (E12 m).Pairwise (· < ·) := by
 unfold E12
 exact List.pairwise_map.2 ((List.Pairwise.filter _ List.pairwise_lt_range).imp fun h => by omega)
theorem E12_of {n : Int} (hn : n ≤ 12) {x : List Int} {m : Nat} (h : MkOf x m) (ho : OkM n x) : E12 m = x := by
 have hmem : ∀ a, a ∈ E12 m ↔ a ∈ x := fun a => by
  rw [E12_mem]
  constructor
  ·rintro ⟨i, rfl, _, hb⟩
   exact (h.2 i).1 hb
  ·intro ha
   have h1 := ho.1 a ha
   obtain ⟨i, rfl⟩ : ∃ i : Nat, a = (i : Int) := ⟨a.toNat, by omega⟩
   exact ⟨i, rfl, by omega, (h.2 i).2 ha⟩
 have hp : (E12 m).Perm x := (List.perm_ext_iff_of_nodup ((E12_pair m).imp fun h => by omega) (ho.2.imp fun h => by omega)).2 hmem
 exact List.Perm.eq_of_pairwise (fun a b _ _ h1 h2 => by omega) (E12_pair m) ho.2 hp
theorem E12_wo {m o : Nat} {y : List Int} (hm : m < 4096) (ho : MkOf y o) : ((E12 m).filter fun x => !decide (x ∈ y)) = E12 (wo12 m o) := by
 unfold E12
 rw [List.filter_map, List.filter_filter]
 congr 1
 refine List.filter_congr fun i _ => ?_
 rw [wo12_bit hm]
 simp only [Function.comp]
 have e : decide (((i : Nat) : Int) ∈ y) = o.testBit i := by
  cases e : o.testBit i with
  | true => exact decide_eq_true ((ho.2 i).1 e)
  | false => exact decide_eq_false fun h => by rw [(ho.2 i).2 h] at e; cases e
 rw [e]
 exact Bool.and_comm _ _
section
variable {l : List S57} {n : Int}
theorem own_both (hl : l.length ≤ 8) (hn : n ≤ 12) (hg : ∀ x ∈ l, OkM n x.f1 ∧ x.f1.length ≤ 10) (hd : ∀ i k (hi : i < l.length) (hk : k < l.length), i ≠ k → l[i].f1 ≠ l[k].f1) (i : Nat) (hi : i < l.length) : ∀ (c j m : Nat), j + c = l.length → m < 4096 →
  ∃ m' : Nat, (∀ k, 60 + c ≤ k → zB6.l0 k l (i : Int) (m : Int) l (l.length : Int) (j : Int) = some (E12 m', 0)) ∧ ∀ k, 2100 + c ≤ k → zB8.l0 k l (i : Int) (E12 m) (j : Int) = some (E12 m')
 | 0, j, m, hj, hm => by
  refine ⟨m, fun k hk => ?_, fun k hk => ?_⟩
  ·obtain ⟨k, rfl⟩ : ∃ q, k = q + 1 := ⟨k - 1, by omega⟩
   rw [zB6.l0, if_neg (by omega), listed12_f k (by omega) m hm, Option.bind_some]
  ·obtain ⟨k, rfl⟩ : ∃ q, k = q + 1 := ⟨k - 1, by omega⟩
   rw [zB8.l0, if_neg (by omega)]
 | c + 1, j, m, hj, hm => by
  have hjl : j < l.length := by omega
  have gi := hg _ (List.getElem_mem hi)
  have gj := hg _ (List.getElem_mem hjl)
  have hin : ∀ k, 20 ≤ k → zBr.f k (zA6 l j).f0 (zA6 l j).f1 (zA6 l i).f0 (zA6 l i).f1 = some (inL (zA6 l j).f1 (zA6 l i).f1) := fun k hk => inside_f hn (by rw [rdG l j hjl]; exact gj) (by rw [rdG l i hi]; exact gi) k hk
  obtain ⟨o, ho, hof⟩ := mask_f (zA6 l j).f1 (by rw [rdG l j hjl]; omega) (fun a ha => by rw [rdG l j hjl] at ha; exact ⟨(gj.1.1 a ha).1, by have := (gj.1.1 a ha).2; omega⟩)
  have hlj : (zA6 l j).f1.length ≤ 10 := by rw [rdG l j hjl]; exact gj.2
  have hli : (zA6 l i).f1.length ≤ 10 := by rw [rdG l i hi]; exact gi.2
  by_cases h1 : inL (zA6 l j).f1 (zA6 l i).f1 = true
  ·obtain ⟨m', h2, h3⟩ := own_both hl hn hg hd i hi c (j + 1) (wo12 m o) (by omega) (wo12_lt hm)
   have hij : j ≠ i := fun e => by
    subst e
    unfold inL at h1
    simp at h1
   have hall : ((zA6 l j).f1.all fun a => decide (a ∈ (zA6 l i).f1)) = true := by
    unfold inL at h1
    rw [Bool.and_eq_true] at h1
    exact h1.2
   refine ⟨m', fun k hk => ?_, fun k hk => ?_⟩
   ·obtain ⟨k, rfl⟩ : ∃ q, k = q + 1 := ⟨k - 1, by omega⟩
    rw [zB6.l0, if_pos (by omega), if_pos (by omega), if_pos (by omega), if_pos (by omega), if_pos (by omega), hin k (by omega), Option.bind_some, if_pos h1, hof k (by omega), Option.bind_some, andNotJ m o hm ho.1, wr1 j (by omega)]
    exact h2 k (by omega)
   ·obtain ⟨k, rfl⟩ : ∃ q, k = q + 1 := ⟨k - 1, by omega⟩
    have hml := E12_len m
    rw [zB8.l0, if_pos (by omega), if_neg (by omega), if_pos (by omega), if_pos (by omega), if_pos (by omega), within_f _ _ (by omega) (by omega) k (by omega), Option.bind_some, if_pos hall, without_f k _ _ (by omega) (by omega) (by omega), Option.bind_some, E12_wo hm ho, wr1 j (by omega)]
    exact h3 k (by omega)
  ·obtain ⟨m', h2, h3⟩ := own_both hl hn hg hd i hi c (j + 1) m (by omega) hm
   refine ⟨m', fun k hk => ?_, fun k hk => ?_⟩
   ·obtain ⟨k, rfl⟩ : ∃ q, k = q + 1 := ⟨k - 1, by omega⟩
    rw [zB6.l0, if_pos (by omega), if_pos (by omega), if_pos (by omega), if_pos (by omega), if_pos (by omega), hin k (by omega), Option.bind_some, if_neg h1, wr1 j (by omega)]
    exact h2 k (by omega)
   ·obtain ⟨k, rfl⟩ : ∃ q, k = q + 1 := ⟨k - 1, by omega⟩
    rw [zB8.l0, if_pos (by omega), wr1 j (by omega)]
    by_cases hij : j = i
    ·rw [if_pos (by omega)]
     exact h3 k (by omega)
    ·have hne := hd j i hjl hi hij
     have hall : ¬ ((zA6 l j).f1.all fun a => decide (a ∈ (zA6 l i).f1)) = true := fun h => h1 (by
      unfold inL
      rw [h, rdG l j hjl, rdG l i hi, decide_eq_true hne]
      rfl)
     rw [if_neg (by omega), if_pos (by omega), if_pos (by omega), if_pos (by omega), within_f _ _ (by omega) (by omega) k (by omega), Option.bind_some, if_neg hall]
     exact h3 k (by omega)
end
def insR {α : Type} (lt : α → α → Bool) (x : α) : List α → List α → List α
 | [], s => x :: s
 | y :: rp, s => if lt x y = true then insR lt x rp (y :: s) else rp.reverse ++ y :: x :: s
def insA {α : Type} (lt : α → α → Bool) : List α → List α → List α
 | o, [] => o
 | o, x :: r => insA lt (insR lt x o.reverse []) r
theorem insR_map {α β : Type} (f : α → β) (lt : α → α → Bool) (lt' : β → β → Bool) (h : ∀ a b, lt' (f a) (f b) = lt a b) (x : α) : ∀ (rp s : List α), (insR lt x rp s).map f = insR lt' (f x) (rp.map f) (s.map f)
 | [], s => rfl
 | y :: rp, s => by
  rw [List.map_cons, insR, insR, h]
  by_cases hq : lt x y = true
  ·rw [if_pos hq, if_pos hq, insR_map f lt lt' h x rp (y :: s)]
   rfl
  ·rw [if_neg hq, if_neg hq]
   simp
theorem insA_map {α β : Type} (f : α → β) (lt : α → α → Bool) (lt' : β → β → Bool) (h : ∀ a b, lt' (f a) (f b) = lt a b) : ∀ (r o : List α), (insA lt o r).map f = insA lt' (o.map f) (r.map f)
 | [], _ => rfl
 | x :: r, o => by
  rw [insA, insA_map f lt lt' h r, insR_map f lt lt' h x, List.map_cons, insA, List.map_reverse]
  rfl
theorem insR_len {α : Type} (lt : α → α → Bool) (x : α) : ∀ (rp s : List α), (insR lt x rp s).length = rp.length + s.length + 1
 | [], s => by simp [insR]
 | y :: rp, s => by
  rw [insR]
  split
  ·rw [insR_len lt x rp]
   simp only [List.length_cons]
   omega
  ·simp only [List.length_append, List.length_reverse, List.length_cons]
   omega
theorem insR_mem {α : Type} (lt : α → α → Bool) (x : α) : ∀ (rp s : List α) (v : α), v ∈ insR lt x rp s → v = x ∨ v ∈ rp ∨ v ∈ s
 | [], s, v, h => by
  rcases List.mem_cons.1 h with h | h
  ·exact .inl h
  ·exact .inr (.inr h)
 | y :: rp, s, v, h => by
  rw [insR] at h
  split at h
  ·rcases insR_mem lt x rp (y :: s) v h with h | h | h
   ·exact .inl h
   ·exact .inr (.inl (by simp [h]))
   ·rcases List.mem_cons.1 h with h | h
    ·exact .inr (.inl (by simp [h]))
    ·exact .inr (.inr h)
  ·rcases List.mem_append.1 h with h | h
   ·exact .inr (.inl (by simp [List.mem_reverse.1 h]))
   ·rcases List.mem_cons.1 h with h | h
    ·exact .inr (.inl (by simp [h]))
    ·rcases List.mem_cons.1 h with h | h
     ·exact .inl h
     ·exact .inr (.inr h)
theorem inner_l {α : Type} [Inhabited α] (lt : α → α → Bool) (x : α) : ∀ (rp s : List α), Go.Sort.insInner lt 0 rp.length (rp.reverse ++ x :: s).toArray = (insR lt x rp s).toArray
 | [], s => rfl
 | y :: rp, s => by
  have hd : ((y :: rp).reverse ++ x :: s) = rp.reverse ++ y :: x :: s := by simp
  have h1 : (rp.reverse ++ y :: x :: s).toArray[rp.length + 1]! = x := by
   rw [getElem!_pos (rp.reverse ++ y :: x :: s).toArray (rp.length + 1) (by simp)]
   simp
  have h0 : (rp.reverse ++ y :: x :: s).toArray[rp.length]! = y := by
   rw [getElem!_pos (rp.reverse ++ y :: x :: s).toArray rp.length (by simp)]
   simp
  rw [hd, List.length_cons, Go.Sort.insInner, h1, h0, insR]
  by_cases hq : lt x y = true
  ·rw [if_pos hq, if_pos (by simp [hq])]
   have hs : Go.Sort.swp (rp.reverse ++ y :: x :: s).toArray (rp.length + 1) rp.length = (rp.reverse ++ x :: y :: s).toArray := by
    unfold Go.Sort.swp
    rw [h1, h0, List.setIfInBounds_toArray, List.setIfInBounds_toArray]
    congr 1
    rw [List.set_append_right _ _ (by simp), List.set_append_right _ _ (by simp)]
    simp
   rw [hs]
   exact inner_l lt x rp (y :: s)
  ·rw [if_neg hq, if_neg (by simp [hq])]
theorem outer_l {α : Type} [Inhabited α] (lt : α → α → Bool) : ∀ (r o : List α) (b : Nat), b = o.length + r.length → Go.Sort.insOuter lt 0 b o.length (o ++ r).toArray = (insA lt o r).toArray
 | [], o, b, hb => by
  rw [Go.Sort.insOuter, if_neg (by simp at hb; omega), List.append_nil]
  rfl
 | x :: r, o, b, hb => by
  rw [List.length_cons] at hb
  rw [Go.Sort.insOuter, if_pos (by omega)]
  have h1 := inner_l lt x o.reverse r
  rw [List.reverse_reverse, List.length_reverse] at h1
  have h2 : ∀ (rp s r : List α), insR lt x rp (s ++ r) = insR lt x rp s ++ r := by
   intro rp
   induction rp with
   | nil => intro s r; rfl
   | cons y rp ih =>
    intro s r
    rw [insR, insR]
    split
    ·exact ih (y :: s) r
    ·simp
  have h3 := h2 o.reverse [] r
  rw [List.nil_append] at h3
  rw [h1, h3]
  have hl := insR_len lt x o.reverse []
  rw [List.length_reverse] at hl
  have ih := outer_l lt r (insR lt x o.reverse []) b (by rw [hl]; simp; omega)
  rw [hl] at ih
  exact ih
theorem srt_f {l : List S57} {m : Nat} (hm : l.length = m + 1) : srt l = insA (fun a b => decide (keyI l a - keyI l b < 0)) [] (rngI (m + 1)) := by
 rw [srt_cons hm]
 have hfr : List.finRange (m + 1) = 0 :: (List.finRange m).map Fin.succ := List.finRange_succ
 have h1 := outer_l (ltOf (cfF l m)) ((List.finRange m).map Fin.succ) [(0 : Fin (m + 1))] (m + 1) (by simp; omega)
 have h2 : srtA l m = (insA (ltOf (cfF l m)) [] (List.finRange (m + 1))).toArray := by
  unfold srtA Go.Sort.insertionSort
  rw [hfr]
  exact h1
 rw [h2]
 have h3 := insA_map (fun j : Fin (m + 1) => ((j.val : Nat) : Int)) (ltOf (cfF l m)) (fun a b => decide (keyI l a - keyI l b < 0)) (fun a b => rfl) (List.finRange (m + 1)) []
 rw [rng_fin] at h3
 exact h3
section
variable {l : List S57} {R : Option (List Int)}
def ltI (l : List S57) (a b : Int) : Bool := decide (keyI l a - keyI l b < 0)
theorem ord_l1 (hl : l.length ≤ 8) (i : Nat) (hi : i < l.length) (N : Nat) : ∀ (rp s : List Int), rp.length + s.length ≤ 8 → (∀ v ∈ rp, 0 ≤ v ∧ v < l.length) →
  (∀ k, N ≤ k → zAn.l0 k l (insR (ltI l) (i : Int) rp s) ((i + 1 : Nat) : Int) = R) → ∀ k, N + rp.length < k → zAn.l1 k l (rp.reverse ++ s) (i : Int) (rp.length : Int) = R
 | [], s, hs, _, H, k, hk => by
  obtain ⟨k, rfl⟩ : ∃ q, k = q + 1 := ⟨k - 1, by omega⟩
  have h := H k (by omega)
  simp only [List.length_nil] at hs
  rw [zAn.l1, if_neg (by simp), Option.bind_some, if_pos (by simp), if_pos (by simp), Option.bind_some, if_pos (by simp), Option.bind_some, if_pos (by simp), Option.bind_some, Option.bind_some, if_pos (by simp; omega), wr1 i (by omega)]
  simpa [insR] using h
 | y :: rp, s, hs, hv, H, k, hk => by
  obtain ⟨k, rfl⟩ : ∃ q, k = q + 1 := ⟨k - 1, by omega⟩
  simp only [List.length_cons] at hs hk
  have hy := hv y (by simp)
  have hd : (y :: rp).reverse ++ s = rp.reverse ++ y :: s := by simp
  have hlen : (rp.reverse ++ y :: s).length = rp.length + s.length + 1 := by simp; omega
  have hr : rd (rp.reverse ++ y :: s) (rp.length : Int) = y := by
   rw [rdI _ rp.length (by rw [hlen]; omega)]
   simp
  rw [hd, List.length_cons, zAn.l1, if_pos (by omega), wm1 rp.length (by omega), if_pos (by omega), if_pos (by rw [hlen]; omega), hr, if_pos (by omega), if_pos (by omega), if_pos (by omega), if_pos (by omega)]
  rw [insR] at H
  by_cases hq : ltI l (i : Int) y = true
  ·rw [if_pos hq] at H
   have hc : ((zA6 l y).f1.length : Int) > ((zA6 l (i : Int)).f1.length : Int) := by
    unfold ltI keyI at hq
    have := of_decide_eq_true hq
    omega
   rw [if_pos hc]
   exact ord_l1 hl i hi N rp (y :: s) (by simp only [List.length_cons]; omega) (fun v h => hv v (by simp [h])) H k (by omega)
  ·rw [if_neg hq] at H
   have hc : ¬ ((zA6 l y).f1.length : Int) > ((zA6 l (i : Int)).f1.length : Int) := fun h => hq (by
    unfold ltI keyI
    exact decide_eq_true (by omega))
   have h := H k (by omega)
   have ht : (rp.reverse ++ y :: s).take (rp.length + 1) = rp.reverse ++ [y] := by
    rw [show rp.reverse ++ y :: s = (rp.reverse ++ [y]) ++ s by simp, List.take_append_of_le_length (by simp)]
    rw [List.take_of_length_le (by simp)]
   have hdr : (rp.reverse ++ y :: s).drop (rp.length + 1) = s := by
    rw [show rp.reverse ++ y :: s = (rp.reverse ++ [y]) ++ s by simp, List.drop_append_of_le_length (by simp), List.drop_eq_nil_of_le (by simp)]
    rfl
   rw [if_neg hc, Option.bind_some, if_pos (by omega), if_pos (by rw [hlen]; omega), Option.bind_some, Int.toNat_natCast, ht, if_pos (by simp; omega), Option.bind_some, if_pos (by simp; omega), Option.bind_some, hdr, Option.bind_some, if_pos (by simp; omega), wr1 i (by omega)]
   simpa using h
theorem ord_l0 (hl : l.length ≤ 8) : ∀ (c i : Nat) (o : List Int), i + c = l.length → o.length = i → (∀ v ∈ o, 0 ≤ v ∧ v < l.length) → ∀ k, 20 + 20 * c ≤ k → zAn.l0 k l o (i : Int) = some (insA (ltI l) o ((List.range' i c).map fun i : Nat => (i : Int)))
 | 0, i, o, hi, ho, _, k, hk => by
  obtain ⟨k, rfl⟩ : ∃ q, k = q + 1 := ⟨k - 1, by omega⟩
  rw [zAn.l0, if_neg (by omega)]
  rfl
 | c + 1, i, o, hi, ho, hv, k, hk => by
  obtain ⟨k, rfl⟩ : ∃ q, k = q + 1 := ⟨k - 1, by omega⟩
  rw [zAn.l0, if_pos (by omega), List.range'_succ, List.map_cons, insA]
  have hlen := insR_len (ltI l) (i : Int) o.reverse []
  rw [List.length_reverse] at hlen
  have h := ord_l1 (l := l) (R := some (insA (ltI l) (insR (ltI l) (i : Int) o.reverse []) ((List.range' (i + 1) c).map fun i : Nat => (i : Int)))) hl i (by omega) (20 + 20 * c) o.reverse [] (by simp; omega) (fun v hv' => hv v (List.mem_reverse.1 hv')) (fun k hk => by
   refine ord_l0 hl c (i + 1) _ (by omega) (by rw [hlen]; simp; omega) (fun v hv' => ?_) k hk
   rcases insR_mem (ltI l) (i : Int) o.reverse [] v hv' with h | h | h
   ·exact ⟨by omega, by omega⟩
   ·exact hv v (List.mem_reverse.1 h)
   ·simp at h) k (by rw [List.length_reverse]; omega)
  rw [List.reverse_reverse, List.append_nil, List.length_reverse] at h
  exact h
theorem ord_f (hl : l.length ≤ 8) (k : Nat) (hk : 200 ≤ k) : zAn.f k l = some (srt l) := by
 have h := ord_l0 hl l.length 0 [] (by omega) rfl (fun v hv => by simp at hv) k (by omega)
 unfold zAn.f
 rw [show zAn.l0 k l [] 0 = _ from h]
 congr 1
 cases hm : l.length with
 | zero => rw [srt_nil hm]; rfl
 | succ m =>
  rw [srt_f hm]
  unfold rngI
  rw [List.range_eq_range']
  rfl
end
theorem lg_l0 {l : List S57} (hl : l.length ≤ 8) (hg : ∀ x ∈ l, x.f1.length ≤ 10) (hd : ∀ i k (hi : i < l.length) (hk : k < l.length), i ≠ k → l[i].f1 ≠ l[k].f1) (x2 : Int) (x12 : List Int) (x13 : Int) (N : Nat) (hN : 3000 ≤ N)
  (H : ∀ k, N ≤ k → (if x2 < 0 then zA4.j4 k l x2 x12 x13 true else zA4.j4 k l x2 x12 x13 (decide (x2 ≥ (l.length : Int)))) = some true) : ∀ (c i : Nat), i + c = l.length → ∀ k, N + c < k → zA4.l0 k l x2 (parL l) x12 x13 (i : Int) = some true
 | 0, i, hi, k, hk => by
  obtain ⟨k, rfl⟩ : ∃ q, k = q + 1 := ⟨k - 1, by omega⟩
  rw [zA4.l0, if_neg (by omega)]
  exact H k (by omega)
 | c + 1, i, hi, k, hk => by
  obtain ⟨k, rfl⟩ : ∃ q, k = q + 1 := ⟨k - 1, by omega⟩
  have hil : i < l.length := by omega
  have hpl : (parL l).length = l.length := by unfold parL; simp
  have hpi : rd (parL l) (i : Int) = bsF l i l.length 0 (-1) := by
   rw [rdI _ i (by omega)]
   unfold parL
   simp
  have hp : zAl.f k l (i : Int) = some (bsF l i l.length 0 (-1)) := by
   unfold zAl.f
   exact rpar_l hl hg hd i hil l.length 0 (-1) (by omega) (.inl rfl) k (by omega)
  rw [zA4.l0, if_pos (by omega), if_pos (by omega), if_pos (by omega), hp, Option.bind_some, hpi, if_pos rfl, wr1 i (by omega)]
  exact lg_l0 hl hg hd x2 x12 x13 N hN H c (i + 1) (by omega) k (by omega)
theorem groups_plain (l : List S57) (n i : Int) : zA4.f 20000 l n i = some true := by
 have hkn : dowellaw29_known.f = some true := rfl
 unfold zA4.f
 rw [hkn, Option.bind_some, if_pos rfl, few_f l 20000 (by decide), Option.bind_some]
 cases hfew : fewB l with
 | false =>
  change zA4.j0 (19999 + 1) l n i true = some true
  rw [zA4.j0, if_pos rfl, hkn, Option.bind_some]
 | true =>
  obtain ⟨hl, hf⟩ := few_of hfew
  change zA4.j0 (19999 + 1) l n i false = some true
  obtain ⟨e, h1, h2, h3⟩ := checkGroups_f n hfew
  have h33 : zB7.f (List.replicate 33 z57) 3 = some 6 := rfl
  have hcg : zB7.f l n = some e := h2
  by_cases h0 : e = 0
  ·subst h0
   obtain ⟨hn0, hn, hg⟩ := h3 rfl
   have hg' : ∀ x ∈ l, OkM n x.f1 ∧ x.f1.length ≤ 10 := fun x hx => ⟨(hg x hx).1, (hf x hx).1⟩
   have hg2 : ∀ x ∈ l, x.f1.length ≤ 10 := fun x hx => (hf x hx).1
   have hd := cgf_distinct h2
   have hP : zAg.f 19999 l n = some (parL l, 0) := by
    unfold zAg.f
    rw [hcg, Option.bind_some, if_pos rfl]
    have := par_l0 hl hn hg' l.length 0 (by omega) 19999 (by omega)
    rw [List.take_zero] at this
    exact this
   have hO : liaison_Order.f l n = some (srt l, 0) := by
    show OD.f l n = _
    unfold OD.f
    rw [h2, Option.bind_some, if_pos rfl, if_pos (by omega)]
   have hpl : (parL l).length = l.length := by unfold parL; simp
   have hsl : (srt l).length = l.length := by
    cases hm : l.length with
    | zero => rw [srt_nil hm]; rfl
    | succ m => rw [srt_cons hm, List.length_map, Array.length_toList, srtA_size]
   by_cases hi : i < 0 ∨ (l.length : Int) ≤ i
   ·have hW : zB6.f 19999 l n i = some ([], 10) := by
     unfold zB6.f
     rw [hcg, Option.bind_some, if_pos rfl]
     rcases hi with hi | hi
     ·rw [if_pos hi]
      rfl
     ·by_cases hi0 : i < 0
      ·rw [if_pos hi0]
       rfl
      ·rw [if_neg hi0, decide_eq_true hi]
       rfl
    rw [zA4.j0, if_neg (by decide), h1 19999 (by decide), Option.bind_some, hP, Option.bind_some, hO, Option.bind_some, hW, Option.bind_some, hcg, Option.bind_some, if_pos rfl, if_pos rfl, if_pos rfl, if_pos (by decide), h33, Option.bind_some]
    change zA4.j1 (19998 + 1) l i 0 (parL l) (srt l) [] 10 false = some true
    rw [zA4.j1, if_neg (by decide), if_pos rfl, if_pos (by omega), ord_f hl 19998 (by decide), Option.bind_some, same_f 19998 _ _ (by omega) (by omega), Option.bind_some, decide_eq_true rfl]
    change zA4.j2 (19997 + 1) l i (parL l) [] 10 false = some true
    rw [zA4.j2, if_neg (by decide)]
    refine lg_l0 hl hg2 hd i [] 10 3000 (Nat.le_refl _) (fun k hk => ?_) l.length 0 (by omega) 19997 (by omega)
    obtain ⟨k, rfl⟩ : ∃ q, k = q + 1 := ⟨k - 1, by omega⟩
    have hj : zA4.j4 (k + 1) l i [] 10 true = some true := by
     rw [zA4.j4, if_pos rfl]
     rfl
    by_cases hi0 : i < 0
    ·rw [if_pos hi0, hj]
    ·rw [if_neg hi0, decide_eq_true (by omega), hj]
   ·obtain ⟨v, rfl⟩ : ∃ v : Nat, i = (v : Int) := ⟨i.toNat, by omega⟩
    have hv : v < l.length := by omega
    have gv := hg' _ (List.getElem_mem hv)
    obtain ⟨m, hm, hmf⟩ := mask_f l[v].f1 (by omega) (fun a ha => ⟨(gv.1.1 a ha).1, by have := (gv.1.1 a ha).2; omega⟩)
    obtain ⟨m', hw1, hw2⟩ := own_both hl hn hg' hd v hv l.length 0 m (by omega) hm.1
    have hW : zB6.f 19999 l n (v : Int) = some (E12 m', 0) := by
     unfold zB6.f
     rw [hcg, Option.bind_some, if_pos rfl, if_neg (by omega), decide_eq_false (by omega)]
     change zB6.j0 (19998 + 1) l (v : Int) false = _
     rw [zB6.j0, if_neg (by decide), if_pos (by omega), if_pos (by omega), rdG l v hv, hmf 19998 (by omega), Option.bind_some]
     exact hw1 19998 (by omega)
    have hRW : ∀ k, 3000 ≤ k → zB8.f k l (v : Int) = some (E12 m') := fun k hk => by
     unfold zB8.f
     rw [if_pos (by omega), if_pos (by omega), rdG l v hv, ← E12_of hn hm gv.1]
     exact hw2 k (by omega)
    have hml := E12_len m'
    rw [zA4.j0, if_neg (by decide), h1 19999 (by decide), Option.bind_some, hP, Option.bind_some, hO, Option.bind_some, hW, Option.bind_some, hcg, Option.bind_some, if_pos rfl, if_pos rfl, if_pos rfl, if_pos (by decide), h33, Option.bind_some]
    change zA4.j1 (19998 + 1) l (v : Int) 0 (parL l) (srt l) (E12 m') 0 false = some true
    rw [zA4.j1, if_neg (by decide), if_pos rfl, if_pos (by omega), ord_f hl 19998 (by decide), Option.bind_some, same_f 19998 _ _ (by omega) (by omega), Option.bind_some, decide_eq_true rfl]
    change zA4.j2 (19997 + 1) l (v : Int) (parL l) (E12 m') 0 false = some true
    rw [zA4.j2, if_neg (by decide)]
    refine lg_l0 hl hg2 hd (v : Int) (E12 m') 0 3000 (Nat.le_refl _) (fun k hk => ?_) l.length 0 (by omega) 19997 (by omega)
    obtain ⟨k, rfl⟩ : ∃ q, k = q + 1 := ⟨k - 1, by omega⟩
    rw [if_neg (by omega), decide_eq_false (by omega), zA4.j4, if_neg (by decide)]
    obtain ⟨k, rfl⟩ | hk0 : (∃ q, k = q + 3000) ∨ k < 3000 := by
     rcases Nat.lt_or_ge k 3000 with h | h
     ·exact .inr h
     ·exact .inl ⟨k - 3000, by omega⟩
    ·rw [hRW _ (by omega), Option.bind_some, same_f _ _ _ (by omega) (by omega), Option.bind_some, decide_eq_true rfl, if_pos rfl]
     rfl
    ·obtain rfl : k = 2999 := by omega
     have h9 : zB8.f 2999 l (v : Int) = some (E12 m') := by
      unfold zB8.f
      rw [if_pos (by omega), if_pos (by omega), rdG l v hv, ← E12_of hn hm gv.1]
      exact hw2 2999 (by omega)
     rw [h9, Option.bind_some, same_f _ _ _ (by omega) (by omega), Option.bind_some, decide_eq_true rfl, if_pos rfl]
     rfl
  ·have hP : zAg.f 19999 l n = some ([], e) := by
    unfold zAg.f
    rw [hcg, Option.bind_some, if_neg h0]
   have hO : liaison_Order.f l n = some ([], e) := by
    show OD.f l n = _
    unfold OD.f
    rw [h2, Option.bind_some, if_neg h0]
   have hW : zB6.f 19999 l n i = some ([], e) := by
    unfold zB6.f
    rw [hcg, Option.bind_some, if_neg h0]
   rw [zA4.j0, if_neg (by decide), h1 19999 (by decide), Option.bind_some, hP, Option.bind_some, hO, Option.bind_some, hW, Option.bind_some, hcg, Option.bind_some, if_pos rfl, if_pos rfl, if_pos rfl, if_pos (by decide), h33, Option.bind_some]
   change zA4.j1 (19998 + 1) l i e [] [] [] e false = some true
   rw [zA4.j1, if_neg (by decide), if_neg h0]
   have hz : wrap64 (wrap64 ((([] : List Int).length : Int) + (([] : List Int).length : Int)) + (([] : List Int).length : Int)) = 0 := by simp [wrap64]
   rw [if_pos hz, beq_self_eq_true]
end
end Go.Proofs.YtbghfbhlbfcloaaDoor.PL
