/- Put together by this session's program pack.py. -/
import Derived.LaidMore
import Derived.MakeChecks
import Derived.Stop.LaidErr
import Derived.Lib.LaidTab
import Derived.ProofKit
import Derived.OpenShut
import Derived.Stop.Joined
import Derived.Deep.Slices
import Derived.ChangeSame
import Derived.Carry
import Derived.WalkKit
import Derived.ShutString
import Derived.ChangeOld
import Derived.Below
import Derived.SizedLaws
import Derived.SevenTiedAt
import Derived.Test.YtbghfbhlbfcloaaDoorGp0
import Derived.Test.YtbghfbhlbfcloaaDoorGp1
import Derived.Test.YtbghfbhlbfcloaaDoorGp2
import Derived.Test.YtbghfbhlbfcloaaDoorGp3
import Derived.Test.YtbghfbhlbfcloaaDoorGp4
import Derived.Test.YtbghfbhlbfcloaaDoorGp5
import Derived.Test.YtbghfbhlbfcloaaDoorRows
import Derived.Test.YtbghfbhlbfcloaaDoorCards
import Derived.Test.YtbghfbhlbfcloaaDoorTie
namespace Go.Proofs.YtbghfbhlbfcloaaDoor
section
set_option linter.unusedVariables false
set_option linter.unusedSimpArgs false
open Go.ChangeShapes Go.WideShapes Go.ChangeAt Go.WideMaps Go.WideElems Go.RowKit Go.Proofs.YtbghfbhlbfcloaaDoorW.PrintWords

theorem ownK : ownKnob Tryd.prog.godebug = none := by kernel_rfl
theorem gTab : Tryd.prog.globalNamed "math/bits.deBruijn64tab" = some 1 := by kernel_rfl
theorem tTab : (Tryd.prog.globals[1]?).map (·.type) = some 131 := by kernel_rfl
theorem cells5 : Tryd.prog.cellsOf 5 = 1 := by kernel_rfl
theorem cells131 : Tryd.prog.cellsOf 131 = 64 := by kernel_rfl
def laid2 : List (String × DataW Unit) := [("math/bits.deBruijn32tab", Rows.laid_math_bits_deBruijn32tab), ("math/bits.deBruijn64tab", Rows.laid_math_bits_deBruijn64tab)]
theorem laid64 : Rows.laid_math_bits_deBruijn64tab (H := Unit) = Lib.tabData .u8 PL.tabL := rfl
theorem door_met (os : Os) (args : Array Value) : laidMetH Tryd.prog laid2 ((World.doorLaid Tryd.prog 400 os).forCall (fun _ _ => 0) ⟨#[], args, []⟩).memory :=
  laidMetH_of_parts3 (fuel := 8) (laidMet_of_run' 8 (by kernel_rfl) (by kernel_rfl)) (by kernel_rfl) (by kernel_rfl)
theorem tab_of {W : World} (h : laidMetH Tryd.prog laid2 W) : Kd.C (Kd.int .u8) W (some PL.tabA) PL.tabL.length PL.tabL := by
  rw [MakeChecks.laidMetH_plain _ _ _ (by kernel_rfl)] at h
  have h2 : laidMet Tryd.prog [("math/bits.deBruijn64tab", Lib.tabData .u8 PL.tabL)] W := by
    rw [← laid64]; exact laidMet.tail h
  have hT := Lib.tabIs_of_head gTab tTab Tryd.underlying131 Tryd.underlying5 cells5 cells131 h2
  refine ⟨rfl, by decide, fun _ => ⟨_, rfl, fun j p hj => ?_⟩⟩
  have hjl := (List.getElem?_eq_some_iff.1 hj).1
  refine ⟨[.int .u8 p], rfl, rfl, fun i u hu => ?_⟩
  have hc := hT.cell gTab j hjl
  rw [List.getD_eq_getElem?_getD, hj] at hc
  cases i with
  | zero =>
    cases hu
    have e : PL.tabA.add (j * (Kd.int .u8).sz + 0) = ⟨1, j, none⟩ := by
      have : (Kd.int .u8).sz = 1 := rfl
      rw [this, Nat.mul_one]
      simp [PL.tabA, Addr.add]
      exact fun h => h.symm
    rw [e]
    exact hc
  | succ i => simp at hu
end
end Go.Proofs.YtbghfbhlbfcloaaDoor
namespace Go.Proofs.YtbghfbhlbfcloaaDoor
section
set_option linter.unusedVariables false
set_option linter.unusedSimpArgs false
open Go.ChangeShapes Go.WideShapes Go.ChangeAt Go.WideMaps Go.WideElems Go.RowKit Go.Deep Go.Proofs.YtbghfbhlbfcloaaDoorW.PrintWords

theorem laidOutT : laidOutB Tryd.prog = true := by kernel_rfl
theorem cells57 : Tryd.prog.cellsOf 57 = 2 := by kernel_rfl
theorem cells9 : Tryd.prog.cellsOf 9 = 1 := by kernel_rfl
theorem cells23 : Tryd.prog.cellsOf 23 = 1 := by kernel_rfl
theorem cells3 : Tryd.prog.cellsOf 3 = 1 := by kernel_rfl
section
variable {H : Type} {enc : TypeId × Value → H} {W : World}
theorem ints_of {fuel : Nat} {cs : List Value} {x : DataW H × List MemPlace} (h : DataW.trod enc Tryd.prog W 0 (fun _ => true) true fuel 23 cs = some x) :
    ∃ (A : Option Addr) (xs : List Int) (c : Nat), cs = [.slice A xs.length c] ∧ xs.length ≤ c ∧ Kd.C (Kd.int .i64) W A xs.length xs := by
  rcases open_ints Tryd.underlying23 Tryd.underlying3 cells3 h with ⟨rfl, _⟩ | ⟨a, len, cap, zs, rfl, hb, hl, hm, hz, hx, hcell, hwz⟩
  · exact ⟨none, [], 0, rfl, Nat.le_refl _, rfl, by decide, fun h => absurd h (by decide)⟩
  · simp only [if_true] at hz
    have hlz : (zs.take len).length = len := by rw [List.length_take]; omega
    refine ⟨some a, zs.take len, cap, by rw [hlz], by omega, rfl, ?_, fun _ => ⟨a, rfl, fun j p hj => ?_⟩⟩
    · have hmx : maxLen ≤ 9223372036854775807 := by decide
      omega
    · have hjl : j < (zs.take len).length := (List.getElem?_eq_some_iff.1 hj).1
      refine ⟨[.int .i64 p], rfl, rfl, fun i u hu => ?_⟩
      cases i with
      | zero =>
        cases hu
        have e : (Kd.int .i64).sz = 1 := rfl
        rw [e, Nat.mul_one, Nat.add_zero, hcell j (by omega)]
        rw [List.getElem?_take_of_lt (by omega)] at hj
        rw [List.getD_eq_getElem?_getD, hj]
        rfl
      | succ i => simp at hu
theorem two_of : ∀ {cs : List Value}, cs.length = 2 → ∃ c0 c1, cs = [c0, c1]
  | [c0, c1], _ => ⟨c0, c1, rfl⟩
theorem group_of {fuel : Nat} {cs : List Value} {x : DataW H × List MemPlace} (h : DataW.trod enc Tryd.prog W 0 (fun _ => true) true fuel 57 cs = some x) : ∃ y : PL.S57, PL.k57.K W y cs ∧ cs.length = 2 := by
  obtain ⟨y0, y1, n, _, hl, h0, h1⟩ := trod_struct2 Tryd.underlying57 h
  rw [cells57] at hl
  obtain ⟨c0, c1, rfl⟩ := two_of hl
  have h0' : DataW.trod enc Tryd.prog W 0 (fun _ => true) true n 9 (List.take (Tryd.prog.cellsOf 9) [c0, c1]) = some y0 := h0
  have h1' : DataW.trod enc Tryd.prog W 0 (fun _ => true) true n 23 (List.take (Tryd.prog.cellsOf 23) [c1]) = some y1 := h1
  rw [cells9] at h0'
  rw [cells23] at h1'
  obtain ⟨s, hs, _, _⟩ := DataW.trod_string Tryd.underlying9 h0'
  obtain ⟨A, xs, c, hc, hle, hC⟩ := ints_of h1'
  have hs' : [c0] = [Value.string s] := hs
  have hc' : [c1] = [Value.slice A xs.length c] := hc
  injection hs' with hs' _
  injection hc' with hc' _
  subst hs'
  subst hc'
  exact ⟨⟨s, xs⟩, PL.k57_mk W ⟨s, xs⟩ hle hC, rfl⟩
instance : Inhabited (PL.S57 × List Value) := ⟨(⟨⟨#[]⟩, []⟩, [])⟩
theorem groups_of {A₀ : Option Addr} {n₀ c₀ : Nat} {d : DataW H} {p : List MemPlace} (hd : DataW.Trod enc Tryd.prog W 0 (fun _ => true) true 52 (.slice A₀ n₀ c₀) d p) :
    ∃ (A : Option Addr) (l : List PL.S57) (c : Nat), Value.slice A₀ n₀ c₀ = .slice A l.length c ∧ l.length ≤ c ∧ Kd.C PL.k57 W A l.length l := by
  obtain ⟨fuel, h⟩ := hd
  have nc : ∀ (A : Option Addr) (a b : Nat), [Value.slice A₀ n₀ c₀] = [.slice A a b] → Value.slice A₀ n₀ c₀ = .slice A a b := fun A a b e => by injection e
  rcases open_slice Tryd.underlying52 h with ⟨hc, _⟩ | ⟨a, len, cap, m, n, D, Pl, hc, hb, hl, hm, hmm, hx, hel⟩
  · exact ⟨none, [], 0, nc _ _ _ hc, Nat.le_refl _, rfl, by decide, fun h => absurd h (by decide)⟩
  · simp only [if_true] at hmm
    subst hmm
    rw [cells57] at hel
    have each : ∀ i, i < len → ∃ y : PL.S57 × List Value, PL.k57.K W y.1 y.2 ∧ y.2.length = 2 ∧ ∀ j u, y.2[j]? = some u → W.cell? (a.add (i * 2 + j)) = some u := fun i hi => by
      obtain ⟨cs', h1, h2⟩ := hel i (by omega)
      obtain ⟨_, hlen, hcell⟩ := World.cells?_some h1
      obtain ⟨y, hy, _⟩ := group_of h2
      refine ⟨(y, cs'), hy, hlen, fun j u hu => ?_⟩
      have hj : j < 2 := by rw [← hlen]; exact (List.getElem?_eq_some_iff.1 hu).1
      rw [← hu, ← hcell j hj, Addr.add_add]
    obtain ⟨Y, hY⟩ := choose_lt each
    have hlen : ((List.range len).map fun i => (Y i).1).length = len := by simp
    refine ⟨some a, (List.range len).map fun i => (Y i).1, m, by rw [hlen]; exact nc _ _ _ hc, by omega, rfl, ?_, fun _ => ⟨a, rfl, fun j p hj => ?_⟩⟩
    · have hmx : maxLen ≤ 9223372036854775807 := by decide
      omega
    · have hjl : j < len := by
        have := (List.getElem?_eq_some_iff.1 hj).1
        omega
      rw [List.getElem?_map, List.getElem?_range hjl] at hj
      simp only [Option.map_some, Option.some.injEq] at hj
      subst hj
      obtain ⟨h1, h2, h3⟩ := hY j hjl
      exact ⟨(Y j).2, h2, h1, h3⟩
end
end
end Go.Proofs.YtbghfbhlbfcloaaDoor
namespace Go.Proofs.YtbghfbhlbfcloaaDoor
section
set_option linter.unusedVariables false
set_option linter.unusedSimpArgs false
open Go.ChangeShapes Go.WideShapes Go.ChangeAt Go.WideMaps Go.WideElems Go.RowKit

set_option maxRecDepth 100000 in
theorem groups_lifted (os : Os) (started : os.Started) (H : Type) (enc : TypeId × Value → H) :
    ReturnsInHanded {} Tryd.checked os 6 .any (fun w args => (Rows.liaisonGroupsSpec.pre enc Tryd.prog Tryd.f6 [] false w args ∧ laidMetH Tryd.prog laid2 w) ∧ sizedMet enc Tryd.prog Tryd.f6 (OpenSpec.ofChange Rows.liaisonGroupsSpec) false w args)
      (Rows.liaisonGroupsSpec.post enc Tryd.prog Tryd.f6 false true false false) := by
  refine returnsInHanded_of_change_and (C := Tryd.checked) (X := fun w _ => laidMetH Tryd.prog laid2 w) (fun _ _ _ hh h => h.of_heap hh) ownK started (by kernel_rfl) Tryd.func6
    (ChangeSpec.witness_shaped (enc := enc) (C := Tryd.checked) (os := os) (X := fun w _ => laidMetH Tryd.prog laid2 w) false (World.doorLaid Tryd.prog 400 os) #[.slice none 0 0, .int .i64 0, .int .i64 0] 8 rfl (World.shaped_of_RefB (by kernel_rfl) (by kernel_rfl)) (by kernel_rfl) (by kernel_rfl) (by kernel_rfl) (door_met os _)) ?_
  intro W base args ds gs before hval0 hW _ _ hL _
  have hval : ∀ (j : Nat) t v, Tryd.f6.params[j]? = some t → args[j]? = some v → Value.okWide Tryd.prog W .any base t v := hval0
  have hW' := hW
  obtain ⟨p, q, hA0, hV, rfl, hfz, hnd⟩ := hW
  have hA : DataW.TrodAll enc Tryd.prog W 0 (fun _ => true) true Tryd.f6.params.toList args.toList ds p := hA0
  rw [Tryd.params6] at hA hval
  obtain ⟨v0, vs0, d0, ds0, p0, q0, hargs, rfl, rfl, h0, r0⟩ := trodAll_cons hA
  obtain ⟨v1, vs1, d1, ds1, p1, q1, rfl, rfl, rfl, h1, r1⟩ := trodAll_cons r0
  obtain ⟨v2, vs2, d2, ds2, p2, q2, rfl, rfl, rfl, h2, r2⟩ := trodAll_cons r1
  obtain ⟨rfl, rfl, rfl⟩ := trodAll_nil r2
  obtain rfl : args = #[v0, v1, v2] := by cases args; simp_all
  obtain ⟨rfl, rfl⟩ := trodVars_none hV
  obtain ⟨a1, rfl, rfl, rfl, w1⟩ := open_int Tryd.underlying3 (hval 1 3 v1 rfl rfl) h1
  obtain ⟨a2, rfl, rfl, rfl, w2⟩ := open_int Tryd.underlying3 (hval 2 3 v2 rfl rfl) h2
  obtain ⟨A1, n1, c1, rfl⟩ := okWide_slice Tryd.underlying52 (hval 0 52 v0 rfl rfl)
  obtain ⟨A, l, c, hv, hc, hC⟩ := groups_of h0
  rw [hv] at h0 hW' ⊢
  have hlt : ∀ x ∈ p0, x.block < W.heap.size := fun x hx => hW'.lt x (by simp [hx])
  clear hA0 hval0
  refine (PL.zA4.calls 20000 A c l a1 a2 true W hC hc (tab_of hL) (PL.groups_plain l a1 a2)).mono fun e W' ⟨he, bel⟩ => ?_
  subst he
  exact ⟨_, rfl, _, _, _, [], _, [], hW', trodAll_mk1 (shut_bool Tryd.underlying4 _), (trodAll_cons_mk (Below.trod laidOutT (by kernel_rfl) (of_decide_eq_true (by kernel_rfl)) h0 bel hlt) (trodAll_cons_mk (shut_int Tryd.underlying3 w1) (trodAll_cons_mk (shut_int Tryd.underlying3 w2) trodAll_mk0))), rfl, bel.frame _, fun h => by cases h⟩

theorem liaisonGroups_holds : Rows.LiaisonGroupsSaid :=
  OpenClaim.holds_of_wide 6 Tryd.f6 rfl rfl rfl rfl rfl rfl rfl ⟨rfl, rfl, rfl, rfl, rfl⟩ rfl rfl rfl rfl rfl (by kernel_rfl) Tryd.func6 (by kernel_rfl)
    (of_decide_eq_true (by kernel_rfl)) (by unfold Func.isWrapper; first | (rw [if_pos (by decide +kernel)]; kernel_rfl) | (rw [if_neg (by decide +kernel)]; exact ⟨rfl, rfl⟩))
    (fun os started H enc _ => groups_lifted os started H enc)

theorem liaisonGroups_card : Rows.LiaisonGroupsCardSaid :=
  Claim7.holds_tied_plain_at .later [] [.data, .data] true (true, "fe5b0fdd4b37838809d2b07904268484cb9f35f5021456012c197c6c3a5b2360") false
    liaisonGroups_holds (fun _ h => by cases h) (by kernel_rfl) (fun _ h => by cases h) liaisonGroups_row_tie rfl ⟨rfl, rfl⟩ (by kernel_rfl) rfl
    (fun f fn hf hfn => by
      obtain rfl : f = 6 := Option.some.inj ((show Tryd.prog.funcNamed "dowel/dowellaw29.LiaisonGroups" = some 6 by kernel_rfl).symm.trans hf) |>.symm
      obtain rfl : fn = Tryd.f6 := (Option.some.inj (Tryd.func6.symm.trans hfn)).symm
      exact ⟨by kernel_rfl, fun j t ht => by
        rw [Tryd.params6] at ht
        have hm : t ∈ [52, 3, 3] := by simpa using Array.mem_of_getElem? ht
        have hall : ([52, 3, 3].all fun u => !Tryd.prog.wantsStandIn u) = true := by kernel_rfl
        exact (show Tryd.prog.wantsStandIn t = false by simpa using List.all_eq_true.1 hall t hm)⟩)
    (by kernel_rfl)
#print axioms liaisonGroups_card
end
end Go.Proofs.YtbghfbhlbfcloaaDoor
