/- Put together by this session's program pack.py. -/
import Derived.LaidMore
import Derived.MakeChecks
import Derived.Stop.LaidErr
import Derived.Lib.LaidTab
import Derived.ProofKit
import Derived.OpenShut
import Derived.Stop.Joined
import Derived.Deep.Slices
import Derived.ChangeSame
import Derived.Carry
import Derived.WalkKit
import Derived.ShutString
import Derived.ChangeOld
import Derived.Below
import Derived.SizedLaws
import Derived.SevenTiedAt
import Derived.Test.YtbghfbhlbfcloaaGreatDoorHp0
import Derived.Test.YtbghfbhlbfcloaaGreatDoorHp1
import Derived.Test.YtbghfbhlbfcloaaGreatDoorHp2
import Derived.Test.YtbghfbhlbfcloaaGreatDoorHp3
import Derived.Test.YtbghfbhlbfcloaaGreatDoorHp4
import Derived.Test.YtbghfbhlbfcloaaGreatDoorRows
import Derived.Test.YtbghfbhlbfcloaaGreatDoorCards
import Derived.Test.YtbghfbhlbfcloaaGreatDoorTie
namespace Go.Proofs.YtbghfbhlbfcloaaGreatDoor
section
set_option linter.unusedVariables false
set_option linter.unusedSimpArgs false
open Go.ChangeShapes Go.WideShapes Go.ChangeAt Go.WideMaps Go.WideElems Go.RowKit Go.Proofs.YtbghfbhlbfcloaaGreatDoorW.PrintWords

theorem ownK : ownKnob Tryz.prog.godebug = none := by kernel_rfl
theorem gTab : Tryz.prog.globalNamed "math/bits.deBruijn64tab" = some 1 := by kernel_rfl
theorem tTab : (Tryz.prog.globals[1]?).map (·.type) = some 126 := by kernel_rfl
theorem cells5 : Tryz.prog.cellsOf 5 = 1 := by kernel_rfl
theorem cells131 : Tryz.prog.cellsOf 126 = 64 := by kernel_rfl
def laid2 : List (String × DataW Unit) := [("math/bits.deBruijn32tab", Rows.laid_math_bits_deBruijn32tab), ("math/bits.deBruijn64tab", Rows.laid_math_bits_deBruijn64tab)]
theorem laid64 : Rows.laid_math_bits_deBruijn64tab (H := Unit) = Lib.tabData .u8 PL.tabL := rfl
theorem door_met (os : Os) (args : Array Value) : laidMetH Tryz.prog laid2 ((World.doorLaid Tryz.prog 400 os).forCall (fun _ _ => 0) ⟨#[], args, []⟩).memory :=
  laidMetH_of_parts3 (fuel := 8) (laidMet_of_run' 8 (by kernel_rfl) (by kernel_rfl)) (by kernel_rfl) (by kernel_rfl)
theorem tab_of {W : World} (h : laidMetH Tryz.prog laid2 W) : Kd.C (Kd.int .u8) W (some PL.tabA) PL.tabL.length PL.tabL := by
  rw [MakeChecks.laidMetH_plain _ _ _ (by kernel_rfl)] at h
  have h2 : laidMet Tryz.prog [("math/bits.deBruijn64tab", Lib.tabData .u8 PL.tabL)] W := by
    rw [← laid64]; exact laidMet.tail h
  have hT := Lib.tabIs_of_head gTab tTab Tryz.underlying126 Tryz.underlying5 cells5 cells131 h2
  refine ⟨rfl, by decide, fun _ => ⟨_, rfl, fun j p hj => ?_⟩⟩
  have hjl := (List.getElem?_eq_some_iff.1 hj).1
  refine ⟨[.int .u8 p], rfl, rfl, fun i u hu => ?_⟩
  have hc := hT.cell gTab j hjl
  rw [List.getD_eq_getElem?_getD, hj] at hc
  cases i with
  | zero =>
    cases hu
    have e : PL.tabA.add (j * (Kd.int .u8).sz + 0) = ⟨1, j, none⟩ := by
      have : (Kd.int .u8).sz = 1 := rfl
      rw [this, Nat.mul_one]
      simp [PL.tabA, Addr.add]
      exact fun h => h.symm
    rw [e]
    exact hc
  | succ i => simp at hu
end
end Go.Proofs.YtbghfbhlbfcloaaGreatDoor
namespace Go.Proofs.YtbghfbhlbfcloaaGreatDoor
section
set_option linter.unusedVariables false
set_option linter.unusedSimpArgs false
open Go.ChangeShapes Go.WideShapes Go.ChangeAt Go.WideMaps Go.WideElems Go.RowKit Go.Deep Go.Proofs.YtbghfbhlbfcloaaGreatDoorW.PrintWords

theorem laidOutT : laidOutB Tryz.prog = true := by kernel_rfl
theorem cells58 : Tryz.prog.cellsOf 58 = 2 := by kernel_rfl
theorem cells28 : Tryz.prog.cellsOf 28 = 2 := by kernel_rfl
theorem cells26 : Tryz.prog.cellsOf 26 = 1 := by kernel_rfl
theorem cells3 : Tryz.prog.cellsOf 3 = 1 := by kernel_rfl
section
variable {H : Type} {enc : TypeId × Value → H} {W : World}
theorem ints_of {fuel : Nat} {cs : List Value} {x : DataW H × List MemPlace} (h : DataW.trod enc Tryz.prog W 0 (fun _ => true) true fuel 23 cs = some x) :
    ∃ (A : Option Addr) (xs : List Int) (c : Nat), cs = [.slice A xs.length c] ∧ xs.length ≤ c ∧ Kd.C (Kd.int .i64) W A xs.length xs := by
  rcases open_ints Tryz.underlying23 Tryz.underlying3 cells3 h with ⟨rfl, _⟩ | ⟨a, len, cap, zs, rfl, hb, hl, hm, hz, hx, hcell, hwz⟩
  · exact ⟨none, [], 0, rfl, Nat.le_refl _, rfl, by decide, fun h => absurd h (by decide)⟩
  · simp only [if_true] at hz
    have hlz : (zs.take len).length = len := by rw [List.length_take]; omega
    refine ⟨some a, zs.take len, cap, by rw [hlz], by omega, rfl, ?_, fun _ => ⟨a, rfl, fun j p hj => ?_⟩⟩
    · have hmx : maxLen ≤ 9223372036854775807 := by decide
      omega
    · have hjl : j < (zs.take len).length := (List.getElem?_eq_some_iff.1 hj).1
      refine ⟨[.int .i64 p], rfl, rfl, fun i u hu => ?_⟩
      cases i with
      | zero =>
        cases hu
        have e : (Kd.int .i64).sz = 1 := rfl
        rw [e, Nat.mul_one, Nat.add_zero, hcell j (by omega)]
        rw [List.getElem?_take_of_lt (by omega)] at hj
        rw [List.getD_eq_getElem?_getD, hj]
        rfl
      | succ i => simp at hu
theorem two_of : ∀ {cs : List Value}, cs.length = 2 → ∃ c0 c1, cs = [c0, c1]
  | [c0, c1], _ => ⟨c0, c1, rfl⟩
theorem edge_of {fuel : Nat} {cs : List Value} {x : DataW H × List MemPlace} (h : DataW.trod enc Tryz.prog W 0 (fun _ => true) true fuel 58 cs = some x) : ∃ y : PL.S58, PL.k58.K W y cs ∧ cs.length = 2 := by
  obtain ⟨y0, y1, n, _, hl, h0, h1⟩ := trod_struct2 Tryz.underlying58 h
  rw [cells58] at hl
  obtain ⟨c0, c1, rfl⟩ := two_of hl
  have h0' : DataW.trod enc Tryz.prog W 0 (fun _ => true) true n 3 (List.take (Tryz.prog.cellsOf 3) [c0, c1]) = some y0 := h0
  have h1' : DataW.trod enc Tryz.prog W 0 (fun _ => true) true n 3 (List.take (Tryz.prog.cellsOf 3) [c1]) = some y1 := h1
  rw [cells3] at h0' h1'
  obtain ⟨a, ha, _, _⟩ := DataW.trod_int Tryz.underlying3 h0'
  obtain ⟨b, hb, _, _⟩ := DataW.trod_int Tryz.underlying3 h1'
  have ha' : [c0] = [Value.int .i64 a] := ha
  have hb' : [c1] = [Value.int .i64 b] := hb
  injection ha' with ha' _
  injection hb' with hb' _
  subst ha'
  subst hb'
  exact ⟨⟨a, b⟩, PL.k58_mk W ⟨a, b⟩, rfl⟩
instance : Inhabited (PL.S58 × List Value) := ⟨(⟨0, 0⟩, [])⟩
theorem edges_of {fuel : Nat} {cs : List Value} {x : DataW H × List MemPlace} (h : DataW.trod enc Tryz.prog W 0 (fun _ => true) true fuel 26 cs = some x) :
    ∃ (A : Option Addr) (l : List PL.S58) (c : Nat), cs = [.slice A l.length c] ∧ l.length ≤ c ∧ Kd.C PL.k58 W A l.length l := by
  rcases open_slice Tryz.underlying26 h with ⟨hc, _⟩ | ⟨a, len, cap, m, n, D, Pl, hc, hb, hl, hm, hmm, hx, hel⟩
  · exact ⟨none, [], 0, hc, Nat.le_refl _, rfl, by decide, fun h => absurd h (by decide)⟩
  · simp only [if_true] at hmm
    subst hmm
    rw [cells58] at hel
    have each : ∀ i, i < len → ∃ y : PL.S58 × List Value, PL.k58.K W y.1 y.2 ∧ y.2.length = 2 ∧ ∀ j u, y.2[j]? = some u → W.cell? (a.add (i * 2 + j)) = some u := fun i hi => by
      obtain ⟨cs', h1, h2⟩ := hel i (by omega)
      obtain ⟨_, hlen, hcell⟩ := World.cells?_some h1
      obtain ⟨y, hy, _⟩ := edge_of h2
      refine ⟨(y, cs'), hy, hlen, fun j u hu => ?_⟩
      have hj : j < 2 := by rw [← hlen]; exact (List.getElem?_eq_some_iff.1 hu).1
      rw [← hu, ← hcell j hj, Addr.add_add]
    obtain ⟨Y, hY⟩ := choose_lt each
    have hlen : ((List.range len).map fun i => (Y i).1).length = len := by simp
    refine ⟨some a, (List.range len).map fun i => (Y i).1, m, by rw [hlen]; exact hc, by omega, rfl, ?_, fun _ => ⟨a, rfl, fun j p hj => ?_⟩⟩
    · have hmx : maxLen ≤ 9223372036854775807 := by decide
      omega
    · have hjl : j < len := by
        have := (List.getElem?_eq_some_iff.1 hj).1
        omega
      rw [List.getElem?_map, List.getElem?_range hjl] at hj
      simp only [Option.map_some, Option.some.injEq] at hj
      subst hj
      obtain ⟨h1, h2, h3⟩ := hY j hjl
      exact ⟨(Y j).2, h2, h1, h3⟩
set_option maxRecDepth 100000 in
theorem graph_of {v : Value} {r : Reach} {base : Nat} {d : DataW H} {p : List MemPlace} (hv : Value.okWide Tryz.prog W r base 28 v) (hd : DataW.Trod enc Tryz.prog W 0 (fun _ => true) true 28 v d p) :
    ∃ (n : Int) (A : Option Addr) (l : List PL.S58) (c : Nat), v = .agg #[.int .i64 n, .slice A l.length c] ∧ l.length ≤ c ∧ Kd.C PL.k58 W A l.length l := by
  obtain ⟨cs, rfl, hsz⟩ := okWide_struct Tryz.underlying28 hv
  obtain ⟨fuel, h⟩ := hd
  have h : DataW.trod enc Tryz.prog W 0 (fun _ => true) true fuel 28 cs.toList = some (d, p) := h
  obtain ⟨y0, y1, n, _, hl, h0, h1⟩ := trod_struct2 Tryz.underlying28 h
  rw [cells28] at hl
  obtain ⟨c0, c1, e⟩ := two_of hl
  rw [e] at h0 h1
  have h0' : DataW.trod enc Tryz.prog W 0 (fun _ => true) true n 3 (List.take (Tryz.prog.cellsOf 3) [c0, c1]) = some y0 := h0
  have h1' : DataW.trod enc Tryz.prog W 0 (fun _ => true) true n 26 (List.take (Tryz.prog.cellsOf 26) [c1]) = some y1 := h1
  rw [cells3] at h0'
  rw [cells26] at h1'
  obtain ⟨a, ha, _, _⟩ := DataW.trod_int Tryz.underlying3 h0'
  obtain ⟨A, l, c, hc, hle, hC⟩ := edges_of h1'
  have ha' : [c0] = [Value.int .i64 a] := ha
  have hc' : [c1] = [Value.slice A l.length c] := hc
  injection ha' with ha' _
  injection hc' with hc' _
  subst ha'
  subst hc'
  refine ⟨a, A, l, c, ?_, hle, hC⟩
  cases cs with
  | mk L => simp only at e; subst e; rfl
set_option maxRecDepth 100000 in
theorem set_of {v : Value} {r : Reach} {base : Nat} {d : DataW H} {p : List MemPlace} (hv : Value.okWide Tryz.prog W r base 23 v) (hd : DataW.Trod enc Tryz.prog W 0 (fun _ => true) true 23 v d p) :
    ∃ (A : Option Addr) (l : List Int) (c : Nat), v = .slice A l.length c ∧ l.length ≤ c ∧ Kd.C (Kd.int .i64) W A l.length l := by
  obtain ⟨A1, n1, c1, rfl⟩ := okWide_slice Tryz.underlying23 hv
  obtain ⟨fuel, h⟩ := hd
  have h : DataW.trod enc Tryz.prog W 0 (fun _ => true) true fuel 23 [.slice A1 n1 c1] = some (d, p) := h
  obtain ⟨A, l, c, hc, hle, hC⟩ := ints_of h
  injection hc with hc _
  exact ⟨A, l, c, hc, hle, hC⟩
end
end
end Go.Proofs.YtbghfbhlbfcloaaGreatDoor
namespace Go.Proofs.YtbghfbhlbfcloaaGreatDoor
section
set_option linter.unusedVariables false
set_option linter.unusedSimpArgs false
open Go.ChangeShapes Go.WideShapes Go.ChangeAt Go.WideMaps Go.WideElems Go.RowKit

set_option maxRecDepth 100000 in
theorem checks_lifted (os : Os) (started : os.Started) (H : Type) (enc : TypeId × Value → H) :
    ReturnsInHanded {} Tryz.checked os 5 .any (fun w args => (Rows.liaisonChecksSpec.pre enc Tryz.prog Tryz.f5 [] false w args ∧ laidMetH Tryz.prog laid2 w) ∧ sizedMet enc Tryz.prog Tryz.f5 (OpenSpec.ofChange Rows.liaisonChecksSpec) false w args)
      (Rows.liaisonChecksSpec.post enc Tryz.prog Tryz.f5 false true false false) := by
  refine returnsInHanded_of_change_and (C := Tryz.checked) (X := fun w _ => laidMetH Tryz.prog laid2 w) (fun _ _ _ hh h => h.of_heap hh) ownK started (by kernel_rfl) Tryz.func5
    (ChangeSpec.witness_shaped (enc := enc) (C := Tryz.checked) (os := os) (X := fun w _ => laidMetH Tryz.prog laid2 w) false (World.doorLaid Tryz.prog 400 os) #[.agg #[.int .i64 0, .slice none 0 0], .slice none 0 0] 8 rfl (World.shaped_of_RefB (by kernel_rfl) (by kernel_rfl)) (by kernel_rfl) (by kernel_rfl) (by kernel_rfl) (door_met os _)) ?_
  intro W base args ds gs before hval0 hW _ _ hL _
  have hval : ∀ (j : Nat) t v, Tryz.f5.params[j]? = some t → args[j]? = some v → Value.okWide Tryz.prog W .any base t v := hval0
  have hW' := hW
  obtain ⟨p, q, hA0, hV, rfl, hfz, hnd⟩ := hW
  have hA : DataW.TrodAll enc Tryz.prog W 0 (fun _ => true) true Tryz.f5.params.toList args.toList ds p := hA0
  rw [Tryz.params5] at hA hval
  obtain ⟨v0, vs0, d0, ds0, p0, q0, hargs, rfl, rfl, h0, r0⟩ := trodAll_cons hA
  obtain ⟨v1, vs1, d1, ds1, p1, q1, rfl, rfl, rfl, h1, r1⟩ := trodAll_cons r0
  obtain ⟨rfl, rfl, rfl⟩ := trodAll_nil r1
  obtain rfl : args = #[v0, v1] := by cases args; simp_all
  obtain ⟨rfl, rfl⟩ := trodVars_none hV
  obtain ⟨n, A0, E, c0, hv0, hc0, hC0⟩ := graph_of (hval 0 28 v0 rfl rfl) h0
  obtain ⟨A1, s, c1, hv1, hc1, hC1⟩ := set_of (hval 1 23 v1 rfl rfl) h1
  rw [hv0] at h0 hW' ⊢
  rw [hv1] at h1 hW' ⊢
  have hlt0 : ∀ x ∈ p0, x.block < W.heap.size := fun x hx => hW'.lt x (by simp [hx])
  have hlt1 : ∀ x ∈ p1, x.block < W.heap.size := fun x hx => hW'.lt x (by simp [hx])
  clear hA0 hval0
  refine (PL.zAd.calls 20000 n A0 c0 E A1 c1 s true W hC0 hc0 hC1 hc1 (tab_of hL) (PL.checks_plain n E s)).mono fun e W' ⟨he, bel⟩ => ?_
  subst he
  exact ⟨_, rfl, _, _, _, [], _, [], hW', trodAll_mk1 (shut_bool Tryz.underlying4 _), (trodAll_cons_mk (Below.trod laidOutT (by kernel_rfl) (of_decide_eq_true (by kernel_rfl)) h0 bel hlt0) (trodAll_cons_mk (Below.trod laidOutT (by kernel_rfl) (of_decide_eq_true (by kernel_rfl)) h1 bel hlt1) trodAll_mk0)), rfl, bel.frame _, fun h => by cases h⟩

theorem liaisonChecks_holds : Rows.LiaisonChecksSaid :=
  OpenClaim.holds_of_wide 5 Tryz.f5 rfl rfl rfl rfl rfl rfl rfl ⟨rfl, rfl, rfl, rfl, rfl⟩ rfl rfl rfl rfl rfl (by kernel_rfl) Tryz.func5 (by kernel_rfl)
    (of_decide_eq_true (by kernel_rfl)) (by unfold Func.isWrapper; first | (rw [if_pos (by decide +kernel)]; kernel_rfl) | (rw [if_neg (by decide +kernel)]; exact ⟨rfl, rfl⟩))
    (fun os started H enc _ => checks_lifted os started H enc)

theorem liaisonChecks_card : Rows.LiaisonChecksCardSaid :=
  Claim7.holds_tied_plain_at .later [] [.data, .data] true (true, "3d7526131b41b91625d7876f5627ce475d387eb5c1d08aa9745633953dc5f22f") false
    liaisonChecks_holds (fun _ h => by cases h) (by kernel_rfl) (fun _ h => by cases h) liaisonChecks_row_tie rfl ⟨rfl, rfl⟩ (by kernel_rfl) rfl
    (fun f fn hf hfn => by
      obtain rfl : f = 5 := Option.some.inj ((show Tryz.prog.funcNamed "dowel/dowellaw29.LiaisonChecks" = some 5 by kernel_rfl).symm.trans hf) |>.symm
      obtain rfl : fn = Tryz.f5 := (Option.some.inj (Tryz.func5.symm.trans hfn)).symm
      exact ⟨by kernel_rfl, fun j t ht => by
        rw [Tryz.params5] at ht
        have hm : t ∈ [28, 23] := by simpa using Array.mem_of_getElem? ht
        have hall : ([28, 23].all fun u => !Tryz.prog.wantsStandIn u) = true := by kernel_rfl
        exact (show Tryz.prog.wantsStandIn t = false by simpa using List.all_eq_true.1 hall t hm)⟩)
    (by kernel_rfl)
#print axioms liaisonChecks_card
end
end Go.Proofs.YtbghfbhlbfcloaaGreatDoor
