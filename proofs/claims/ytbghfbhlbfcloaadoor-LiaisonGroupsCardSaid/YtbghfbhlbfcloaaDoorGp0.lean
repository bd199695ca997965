/- Put together by this session's program pack.py. -/
import Derived.Below
import Derived.Deep.Draws
import Derived.Deep.AppendLies
import Derived.Maps.AppendAt
import Derived.OwnWalk
import Derived.Laws.BytesArg
import Derived.Laws.MakeOwn
import Derived.Laws.OwnMore
import Derived.Deep.OwnRows
import Derived.Tactics
import Derived.Lib.ConvBytes
import Derived.Laws.Slices
import Derived.WalkKit
import Derived.KernelRfl
import Derived.RowKit3
import Derived.Deep.LoopGhost
import Derived.Deep.QuietTactic
import Derived.BigQuiet
import Derived.WideLaws
import Derived.Deep.DeepCutAuto
import Derived.Deep.CutBlock
import Derived.Deep.RegionHeld3
import Derived.Laws.Rows
import Derived.Lib.AppendStr
import Derived.ArgAppend
import Derived.Laws.IdiomCopy
import Derived.OrdersHeld
import Derived.Laws.BitsLemmas
import Derived.RowKit
import Derived.Sort.Grow
import Derived.Shelf.SlicesQ.IndexFunc
import Derived.Shelf.GgClosure.StringsIndexFuncTop
import Derived.Shelf.SlGeneric
import Derived.Ground.SlgfProg
import Derived.Ground.GgwProg
import Derived.Laws.RangeAny
import Derived.Laws.RangeString
import Derived.Shelf.SlSortCmp.InsertionK
import Derived.Ground.SlsfProg
import Derived.Shelf.SlSortCmp.Insertion
import Derived.RangeFuncNested
import Derived.RangeFuncBound
import Derived.RangeFuncCalls
import Derived.RangeFuncLeaves
import Derived.Shelf.Abstract
import Derived.Shelf.RegionOpen
import Derived.OwnWalkIn
import Derived.TacticsInMore
import Derived.LoopNIn
import Derived.LoopIn
import Derived.OrdersIn
import Derived.RangeFuncKeeps
import Derived.Shelf.SlSortCmp.NoneTotal
import Derived.RangeFuncWrites
import Derived.WalkSpells
import Derived.Test.YtbghfbhlbfcloaaDoorGw0
namespace Go.Proofs.YtbghfbhlbfcloaaDoor.PL
section
open Go.RowKit Go.Proofs.YtbghfbhlbfcloaaDoorW.PrintWords Go.Proofs.YtbghfbhlbfcloaaDoorW.PrintLast Go.Proofs.YtbghfbhlbfcloaaDoorW.PrintMore
attribute [local go_sem] zBw zBu zC7 zC6 zBo zBn zBv zBt   -- for this text's walks alone
set_option linter.unusedVariables false
set_option linter.unusedSimpArgs false
def errW : Option Int → Value
 | none => .nilIface
 | some c => .iface 0 (.int .i64 c)
theorem zAx : errW none = .nilIface := rfl
theorem zAw (c : Int) : errW (some c) = .iface 0 (.int .i64 c) := rfl
theorem info3 : (Tryd.prog.info? 3).map (fun i => (i.zero, i.size, i.bytes)) = some (some (.int .i64 0), 1, 8) := by kernel_rfl
theorem info23 : (Tryd.prog.info? 23).map (fun i => (i.zero, i.size, i.bytes)) = some (some (.slice none 0 0), 1, 24) := by kernel_rfl
theorem info41 : (Tryd.prog.info? 41).map (fun i => (i.zero, i.size, i.bytes)) = some (some (.agg #[(.slice none 0 0), (.slice none 0 0)]), 2, 48) := by kernel_rfl
theorem info57 : (Tryd.prog.info? 57).map (fun i => (i.zero, i.size, i.bytes)) = some (some (.agg #[(.string ⟨#[]⟩), (.slice none 0 0)]), 2, 40) := by kernel_rfl
theorem info68 : (Tryd.prog.info? 68).map (fun i => (i.zero, i.size, i.bytes)) = some (some (.agg #[(.int .i64 0), (.int .i64 0)]), 2, 16) := by kernel_rfl
theorem info71 : (Tryd.prog.info? 71).map (fun i => (i.zero, i.size, i.bytes)) = some (some (.int .u64 0), 1, 8) := by kernel_rfl
structure S68 where
 f0 : Int
 f1 : Int
def z68 : S68 := ⟨(0 : Int), (0 : Int)⟩
def k68 : Kd S68 := Kd.iso (Kd.pair (Kd.int .i64) (Kd.int .i64)) (fun x : S68 => (x.f0, x.f1))
theorem k68_heap : Kd.Heap k68 := Kd.heap_iso _ (Kd.heap_pair (Kd.heap_int .i64) (Kd.heap_int .i64))
theorem k68_open {w : World} {x : S68} {cs : List Value} (h : k68.K w x cs) : cs = [.int .i64 x.f0, .int .i64 x.f1] := by
 obtain ⟨_, _, rfl, rfl, rfl⟩ := h
 exact rfl
theorem k68_openM {w : World} {base : Nat} {ok : Nat → Prop} {x : S68} {cs : List Value} (h : k68.M w base ok x cs) : cs = [.int .i64 x.f0, .int .i64 x.f1] := by
 obtain ⟨_, _, rfl, rfl, rfl⟩ := h
 exact rfl
theorem k68_mk (w : World) (x : S68)  : k68.K w x [.int .i64 x.f0, .int .i64 x.f1] := ⟨[.int .i64 x.f0], [.int .i64 x.f1], rfl, rfl, rfl⟩
theorem k68_mkM (w : World) (base : Nat) (ok : Nat → Prop) (x : S68)  : k68.M w base ok x [.int .i64 x.f0, .int .i64 x.f1] := ⟨[.int .i64 x.f0], [.int .i64 x.f1], rfl, rfl, rfl⟩
theorem k68_mkF (W : World) (ok : Nat → Prop) (x : S68) : Kd.FK k68 W ok x [.int .i64 x.f0, .int .i64 x.f1] := fun W2 _ => k68_mk W2 x
def zB4 (xs : List S68) (i : Int) : S68 := xs.getD i.toNat z68
theorem at_T68 {w : World} {A : Option Addr} {n : Nat} {xs : List S68} (h : Kd.C k68 w A n xs) (i : Int) (h0 : 0 ≤ i) (h1 : i < n) : ∃ ad , A = some ad ∧ w.cell? (ad.add (i.toNat * 2)) = some (.int .i64 (zB4 xs i).f0) ∧ w.cell? ⟨(ad.add (i.toNat * 2)).block, (ad.add (i.toNat * 2)).off + 1, none⟩ = some (.int .i64 (zB4 xs i).f1) := by
 obtain ⟨ad, c, e, _, hK, hc0⟩ := Kd.C_get h z68 i h0 h1
 have hc : ∀ j u, c[j]? = some u → w.cell? (ad.add (i.toNat * 2 + j)) = some u := hc0
 obtain rfl := k68_open hK
 exact ⟨ad, e, hc 0 _ rfl, by rw [← add_field _ _ 1 (by omega)]; exact hc 1 _ rfl⟩
def rd_L3 (xs : List (List S68)) (i : Int) : (List S68) := xs.getD i.toNat ([] : List S68)
theorem at_L3 {w : World} {A : Option Addr} {n : Nat} {xs : List (List S68)} (h : Kd.C (Kd.slice 68 k68) w A n xs) (i : Int) (h0 : 0 ≤ i) (h1 : i < n) : ∃ ad A0 c0, A = some ad ∧ w.cell? (ad.add i.toNat) = some (.slice A0 (rd_L3 xs i).length c0) ∧ (rd_L3 xs i).length ≤ c0 ∧ k68.C w A0 (rd_L3 xs i).length (rd_L3 xs i) := by
 obtain ⟨ad, c, e, _, hK, hc0⟩ := Kd.C_get h ([] : List S68) i h0 h1
 have hc : ∀ j u, c[j]? = some u → w.cell? (ad.add (i.toNat * 1 + j)) = some u := hc0
 obtain ⟨A0, c0, rfl, l0, g0⟩ := hK
 exact ⟨ad, A0, c0, e, by have hq := hc 0 _ rfl; rwa [Nat.mul_one, Nat.add_zero] at hq, l0, g0⟩
structure S28 where
 f0 : Int
 f1 : (List S68)
def z28 : S28 := ⟨(0 : Int), ([] : List S68)⟩
def k28 : Kd S28 := Kd.iso (Kd.pair (Kd.int .i64) (Kd.slice 68 k68)) (fun x : S28 => (x.f0, x.f1))
theorem k28_heap : Kd.Heap k28 := Kd.heap_iso _ (Kd.heap_pair (Kd.heap_int .i64) (Kd.heap_slice 68 k68_heap))
theorem k28_open {w : World} {x : S28} {cs : List Value} (h : k28.K w x cs) : ∃ A1 c1, cs = [.int .i64 x.f0, .slice A1 x.f1.length c1] ∧ x.f1.length ≤ c1 ∧ k68.C w A1 x.f1.length x.f1 := by
 obtain ⟨_, _, rfl, rfl, ⟨A1, c1, rfl, l1, g1⟩⟩ := h
 exact ⟨A1, c1, rfl, l1, g1⟩
theorem k28_openM {w : World} {base : Nat} {ok : Nat → Prop} {x : S28} {cs : List Value} (h : k28.M w base ok x cs) : ∃ v1, cs = [.int .i64 x.f0, v1] ∧ k68.R 68 w base ok v1 x.f1 := by
 obtain ⟨_, _, rfl, rfl, ⟨v1, rfl, g1⟩⟩ := h
 exact ⟨v1, rfl, g1⟩
theorem k28_mk (w : World) (x : S28) {A1 : Option Addr} {c1 : Nat} (l1 : x.f1.length ≤ c1) (g1 : k68.C w A1 x.f1.length x.f1) : k28.K w x [.int .i64 x.f0, .slice A1 x.f1.length c1] := ⟨[.int .i64 x.f0], [.slice A1 x.f1.length c1], rfl, rfl, ⟨A1, c1, rfl, l1, g1⟩⟩
theorem k28_mkM (w : World) (base : Nat) (ok : Nat → Prop) (x : S28) {v1 : Value} (g1 : k68.R 68 w base ok v1 x.f1) : k28.M w base ok x [.int .i64 x.f0, v1] := ⟨[.int .i64 x.f0], [v1], rfl, rfl, ⟨v1, rfl, g1⟩⟩
theorem k28_openF {W : World} {ok : Nat → Prop} {x : S28} {cs : List Value} (h : Kd.FK k28 W ok x cs) : ∃ A1 c1, cs = [.int .i64 x.f0, .slice A1 x.f1.length c1] ∧ x.f1.length ≤ c1 ∧ Kd.F k68 W ok A1 x.f1.length x.f1 := by
 obtain ⟨A1, c1, rfl, l1, _⟩ := k28_open (Kd.FK_now h)
 exact ⟨A1, c1, rfl, l1, (fun W' hW => by obtain ⟨A1_, c1_, he, l1_, g1_⟩ := k28_open (h W' hW); injection (Option.some.inj (show some (Value.slice A1 x.f1.length c1) = some (Value.slice A1_ x.f1.length c1_) from congrArg (fun l => l[1]?) he)) with ha_ _ _; rw [ha_]; exact g1_)⟩
theorem k28_mkF (W : World) (ok : Nat → Prop) (x : S28) {A1 : Option Addr} {c1 : Nat} (l1 : x.f1.length ≤ c1) (g1 : Kd.F k68 W ok A1 x.f1.length x.f1) : Kd.FK k28 W ok x [.int .i64 x.f0, .slice A1 x.f1.length c1] := fun W2 hW => k28_mk W2 x l1 (g1 W2 hW)
def rd_T28 (xs : List S28) (i : Int) : S28 := xs.getD i.toNat z28
theorem at_T28 {w : World} {A : Option Addr} {n : Nat} {xs : List S28} (h : Kd.C k28 w A n xs) (i : Int) (h0 : 0 ≤ i) (h1 : i < n) : ∃ ad A1 c1, A = some ad ∧ w.cell? (ad.add (i.toNat * 2)) = some (.int .i64 (rd_T28 xs i).f0) ∧ w.cell? ⟨(ad.add (i.toNat * 2)).block, (ad.add (i.toNat * 2)).off + 1, none⟩ = some (.slice A1 (rd_T28 xs i).f1.length c1) ∧ (rd_T28 xs i).f1.length ≤ c1 ∧ k68.C w A1 (rd_T28 xs i).f1.length (rd_T28 xs i).f1 := by
 obtain ⟨ad, c, e, _, hK, hc0⟩ := Kd.C_get h z28 i h0 h1
 have hc : ∀ j u, c[j]? = some u → w.cell? (ad.add (i.toNat * 2 + j)) = some u := hc0
 obtain ⟨A1, c1, rfl, l1, g1⟩ := k28_open hK
 exact ⟨ad, A1, c1, e, hc 0 _ rfl, by rw [← add_field _ _ 1 (by omega)]; exact hc 1 _ rfl, l1, g1⟩
def rd_L6 (xs : List (List Int)) (i : Int) : (List Int) := xs.getD i.toNat ([] : List Int)
theorem at_L6 {w : World} {A : Option Addr} {n : Nat} {xs : List (List Int)} (h : Kd.C (Kd.slice 3 (Kd.int .i64)) w A n xs) (i : Int) (h0 : 0 ≤ i) (h1 : i < n) : ∃ ad A0 c0, A = some ad ∧ w.cell? (ad.add i.toNat) = some (.slice A0 (rd_L6 xs i).length c0) ∧ (rd_L6 xs i).length ≤ c0 ∧ (Kd.int .i64).C w A0 (rd_L6 xs i).length (rd_L6 xs i) := by
 obtain ⟨ad, c, e, _, hK, hc0⟩ := Kd.C_get h ([] : List Int) i h0 h1
 have hc : ∀ j u, c[j]? = some u → w.cell? (ad.add (i.toNat * 1 + j)) = some u := hc0
 obtain ⟨A0, c0, rfl, l0, g0⟩ := hK
 exact ⟨ad, A0, c0, e, by have hq := hc 0 _ rfl; rwa [Nat.mul_one, Nat.add_zero] at hq, l0, g0⟩
structure S41 where
 f0 : (List Int)
 f1 : (List Int)
def z41 : S41 := ⟨([] : List Int), ([] : List Int)⟩
def k41 : Kd S41 := Kd.iso (Kd.pair (Kd.slice 3 (Kd.int .i64)) (Kd.slice 3 (Kd.int .i64))) (fun x : S41 => (x.f0, x.f1))
theorem k41_heap : Kd.Heap k41 := Kd.heap_iso _ (Kd.heap_pair (Kd.heap_slice 3 (Kd.heap_int .i64)) (Kd.heap_slice 3 (Kd.heap_int .i64)))
theorem k41_open {w : World} {x : S41} {cs : List Value} (h : k41.K w x cs) : ∃ A0 c0 A1 c1, cs = [.slice A0 x.f0.length c0, .slice A1 x.f1.length c1] ∧ x.f0.length ≤ c0 ∧ (Kd.int .i64).C w A0 x.f0.length x.f0 ∧ x.f1.length ≤ c1 ∧ (Kd.int .i64).C w A1 x.f1.length x.f1 := by
 obtain ⟨_, _, rfl, ⟨A0, c0, rfl, l0, g0⟩, ⟨A1, c1, rfl, l1, g1⟩⟩ := h
 exact ⟨A0, c0, A1, c1, rfl, l0, g0, l1, g1⟩
theorem k41_openM {w : World} {base : Nat} {ok : Nat → Prop} {x : S41} {cs : List Value} (h : k41.M w base ok x cs) : ∃ v0 v1, cs = [v0, v1] ∧ (Kd.int .i64).R 3 w base ok v0 x.f0 ∧ (Kd.int .i64).R 3 w base ok v1 x.f1 := by
 obtain ⟨_, _, rfl, ⟨v0, rfl, g0⟩, ⟨v1, rfl, g1⟩⟩ := h
 exact ⟨v0, v1, rfl, g0, g1⟩
theorem k41_mk (w : World) (x : S41) {A0 : Option Addr} {c0 : Nat} (l0 : x.f0.length ≤ c0) (g0 : (Kd.int .i64).C w A0 x.f0.length x.f0) {A1 : Option Addr} {c1 : Nat} (l1 : x.f1.length ≤ c1) (g1 : (Kd.int .i64).C w A1 x.f1.length x.f1) : k41.K w x [.slice A0 x.f0.length c0, .slice A1 x.f1.length c1] := ⟨[.slice A0 x.f0.length c0], [.slice A1 x.f1.length c1], rfl, ⟨A0, c0, rfl, l0, g0⟩, ⟨A1, c1, rfl, l1, g1⟩⟩
theorem k41_mkM (w : World) (base : Nat) (ok : Nat → Prop) (x : S41) {v0 : Value} (g0 : (Kd.int .i64).R 3 w base ok v0 x.f0) {v1 : Value} (g1 : (Kd.int .i64).R 3 w base ok v1 x.f1) : k41.M w base ok x [v0, v1] := ⟨[v0], [v1], rfl, ⟨v0, rfl, g0⟩, ⟨v1, rfl, g1⟩⟩
theorem k41_openF {W : World} {ok : Nat → Prop} {x : S41} {cs : List Value} (h : Kd.FK k41 W ok x cs) : ∃ A0 c0 A1 c1, cs = [.slice A0 x.f0.length c0, .slice A1 x.f1.length c1] ∧ x.f0.length ≤ c0 ∧ Kd.F (Kd.int .i64) W ok A0 x.f0.length x.f0 ∧ x.f1.length ≤ c1 ∧ Kd.F (Kd.int .i64) W ok A1 x.f1.length x.f1 := by
 obtain ⟨A0, c0, A1, c1, rfl, l0, _, l1, _⟩ := k41_open (Kd.FK_now h)
 exact ⟨A0, c0, A1, c1, rfl, l0, (fun W' hW => by obtain ⟨A0_, c0_, A1_, c1_, he, l0_, g0_, l1_, g1_⟩ := k41_open (h W' hW); injection (Option.some.inj (show some (Value.slice A0 x.f0.length c0) = some (Value.slice A0_ x.f0.length c0_) from congrArg (fun l => l[0]?) he)) with ha_ _ _; rw [ha_]; exact g0_), l1, (fun W' hW => by obtain ⟨A0_, c0_, A1_, c1_, he, l0_, g0_, l1_, g1_⟩ := k41_open (h W' hW); injection (Option.some.inj (show some (Value.slice A1 x.f1.length c1) = some (Value.slice A1_ x.f1.length c1_) from congrArg (fun l => l[1]?) he)) with ha_ _ _; rw [ha_]; exact g1_)⟩
theorem k41_mkF (W : World) (ok : Nat → Prop) (x : S41) {A0 : Option Addr} {c0 : Nat} (l0 : x.f0.length ≤ c0) (g0 : Kd.F (Kd.int .i64) W ok A0 x.f0.length x.f0) {A1 : Option Addr} {c1 : Nat} (l1 : x.f1.length ≤ c1) (g1 : Kd.F (Kd.int .i64) W ok A1 x.f1.length x.f1) : Kd.FK k41 W ok x [.slice A0 x.f0.length c0, .slice A1 x.f1.length c1] := fun W2 hW => k41_mk W2 x l0 (g0 W2 hW) l1 (g1 W2 hW)
def rd_T41 (xs : List S41) (i : Int) : S41 := xs.getD i.toNat z41
theorem at_T41 {w : World} {A : Option Addr} {n : Nat} {xs : List S41} (h : Kd.C k41 w A n xs) (i : Int) (h0 : 0 ≤ i) (h1 : i < n) : ∃ ad A0 c0 A1 c1, A = some ad ∧ w.cell? (ad.add (i.toNat * 2)) = some (.slice A0 (rd_T41 xs i).f0.length c0) ∧ w.cell? ⟨(ad.add (i.toNat * 2)).block, (ad.add (i.toNat * 2)).off + 1, none⟩ = some (.slice A1 (rd_T41 xs i).f1.length c1) ∧ (rd_T41 xs i).f0.length ≤ c0 ∧ (Kd.int .i64).C w A0 (rd_T41 xs i).f0.length (rd_T41 xs i).f0 ∧ (rd_T41 xs i).f1.length ≤ c1 ∧ (Kd.int .i64).C w A1 (rd_T41 xs i).f1.length (rd_T41 xs i).f1 := by
 obtain ⟨ad, c, e, _, hK, hc0⟩ := Kd.C_get h z41 i h0 h1
 have hc : ∀ j u, c[j]? = some u → w.cell? (ad.add (i.toNat * 2 + j)) = some u := hc0
 obtain ⟨A0, c0, A1, c1, rfl, l0, g0, l1, g1⟩ := k41_open hK
 exact ⟨ad, A0, c0, A1, c1, e, hc 0 _ rfl, by rw [← add_field _ _ 1 (by omega)]; exact hc 1 _ rfl, l0, g0, l1, g1⟩
def rd_L8 (xs : List (List S41)) (i : Int) : (List S41) := xs.getD i.toNat ([] : List S41)
theorem at_L8 {w : World} {A : Option Addr} {n : Nat} {xs : List (List S41)} (h : Kd.C (Kd.slice 41 k41) w A n xs) (i : Int) (h0 : 0 ≤ i) (h1 : i < n) : ∃ ad A0 c0, A = some ad ∧ w.cell? (ad.add i.toNat) = some (.slice A0 (rd_L8 xs i).length c0) ∧ (rd_L8 xs i).length ≤ c0 ∧ k41.C w A0 (rd_L8 xs i).length (rd_L8 xs i) := by
 obtain ⟨ad, c, e, _, hK, hc0⟩ := Kd.C_get h ([] : List S41) i h0 h1
 have hc : ∀ j u, c[j]? = some u → w.cell? (ad.add (i.toNat * 1 + j)) = some u := hc0
 obtain ⟨A0, c0, rfl, l0, g0⟩ := hK
 exact ⟨ad, A0, c0, e, by have hq := hc 0 _ rfl; rwa [Nat.mul_one, Nat.add_zero] at hq, l0, g0⟩
structure S57 where
 f0 : ByteArray
 f1 : (List Int)
def z57 : S57 := ⟨(⟨#[]⟩ : ByteArray), ([] : List Int)⟩
def k57 : Kd S57 := Kd.iso (Kd.pair Kd.string (Kd.slice 3 (Kd.int .i64))) (fun x : S57 => (x.f0, x.f1))
theorem k57_heap : Kd.Heap k57 := Kd.heap_iso _ (Kd.heap_pair Kd.heap_string (Kd.heap_slice 3 (Kd.heap_int .i64)))
theorem k57_open {w : World} {x : S57} {cs : List Value} (h : k57.K w x cs) : ∃ A1 c1, cs = [.string x.f0, .slice A1 x.f1.length c1] ∧ x.f1.length ≤ c1 ∧ (Kd.int .i64).C w A1 x.f1.length x.f1 := by
 obtain ⟨_, _, rfl, rfl, ⟨A1, c1, rfl, l1, g1⟩⟩ := h
 exact ⟨A1, c1, rfl, l1, g1⟩
theorem k57_openM {w : World} {base : Nat} {ok : Nat → Prop} {x : S57} {cs : List Value} (h : k57.M w base ok x cs) : ∃ v1, cs = [.string x.f0, v1] ∧ (Kd.int .i64).R 3 w base ok v1 x.f1 := by
 obtain ⟨_, _, rfl, rfl, ⟨v1, rfl, g1⟩⟩ := h
 exact ⟨v1, rfl, g1⟩
theorem k57_mk (w : World) (x : S57) {A1 : Option Addr} {c1 : Nat} (l1 : x.f1.length ≤ c1) (g1 : (Kd.int .i64).C w A1 x.f1.length x.f1) : k57.K w x [.string x.f0, .slice A1 x.f1.length c1] := ⟨[.string x.f0], [.slice A1 x.f1.length c1], rfl, rfl, ⟨A1, c1, rfl, l1, g1⟩⟩
theorem k57_mkM (w : World) (base : Nat) (ok : Nat → Prop) (x : S57) {v1 : Value} (g1 : (Kd.int .i64).R 3 w base ok v1 x.f1) : k57.M w base ok x [.string x.f0, v1] := ⟨[.string x.f0], [v1], rfl, rfl, ⟨v1, rfl, g1⟩⟩
theorem k57_openF {W : World} {ok : Nat → Prop} {x : S57} {cs : List Value} (h : Kd.FK k57 W ok x cs) : ∃ A1 c1, cs = [.string x.f0, .slice A1 x.f1.length c1] ∧ x.f1.length ≤ c1 ∧ Kd.F (Kd.int .i64) W ok A1 x.f1.length x.f1 := by
 obtain ⟨A1, c1, rfl, l1, _⟩ := k57_open (Kd.FK_now h)
 exact ⟨A1, c1, rfl, l1, (fun W' hW => by obtain ⟨A1_, c1_, he, l1_, g1_⟩ := k57_open (h W' hW); injection (Option.some.inj (show some (Value.slice A1 x.f1.length c1) = some (Value.slice A1_ x.f1.length c1_) from congrArg (fun l => l[1]?) he)) with ha_ _ _; rw [ha_]; exact g1_)⟩
theorem k57_mkF (W : World) (ok : Nat → Prop) (x : S57) {A1 : Option Addr} {c1 : Nat} (l1 : x.f1.length ≤ c1) (g1 : Kd.F (Kd.int .i64) W ok A1 x.f1.length x.f1) : Kd.FK k57 W ok x [.string x.f0, .slice A1 x.f1.length c1] := fun W2 hW => k57_mk W2 x l1 (g1 W2 hW)
def zA6 (xs : List S57) (i : Int) : S57 := xs.getD i.toNat z57
theorem zC5 {w : World} {A : Option Addr} {n : Nat} {xs : List S57} (h : Kd.C k57 w A n xs) (i : Int) (h0 : 0 ≤ i) (h1 : i < n) : ∃ ad A1 c1, A = some ad ∧ w.cell? (ad.add (i.toNat * 2)) = some (.string (zA6 xs i).f0) ∧ w.cell? ⟨(ad.add (i.toNat * 2)).block, (ad.add (i.toNat * 2)).off + 1, none⟩ = some (.slice A1 (zA6 xs i).f1.length c1) ∧ (zA6 xs i).f1.length ≤ c1 ∧ (Kd.int .i64).C w A1 (zA6 xs i).f1.length (zA6 xs i).f1 := by
 obtain ⟨ad, c, e, _, hK, hc0⟩ := Kd.C_get h z57 i h0 h1
 have hc : ∀ j u, c[j]? = some u → w.cell? (ad.add (i.toNat * 2 + j)) = some u := hc0
 obtain ⟨A1, c1, rfl, l1, g1⟩ := k57_open hK
 exact ⟨ad, A1, c1, e, hc 0 _ rfl, by rw [← add_field _ _ 1 (by omega)]; exact hc 1 _ rfl, l1, g1⟩
def rd_L11 (xs : List (List S57)) (i : Int) : (List S57) := xs.getD i.toNat ([] : List S57)
theorem at_L11 {w : World} {A : Option Addr} {n : Nat} {xs : List (List S57)} (h : Kd.C (Kd.slice 57 k57) w A n xs) (i : Int) (h0 : 0 ≤ i) (h1 : i < n) : ∃ ad A0 c0, A = some ad ∧ w.cell? (ad.add i.toNat) = some (.slice A0 (rd_L11 xs i).length c0) ∧ (rd_L11 xs i).length ≤ c0 ∧ k57.C w A0 (rd_L11 xs i).length (rd_L11 xs i) := by
 obtain ⟨ad, c, e, _, hK, hc0⟩ := Kd.C_get h ([] : List S57) i h0 h1
 have hc : ∀ j u, c[j]? = some u → w.cell? (ad.add (i.toNat * 1 + j)) = some u := hc0
 obtain ⟨A0, c0, rfl, l0, g0⟩ := hK
 exact ⟨ad, A0, c0, e, by have hq := hc 0 _ rfl; rwa [Nat.mul_one, Nat.add_zero] at hq, l0, g0⟩
/- the table of math/bits: where it lies, what it holds -/
def tabA : Addr := ⟨1, 0, none⟩
def tabL : List Int := [0, 1, 56, 2, 57, 49, 28, 3, 61, 58, 42, 50, 38, 29, 17, 4, 62, 47, 59, 36, 45, 43, 51, 22, 53, 39, 33, 30, 24, 18, 12, 5, 63, 55, 48, 27, 60, 41, 37, 16, 46, 35, 44, 21, 52, 32, 23, 11, 54, 26, 40, 15, 34, 20, 31, 10, 25, 14, 19, 9, 13, 8, 7, 6]
structure Gr (w w' : World) : Prop where mk :: (out : ∃ q os, w' = Go.Sort.grow (w.drewN q) os)
theorem Gr.refl (w : World) : Gr w w := ⟨0, #[], by simp [World.drewN]⟩
theorem Gr.alloc {w W : World} (h : Gr w W) (o : Obj) : Gr w (W.alloc o) := by
 obtain ⟨q, os, rfl⟩ := h.out
 exact ⟨q, os ++ #[o], by rw [Go.Sort.alloc_eq_grow, Go.Sort.grow_grow]⟩
theorem Gr.drewN {w W : World} (h : Gr w W) (n : Nat) : Gr w (W.drewN n) := by
 obtain ⟨q, os, rfl⟩ := h.out
 exact ⟨q + n, os, by simp [Go.Sort.grow, World.drewN, Nat.add_assoc]⟩
theorem Gr.drew {w W : World} (h : Gr w W) : Gr w W.drew := h.drewN 1
theorem Gr.trans {w W W' : World} (h : Gr w W) (h' : Gr W W') : Gr w W' := by
 obtain ⟨q, os, rfl⟩ := h.out
 obtain ⟨q', os', rfl⟩ := h'.out
 exact ⟨q + q', os ++ os', by simp [Go.Sort.grow, World.drewN, Nat.add_assoc, Array.append_assoc]⟩
theorem Gr.below {w W : World} (h : Gr w W) : Below w.heap.size w W := by
 obtain ⟨q, os, rfl⟩ := h.out
 refine ⟨rfl, rfl, rfl, by simp [Go.Sort.grow, World.drewN], fun k hk => ?_⟩
 simp only [Go.Sort.grow, World.drewN]
 rw [Array.getElem?_append_left hk]
theorem Gr.of_drawn {w W : World} (h : zAr w W) : Gr w W := by
 obtain ⟨n, rfl⟩ := h.out
 exact (Gr.refl w).drewN n
section
variable {P : Program} {ops : Array Oper} {rest : List Oper} {o : Oper} {a : Act} {Q : Exit → Act → World → Prop} {Kc : Act → World → Prop}
theorem box_eventG {W : World} (hgd : o.guard = none) {N : Tmp} (_hd : o.dst = some N) {cs : Array Value} {t : TypeId}
  (hrun : (execOp a.eval o).run P W = .ok (.value (.pointer (some ⟨W.heap.size, 0, none⟩))) (W.alloc (.cells cs t (0, 0))))
  (h : ∀ g, g = W.heap.size → ∀ w1, w1.heap[g]? = some (.cells cs t (0, 0)) → Below W.heap.size W w1 → Gr W w1 → wpList P ops Q rest (a.put o.dst (.pointer (some ⟨g, 0, none⟩))) w1) : wpList P ops Q (o :: rest) a W :=
 Kd.event_run hgd hrun (h _ rfl _ (blk_new W _) (zA2 (Below.refl _ _) _) ((Gr.refl W).alloc _))
theorem R_lit_stepG {α : Type} (d : Kd α) {w0 W : World} (base e : Nat) (hw : Region.wanted o (yielded ops a.tmps) = true) {N : Tmp} (_hd : o.dst = some N) {xs : List α} {inner : List Value} {ok okp : Nat → Prop}
  (hrun : (execOp a.eval o).run P W = .ok (.value (.slice (some ⟨W.heap.size, 0, none⟩) xs.length xs.length)) (W.alloc (.cells inner.toArray e)))
  (hrep : Reps (d.M W base okp) d.sz xs inner) (hok : ∀ k, okp k → ok k) (hfresh : ok W.heap.size) (HB : Below base w0 W) (hbase : base ≤ W.heap.size) (hm : xs.length ≤ 9223372036854775807)
  (h : ∀ v1 w1, d.R e w1 base ok v1 xs → Below base w0 w1 → W.grownBy w1 none → (∃ b, v1.ownBlock = some b ∧ W.heap.size ≤ b) → Gr W w1 → Kc (a.put o.dst v1) w1) : if Region.wanted o (yielded ops a.tmps) = true then Oper.wp P o a W Kc Q else Kc (a.put o.dst undef) W := by
 refine event_step hw hrun (h _ _ ⟨fun k hk => ?_, inner, ?_, ?_⟩ (HB.alloc hbase _) (World.grownBy_alloc W _ none) ⟨W.heap.size, by simp [Value.ownBlock], Nat.le_refl _⟩ ((Gr.refl W).alloc _))
 ·have : W.heap.size = k := by simpa [Value.ownBlock] using hk
  subst this
  exact hfresh
 ·have h2 := World.ownsRow_lit (base := base) (e := e) (size := d.sz) W inner.toArray xs.length hbase (by simpa [maxLen] using hm) (by simpa using hrep.1)
  simpa using h2
 ·refine hrep.imp_ (fun p c hp => d.M_mono (fun k hk => ⟨hok k hk.1, fun he => ?_⟩) (Kd.M_below (d.M_bound hp) (zA2 (Below.refl _ _) _)))
  have h3 : k = W.heap.size := by simpa [Value.ownBlock] using he
  have := hk.2.2.1
  omega
end
end
end Go.Proofs.YtbghfbhlbfcloaaDoor.PL
namespace Go.Proofs.YtbghfbhlbfcloaaDoor.PL
section
open Go.RowKit Go.Proofs.YtbghfbhlbfcloaaDoorW.PrintWords Go.Proofs.YtbghfbhlbfcloaaDoorW.PrintLast Go.Proofs.YtbghfbhlbfcloaaDoorW.PrintMore
attribute [local go_sem] zBw zBu zC7 zC6 zBo zBn zBv zBt   -- for this text's walks alone
set_option linter.unusedVariables false
set_option linter.unusedSimpArgs false
theorem eqA68 (d : Nat) (w : World) (x0 y0 : Int) (x1 y1 : Int) :
  (Op.equalIn (d + 2) 68 (.agg #[.int .i64 x0, .int .i64 x1]) (.agg #[.int .i64 y0, .int .i64 y1])).run Tryd.prog w = .ok (x0 == y0 && (x1 == y1)) w := by
 refine eqA_of Tryd.underlying68 (by kernel_rfl) ?_
 refine eqf_cons (by rfl) (by go_simp; rfl) (by go_simp; rfl) (by go_simp) ?_
 exact eqf_last (by rfl) (by go_simp; rfl) (by go_simp; rfl) (by go_simp)
end
end Go.Proofs.YtbghfbhlbfcloaaDoor.PL
namespace Go.Proofs.YtbghfbhlbfcloaaDoor.PL
section
open Go.RowKit Go.Proofs.YtbghfbhlbfcloaaDoorW.PrintWords Go.Proofs.YtbghfbhlbfcloaaDoorW.PrintLast Go.Proofs.YtbghfbhlbfcloaaDoorW.PrintMore
attribute [local go_sem] zBw zBu zC7 zC6 zBo zBn zBv zBt   -- for this text's walks alone
set_option linter.unusedVariables false
set_option linter.unusedSimpArgs false
attribute [local go_sem high] eqA68
def zBf.l0 : Nat → List Int → Int → Int → Option (Bool)
 | 0, _, _, _ => none
 | k + 1, x0, x1, x5 => if x5 < (x0.length : Int) then (if 0 ≤ x5 then (if (rd x0 x5) = x1 then (some true) else (zBf.l0 k x0 x1 (wrap64 (x5 + 1)))) else (none)) else (some false)
def zBf.f (k : Nat) (l0 : List Int) (a1 : Int) : Option (Bool) := zBf.l0 k l0 a1 0
theorem zBf.zBq : ∀ k, (∀ y0 y1 y2, LeO (zBf.l0 k y0 y1 y2) (zBf.l0 (k + 1) y0 y1 y2))
 | 0 => fun _ _ _ r h => by simp [zBf.l0] at h
 | k + 1 => by
  have ih0 := zBf.zBq k
  ·intro y0 y1 y2
   unfold zBf.l0
   repeat' first
   | (with_reducible exact ih0 _ _ _)
   | (with_reducible exact LeO.refl _)
   | (with_reducible exact LeO.none _)
   | (with_reducible refine LeO.ite ?_ ?_)
   | (with_reducible refine LeO.bind ?_ (fun _ => ?_))
theorem zBf.mono : ∀ a0 a1 k, LeO (zBf.f k a0 a1) (zBf.f (k + 1) a0 a1) := by
 intro a0 a1 k
 have ih0 := zBf.zBq k
 unfold zBf.f
 repeat' first
   | (with_reducible exact ih0 _ _ _)
   | (with_reducible exact LeO.refl _)
   | (with_reducible exact LeO.none _)
   | (with_reducible refine LeO.ite ?_ ?_)
   | (with_reducible refine LeO.bind ?_ (fun _ => ?_))
set_option maxHeartbeats 8000000 in
set_option maxRecDepth 100000 in
theorem zBf.calls (k : Nat) (A0 : Option Addr) (c0 : Nat) (l0 : List Int) (a1 : Int) (r : Bool) (w : World) (hr0 : Kd.C (Kd.int .i64) w A0 l0.length l0) (hc0 : l0.length ≤ c0) (h : zBf.f k l0 a1 = some r) :
  Calls Tryd.prog 20 #[.slice A0 l0.length c0, .int .i64 a1] w fun e w' => e = .returned (.bool r) ∧ zAr w w' := by
 have HR0 := zA1.mk hr0
 have HC0 := zA1.mk hc0
 clear hr0 hc0
 have H : (zBf.l0 k l0 a1 0) = some r := h
 clear h
 have H' := zA1.mk H
 clear H
 go_enter Tryd.func20, Tryd.ntmps20
 go_wp2
 go_loopg [5] k (fun kq v5 w' => ∃ (x5_1 : Int), v5 = .int .i64 x5_1 ∧ zA1 (zBf.l0 kq l0 a1 x5_1 = some r) ∧ zA1 (kq ≤ k) ∧ zAr w w')
 case atStart => exact ⟨(0), (by first | rfl | (simp; done) | (simp [*]; done)), H', ⟨Nat.le_refl _⟩, by repeat (first | exact zAr.refl _ | apply zAr.step)⟩
 case round =>
  clear H'
  try clear c2
  try clear p2
  obtain ⟨x5_1, rfl, HA, HK1, ⟨m1, rfl⟩⟩ := hrel
  cases gk with
  | zero => exact absurd HA.out (by simp [zBf.l0])
  | succ k1 =>
   have H := HA.out
   clear HA
   simp only [zBf.l0] at H
   by_cases c3 : x5_1 < (l0.length : Int)
   ·rw [if_pos c3] at H
    have c3b0 : decide (x5_1 < (l0.length : Int)) = true := decide_eq_true c3
    clear c3
    by_cases c4 : 0 ≤ x5_1
    rotate_left
    ·rw [if_neg c4] at H
     exact absurd H (by simp)
    rw [if_pos c4] at H
    have c4b0 : decide (0 ≤ x5_1) = true := decide_eq_true c4
    clear c4
    by_cases c5 : (rd l0 x5_1) = a1
    ·rw [if_pos c5] at H
     have c5b0 : ((rd l0 x5_1) == a1) = true := beq_iff_eq.mpr c5
     have c5b1 : ((rd l0 x5_1) != a1) = false := bne_eq_false_iff_eq.mpr c5
     clear c5
     obtain rfl := Option.some.inj H
     have p194 : 0 ≤ (x5_1 : Int) := of_decide_eq_true (by first | (with_reducible assumption) | assumption)
     have q194 : x5_1 < (l0.length : Int) := of_decide_eq_true (by first | (with_reducible assumption) | assumption)
     obtain ⟨ad194, e194, hx194_0⟩ := Kd.at_int HR0.out x5_1 p194 q194
     cases e194
     replace p194 := eq_true p194
     replace q194 := eq_true q194
     go_wp2
     go_ret
     exact ⟨by first | rfl | (simp; done) | (simp [*]; done), by repeat (first | exact zAr.refl _ | apply zAr.step)⟩
    ·rw [if_neg c5] at H
     have c5b0 : ((rd l0 x5_1) == a1) = false := beq_eq_false_iff_ne.mpr c5
     have c5b1 : ((rd l0 x5_1) != a1) = true := bne_iff_ne.mpr c5
     have H' := zA1.mk H
     clear H
     have p194 : 0 ≤ (x5_1 : Int) := of_decide_eq_true (by first | (with_reducible assumption) | assumption)
     have q194 : x5_1 < (l0.length : Int) := of_decide_eq_true (by first | (with_reducible assumption) | assumption)
     obtain ⟨ad194, e194, hx194_0⟩ := Kd.at_int HR0.out x5_1 p194 q194
     cases e194
     replace p194 := eq_true p194
     replace q194 := eq_true q194
     go_wp2
     go_roundg k1
     case measure => have := HK1.out; omega
     case rel => exact ⟨(wrap64 (x5_1 + 1)), (by first | rfl | (simp; done) | (simp [*]; done)), H', ⟨by have := HK1.out; omega⟩, by repeat (first | exact zAr.refl _ | apply zAr.step)⟩
   ·rw [if_neg c3] at H
    have c3b0 : decide (x5_1 < (l0.length : Int)) = false := decide_eq_false c3
    clear c3
    obtain rfl := Option.some.inj H
    go_wp2
    go_ret
    exact ⟨by first | rfl | (simp; done) | (simp [*]; done), by repeat (first | exact zAr.refl _ | apply zAr.step)⟩
end
end Go.Proofs.YtbghfbhlbfcloaaDoor.PL
namespace Go.Proofs.YtbghfbhlbfcloaaDoor.PL
section
open Go.RowKit Go.Proofs.YtbghfbhlbfcloaaDoorW.PrintWords Go.Proofs.YtbghfbhlbfcloaaDoorW.PrintLast Go.Proofs.YtbghfbhlbfcloaaDoorW.PrintMore
attribute [local go_sem] zBw zBu zC7 zC6 zBo zBn zBv zBt   -- for this text's walks alone
set_option linter.unusedVariables false
set_option linter.unusedSimpArgs false
attribute [local go_sem high] eqA68
def zBj.l0 : Nat → Int → Int → Int → Int → List (S68) → Option (Bool)
 | 0, _, _, _, _, _ => none
 | k + 1, x1, x2, x7, x193000, x193001 => if x7 < (x193001.length : Int) then (if 0 ≤ x7 then (if (((zB4 x193001 x7).f0) == x1 && (((zB4 x193001 x7).f1) == x2)) = true then (some true) else (zBj.l0 k x1 x2 (wrap64 (x7 + 1)) x193000 x193001)) else (none)) else (some false)
def zBj.f (k : Nat) (a0_0 : Int) (l0_1 : List (S68)) (a1 : Int) (a2 : Int) : Option (Bool) := zBj.l0 k a1 a2 0 a0_0 l0_1
theorem zBj.zBq : ∀ k, (∀ y0 y1 y2 y3 y4, LeO (zBj.l0 k y0 y1 y2 y3 y4) (zBj.l0 (k + 1) y0 y1 y2 y3 y4))
 | 0 => fun _ _ _ _ _ r h => by simp [zBj.l0] at h
 | k + 1 => by
  have ih0 := zBj.zBq k
  ·intro y0 y1 y2 y3 y4
   unfold zBj.l0
   repeat' first
   | (with_reducible exact ih0 _ _ _ _ _)
   | (with_reducible exact LeO.refl _)
   | (with_reducible exact LeO.none _)
   | (with_reducible refine LeO.ite ?_ ?_)
   | (with_reducible refine LeO.bind ?_ (fun _ => ?_))
theorem zBj.mono : ∀ a0 a1 a2 a3 k, LeO (zBj.f k a0 a1 a2 a3) (zBj.f (k + 1) a0 a1 a2 a3) := by
 intro a0 a1 a2 a3 k
 have ih0 := zBj.zBq k
 unfold zBj.f
 repeat' first
   | (with_reducible exact ih0 _ _ _ _ _)
   | (with_reducible exact LeO.refl _)
   | (with_reducible exact LeO.none _)
   | (with_reducible refine LeO.ite ?_ ?_)
   | (with_reducible refine LeO.bind ?_ (fun _ => ?_))
set_option maxHeartbeats 8000000 in
set_option maxRecDepth 100000 in
theorem zBj.calls (k : Nat) (a0_0 : Int) (A0_1 : Option Addr) (c0_1 : Nat) (l0_1 : List (S68)) (a1 : Int) (a2 : Int) (r : Bool) (w : World) (hr0_1 : Kd.C k68 w A0_1 l0_1.length l0_1) (hc0_1 : l0_1.length ≤ c0_1) (h : zBj.f k a0_0 l0_1 a1 a2 = some r) :
  Calls Tryd.prog 19 #[.agg #[.int .i64 a0_0, .slice A0_1 l0_1.length c0_1], .int .i64 a1, .int .i64 a2] w fun e w' => e = .returned (.bool r) ∧ Below w.heap.size w w' := by
 have hu28 := Tryd.underlying28
 have hu68 := Tryd.underlying68
 have HR0_1 := zA1.mk hr0_1
 have HC0_1 := zA1.mk hc0_1
 clear hr0_1 hc0_1
 have HB := zA1.mk (Below.refl w.heap.size w)
 have H : (zBj.l0 k a1 a2 0 a0_0 l0_1) = some r := h
 clear h
 have H' := zA1.mk H
 clear H
 go_enter Tryd.func19, Tryd.ntmps19
 go_wp2_with (first | ((with_reducible refine zBl (N := 3) rfl ?_); refine zBp ?hg (N := 3) ?hd (cs := #[.int .i64 a0_0, .slice A0_1 l0_1.length c0_1]) (t := 28) ?hr ?_; (case hd => rfl); (case hg => rfl); (case hr => first | (go_simp; done) | (go_simp; rfl)); intro gb192 hg w4 hbox hb; have n0_ := zA1.mk (zAm (by repeat (first | (with_reducible first | exact HB.out | apply zA2 | apply zA0 | apply zA3) | exact HB.out)) hb); have n1_ := zA1.mk (hbox); have n2_ := zA1.mk ((by rw [hg]; exact (zAc (by repeat (first | (with_reducible first | exact HB.out | apply zA2 | apply zA0 | apply zA3) | exact HB.out))) : w.heap.size ≤ gb192)); have n3_ := zA1.mk ((by rw [hg]; exact (zAc (by repeat (first | (with_reducible first | exact HB.out | apply zA2 | apply zA0 | apply zA3) | exact HB.out))) : w.heap.size ≤ gb192)); clear HB; have HB := n0_; have BK192 := n1_; have GW192 := n2_; have GE192 := n3_; clear n0_ n1_ n2_ n3_; clear hb hbox hg))
 go_loopg [7] k (fun kq v7 w' => ∃ (x7_1 : Int), v7 = .int .i64 x7_1 ∧ zA1 (zBj.l0 kq a1 a2 x7_1 a0_0 l0_1 = some r) ∧ zA1 (kq ≤ k) ∧ zA1 (w'.heap[gb192]? = some (.cells #[.int .i64 a0_0, (.slice A0_1 l0_1.length c0_1)] 28 (0, 0))) ∧ zA1 (Below w.heap.size w w'))
 case atStart => exact ⟨(0), (by first | rfl | (simp; done) | (simp [*]; done)), H', ⟨Nat.le_refl _⟩, ⟨by (with_reducible repeat (first | refine zAb ?_ _ | refine zAf ?_ | refine zAa ?_ _)); exact BK192.out⟩, ⟨by repeat (first | (with_reducible first | exact HB.out | apply zA2 | apply zA0 | apply zA3 | refine zA7 ?_ GE192.out) | exact HB.out)⟩⟩
 case round =>
  clear H'
  try clear c1
  try clear p2
  obtain ⟨x7_1, rfl, HA, HK1, BK192, HB⟩ := hrel
  cases gk with
  | zero => exact absurd HA.out (by simp [zBj.l0])
  | succ k1 =>
   have H := HA.out
   clear HA
   simp only [zBj.l0] at H
   by_cases c5 : x7_1 < (l0_1.length : Int)
   ·rw [if_pos c5] at H
    have c5b0 : decide (x7_1 < (l0_1.length : Int)) = true := decide_eq_true c5
    clear c5
    by_cases c6 : 0 ≤ x7_1
    rotate_left
    ·rw [if_neg c6] at H
     exact absurd H (by simp)
    rw [if_pos c6] at H
    have c6b0 : decide (0 ≤ x7_1) = true := decide_eq_true c6
    clear c6
    by_cases c7 : (((zB4 l0_1 x7_1).f0) == a1 && (((zB4 l0_1 x7_1).f1) == a2)) = true
    ·rw [if_pos c7] at H
     have c7b0 : (((zB4 l0_1 x7_1).f0) == a1 && (((zB4 l0_1 x7_1).f1) == a2)) = true := c7
     (try (have c7b1 : decide (((zB4 l0_1 x7_1).f0) = a1 && (((zB4 l0_1 x7_1).f1) == a2)) = true := by simpa using c7))
     (try (have c7b2 : (((zB4 l0_1 x7_1).f0) == a1 && (((zB4 l0_1 x7_1).f1) == a2)) = true := by simpa using c7))
     clear c7
     obtain rfl := Option.some.inj H
     have hcz8_0 : wr.cell? ⟨gb192, 0, none⟩ = some (.int .i64 a0_0) := (zA9 BK192.out 0).trans rfl
     have hcz8_1 : wr.cell? ⟨gb192, 1, none⟩ = some (.slice A0_1 l0_1.length c0_1) := (zA9 BK192.out 1).trans rfl
     have hfz8_0 := zAh BK192.out 0
     have hfz8_1 := zAh BK192.out 1
     have p193 : 0 ≤ (x7_1 : Int) := of_decide_eq_true (by first | (with_reducible assumption) | assumption)
     have q193 : x7_1 < (l0_1.length : Int) := of_decide_eq_true (by first | (with_reducible assumption) | assumption)
     obtain ⟨ad193, e193, hx193_0, hx193_1⟩ := at_T68 HR0_1.out x7_1 p193 q193
     cases e193
     replace hx193_0 := (HB.out.cell (World.block_lt_of_cell? w _ hx193_0)).trans hx193_0
     replace hx193_1 := (HB.out.cell (World.block_lt_of_cell? w _ hx193_1)).trans hx193_1
     replace p193 := eq_true p193
     replace q193 := eq_true q193
     go_wp2
     go_ret
     exact ⟨by first | rfl | (simp [zAx, zAw] <;> rfl) | (simp [*, zAx, zAw] <;> rfl), by repeat (first | (with_reducible first | exact HB.out | apply zA2 | apply zA0 | apply zA3 | refine zA7 ?_ GE192.out) | exact HB.out)⟩
    ·rw [if_neg c7] at H
     have c7b0 : (((zB4 l0_1 x7_1).f0) == a1 && (((zB4 l0_1 x7_1).f1) == a2)) = false := by simpa using c7
     (try (have c7b1 : decide (((zB4 l0_1 x7_1).f0) = a1 && (((zB4 l0_1 x7_1).f1) == a2)) = false := by simpa using c7))
     (try (have c7b2 : (((zB4 l0_1 x7_1).f0) == a1 && (((zB4 l0_1 x7_1).f1) == a2)) = false := by simpa using c7))
     (try (have c7b3 : ¬ (((zB4 l0_1 x7_1).f0) = a1 && (((zB4 l0_1 x7_1).f1) == a2)) := by simpa using c7))
     clear c7
     have H' := zA1.mk H
     clear H
     have hcz9_0 : wr.cell? ⟨gb192, 0, none⟩ = some (.int .i64 a0_0) := (zA9 BK192.out 0).trans rfl
     have hcz9_1 : wr.cell? ⟨gb192, 1, none⟩ = some (.slice A0_1 l0_1.length c0_1) := (zA9 BK192.out 1).trans rfl
     have hfz9_0 := zAh BK192.out 0
     have hfz9_1 := zAh BK192.out 1
     have p193 : 0 ≤ (x7_1 : Int) := of_decide_eq_true (by first | (with_reducible assumption) | assumption)
     have q193 : x7_1 < (l0_1.length : Int) := of_decide_eq_true (by first | (with_reducible assumption) | assumption)
     obtain ⟨ad193, e193, hx193_0, hx193_1⟩ := at_T68 HR0_1.out x7_1 p193 q193
     cases e193
     replace hx193_0 := (HB.out.cell (World.block_lt_of_cell? w _ hx193_0)).trans hx193_0
     replace hx193_1 := (HB.out.cell (World.block_lt_of_cell? w _ hx193_1)).trans hx193_1
     replace p193 := eq_true p193
     replace q193 := eq_true q193
     go_wp2
     go_roundg k1
     case measure => have := HK1.out; omega
     case rel => exact ⟨(wrap64 (x7_1 + 1)), (by first | rfl | (simp; done) | (simp [*]; done)), H', ⟨by have := HK1.out; omega⟩, ⟨by (with_reducible repeat (first | refine zAb ?_ _ | refine zAf ?_ | refine zAa ?_ _)); exact BK192.out⟩, ⟨by repeat (first | (with_reducible first | exact HB.out | apply zA2 | apply zA0 | apply zA3 | refine zA7 ?_ GE192.out) | exact HB.out)⟩⟩
   ·rw [if_neg c5] at H
    have c5b0 : decide (x7_1 < (l0_1.length : Int)) = false := decide_eq_false c5
    clear c5
    obtain rfl := Option.some.inj H
    have hcz10_0 : wr.cell? ⟨gb192, 0, none⟩ = some (.int .i64 a0_0) := (zA9 BK192.out 0).trans rfl
    have hcz10_1 : wr.cell? ⟨gb192, 1, none⟩ = some (.slice A0_1 l0_1.length c0_1) := (zA9 BK192.out 1).trans rfl
    have hfz10_0 := zAh BK192.out 0
    have hfz10_1 := zAh BK192.out 1
    go_wp2
    go_ret
    exact ⟨by first | rfl | (simp [zAx, zAw] <;> rfl) | (simp [*, zAx, zAw] <;> rfl), by repeat (first | (with_reducible first | exact HB.out | apply zA2 | apply zA0 | apply zA3 | refine zA7 ?_ GE192.out) | exact HB.out)⟩
end
end Go.Proofs.YtbghfbhlbfcloaaDoor.PL
namespace Go.Proofs.YtbghfbhlbfcloaaDoor.PL
section
open Go.RowKit Go.Proofs.YtbghfbhlbfcloaaDoorW.PrintWords Go.Proofs.YtbghfbhlbfcloaaDoorW.PrintLast Go.Proofs.YtbghfbhlbfcloaaDoorW.PrintMore
attribute [local go_sem] zBw zBu zC7 zC6 zBo zBn zBv zBt   -- for this text's walks alone
set_option linter.unusedVariables false
set_option linter.unusedSimpArgs false
def zB2.l0 : Nat → List Int → List Int → List Int → Int → Option (List Int)
 | 0, _, _, _, _ => none
 | k + 1, x0, x1, x5, x6 => if x6 < (x0.length : Int) then (if 0 ≤ x6 then ((zBf.f k x1 (rd x0 x6)).bind fun t276 => (if t276 = true then (zB2.l0 k x0 x1 x5 (wrap64 (x6 + 1))) else (if x5.length < 17592186044416 then (zB2.l0 k x0 x1 (x5 ++ [rd x0 x6]) (wrap64 (x6 + 1))) else (none)))) else (none)) else (some x5)
def zB2.f (k : Nat) (l0 : List Int) (l1 : List Int) : Option (List Int) := zB2.l0 k l0 l1 ([] : List Int) 0
theorem zB2.zBq : ∀ k, (∀ y0 y1 y2 y3, LeO (zB2.l0 k y0 y1 y2 y3) (zB2.l0 (k + 1) y0 y1 y2 y3))
 | 0 => fun _ _ _ _ r h => by simp [zB2.l0] at h
 | k + 1 => by
  have ih0 := zB2.zBq k
  ·intro y0 y1 y2 y3
   unfold zB2.l0
   repeat' first
   | (with_reducible exact ih0 _ _ _ _)
   | (with_reducible exact zBf.mono _ _ _)
   | (with_reducible exact LeO.refl _)
   | (with_reducible exact LeO.none _)
   | (with_reducible refine LeO.ite ?_ ?_)
   | (with_reducible refine LeO.bind ?_ (fun _ => ?_))
theorem zB2.mono : ∀ a0 a1 k, LeO (zB2.f k a0 a1) (zB2.f (k + 1) a0 a1) := by
 intro a0 a1 k
 have ih0 := zB2.zBq k
 unfold zB2.f
 repeat' first
   | (with_reducible exact ih0 _ _ _ _)
   | (with_reducible exact zBf.mono _ _ _)
   | (with_reducible exact LeO.refl _)
   | (with_reducible exact LeO.none _)
   | (with_reducible refine LeO.ite ?_ ?_)
   | (with_reducible refine LeO.bind ?_ (fun _ => ?_))
set_option maxHeartbeats 8000000 in
set_option maxRecDepth 100000 in
theorem zB2.calls (k : Nat) (A0 : Option Addr) (c0 : Nat) (l0 : List Int) (A1 : Option Addr) (c1 : Nat) (l1 : List Int) (r : List Int) (w : World) (hr0 : Kd.C (Kd.int .i64) w A0 l0.length l0) (hc0 : l0.length ≤ c0) (hr1 : Kd.C (Kd.int .i64) w A1 l1.length l1) (hc1 : l1.length ≤ c1) (h : zB2.f k l0 l1 = some r) :
  Calls Tryd.prog 43 #[.slice A0 l0.length c0, .slice A1 l1.length c1] w fun e w' => ∃ v0_ : Value, e = .returned (v0_) ∧ Kd.R (Kd.int .i64) 3 w' w.heap.size (fun _ => True) v0_ r ∧ Below w.heap.size w w' := by
 have HR0 := zA1.mk hr0
 have HC0 := zA1.mk hc0
 clear hr0 hc0
 have HR1 := zA1.mk hr1
 have HC1 := zA1.mk hc1
 clear hr1 hc1
 have HB := zA1.mk (Below.refl w.heap.size w)
 have H : (zB2.l0 k l0 l1 ([] : List Int) 0) = some r := h
 clear h
 have H' := zA1.mk H
 clear H
 go_enter Tryd.func43, Tryd.ntmps43
 go_wp2
 go_loopg [5, 6] k (fun kq v5 v6 w' => ∃ (x5_1 : List Int) (x6_1 : Int), v6 = .int .i64 x6_1 ∧ zA1 (zB2.l0 kq l0 l1 x5_1 x6_1 = some r) ∧ zA1 (kq ≤ k) ∧ zA1 (Kd.R (Kd.int .i64) 3 w' w.heap.size (fun _ => True) v5 x5_1) ∧ zA1 (Below w.heap.size w w'))
 case atStart => exact ⟨(([] : List Int)), (0), (by first | rfl | (simp; done) | (simp [*]; done)), H', ⟨Nat.le_refl _⟩, ⟨by first | exact Kd.R_nil _ _ _ _ _ | exact Kd.N_nil _ _ _ _ _ | exact Kd.V_nil _ _ _ _ _ | exact Kd.Q_nil _ _ _ _ _ | exact Kd.S_nil _ _ _ _ _⟩, ⟨by repeat (first | (with_reducible first | exact HB.out | apply zA2 | apply zA0 | apply zA3) | exact HB.out)⟩⟩
 case round =>
  clear H'
  try clear c1
  try clear p2
  obtain ⟨x5_1, x6_1, rfl, HA, HK1, HO_5, HB⟩ := hrel
  cases gk with
  | zero => exact absurd HA.out (by simp [zB2.l0])
  | succ k1 =>
   have H := HA.out
   clear HA
   simp only [zB2.l0] at H
   by_cases c3 : x6_1 < (l0.length : Int)
   ·rw [if_pos c3] at H
    have c3b0 : decide (x6_1 < (l0.length : Int)) = true := decide_eq_true c3
    clear c3
    by_cases c4 : 0 ≤ x6_1
    rotate_left
    ·rw [if_neg c4] at H
     exact absurd H (by simp)
    rw [if_pos c4] at H
    have c4b0 : decide (0 ≤ x6_1) = true := decide_eq_true c4
    clear c4
    replace H := Option.bind_eq_some_iff.mp H
    obtain ⟨t276, A50, H⟩ := H
    replace H : (if t276 = true then (zB2.l0 k1 l0 l1 x5_1 (wrap64 (x6_1 + 1))) else (if x5_1.length < 17592186044416 then (zB2.l0 k1 l0 l1 (x5_1 ++ [rd l0 x6_1]) (wrap64 (x6_1 + 1))) else (none))) = some r := H
    have A5 := zA1.mk A50
    clear A50
    by_cases c6 : t276 = true
    ·subst c6
     have H1 : (zB2.l0 k1 l0 l1 x5_1 (wrap64 (x6_1 + 1))) = some r := by rw [if_pos rfl] at H; exact H
     clear H
     have H := H1
     clear H1
     have H' := zA1.mk H
     clear H
     have p275 : 0 ≤ (x6_1 : Int) := of_decide_eq_true (by first | (with_reducible assumption) | assumption)
     have q275 : x6_1 < (l0.length : Int) := of_decide_eq_true (by first | (with_reducible assumption) | assumption)
     obtain ⟨ad275, e275, hx275_0⟩ := Kd.at_int HR0.out x6_1 p275 q275
     cases e275
     replace hx275_0 := (HB.out.cell (World.block_lt_of_cell? w _ hx275_0)).trans hx275_0
     replace p275 := eq_true p275
     replace q275 := eq_true q275
     go_wp2_with (first | ((with_reducible refine zB1 (f := 20) rfl ?_); refine zC2 (some 18) rfl rfl Tryd.func20 (by kernel_rfl) rfl #[.slice A1 l1.length c1, .int .i64 (rd l0 x6_1)] rfl (by (try simp only [List.map_toArray, List.map_cons, List.map_nil]); first | done | rfl | (simp only [List.length_drop, List.length_take]; rfl)) ?_; (with_reducible refine (zBf.calls k1 _ _ l1 (rd l0 x6_1) true _ ?side1 ?side2 A5.out).mono ?_); (case side1 => repeat (first | exact (Kd.zAy HR1.out HB.out) | (with_reducible refine Kd.zA8 ?_ _) | (with_reducible refine Kd.zAd ?_ _) | (with_reducible refine Kd.zAp ?_))); (case side2 => exact HC1.out); rintro e w' ⟨rfl, ⟨nd, rfl⟩⟩; refine ⟨_, rfl, ?_⟩))
     go_roundg k1
     case measure => have := HK1.out; omega
     case rel => exact ⟨(x5_1), (wrap64 (x6_1 + 1)), (by first | rfl | (simp; done) | (simp [*]; done)), H', ⟨by have := HK1.out; omega⟩, ⟨by (with_reducible repeat (first | apply Kd.zAk | apply Kd.zAj | apply Kd.zAt)); exact HO_5.out⟩, ⟨by repeat (first | (with_reducible first | exact HB.out | apply zA2 | apply zA0 | apply zA3) | exact HB.out)⟩⟩
    ·replace c6 := Bool.eq_false_iff.mpr c6
     subst c6
     have H1 : (if x5_1.length < 17592186044416 then (zB2.l0 k1 l0 l1 (x5_1 ++ [rd l0 x6_1]) (wrap64 (x6_1 + 1))) else (none)) = some r := by rw [if_neg (show ¬ (false = true) by decide)] at H; exact H
     clear H
     have H := H1
     clear H1
     by_cases c7 : x5_1.length < 17592186044416
     rotate_left
     ·rw [if_neg c7] at H
      exact absurd H (by simp)
     rw [if_pos c7] at H
     have LMc7 := zA1.mk c7
     clear c7
     obtain ⟨y278, hy278⟩ : ∃ y_ : List Int, y_ = (x5_1 ++ [rd l0 x6_1]) := ⟨_, rfl⟩
     replace H : (zB2.l0 k1 l0 l1 y278 (wrap64 (x6_1 + 1))) = some r := by first | (rw [hy278]; with_reducible exact H) | (have H2_ := (Option.bind_some _ _).symm.trans H; rw [hy278]; with_reducible exact H2_) | (have H2_ := (Option.bind_some _ _).symm.trans H; with_reducible exact H2_) | with_reducible exact H | (rw [hy278]; exact H) | exact H
     have Ny278 := zA1.mk hy278
     clear hy278
     have H' := zA1.mk H
     clear H
     have p275 : 0 ≤ (x6_1 : Int) := of_decide_eq_true (by first | (with_reducible assumption) | assumption)
     have q275 : x6_1 < (l0.length : Int) := of_decide_eq_true (by first | (with_reducible assumption) | assumption)
     obtain ⟨ad275, e275, hx275_0⟩ := Kd.at_int HR0.out x6_1 p275 q275
     cases e275
     replace hx275_0 := (HB.out.cell (World.block_lt_of_cell? w _ hx275_0)).trans hx275_0
     replace p275 := eq_true p275
     replace q275 := eq_true q275
     go_wp2_with (first | ((with_reducible refine zB1 (f := 20) rfl ?_); refine zC2 (some 18) rfl rfl Tryd.func20 (by kernel_rfl) rfl #[.slice A1 l1.length c1, .int .i64 (rd l0 x6_1)] rfl (by (try simp only [List.map_toArray, List.map_cons, List.map_nil]); first | done | rfl | (simp only [List.length_drop, List.length_take]; rfl)) ?_; (with_reducible refine (zBf.calls k1 _ _ l1 (rd l0 x6_1) false _ ?side1 ?side2 A5.out).mono ?_); (case side1 => repeat (first | exact (Kd.zAy HR1.out HB.out) | (with_reducible refine Kd.zA8 ?_ _) | (with_reducible refine Kd.zAd ?_ _) | (with_reducible refine Kd.zAp ?_))); (case side2 => exact HC1.out); rintro e w' ⟨rfl, ⟨nd, rfl⟩⟩; refine ⟨_, rfl, ?_⟩; have p277 : 0 ≤ (x6_1 : Int) := of_decide_eq_true (by first | (with_reducible assumption) | assumption); have q277 : x6_1 < (l0.length : Int) := of_decide_eq_true (by first | (with_reducible assumption) | assumption); obtain ⟨ad277, e277, hx277_0⟩ := Kd.at_int HR0.out x6_1 p277 q277; obtain rfl : ad275 = ad277 := (by injection e277); replace hx277_0 := (HB.out.cell (World.block_lt_of_cell? w _ hx277_0)).trans hx277_0; replace p277 := eq_true p277; replace q277 := eq_true q277) | ((with_reducible refine zC1 (b := .append) (xs := #[.tmp 20, .tmp 25]) rfl ?_); at_builtin; refine Kd.R_append (Kd.int .i64) (w0 := w) w.heap.size rfl (.tmp 20) (.tmp 25) 23 3 (.int .i64 0) 8 rfl Tryd.underlying23 info3 rfl (by decide) (by omega) u5 x5_1 (rd l0 x6_1) [.int .i64 (rd l0 x6_1)] (fun _ => True) (fun _ => False) rfl rfl ?aP (fun _ hk => hk.elim) ?aF ?aO ?aB ?aS ?aL ?_; (case aP => exact rfl); (case aB => exact (by repeat (first | (with_reducible first | exact HB.out | apply zA2 | apply zA0 | apply zA3) | exact HB.out))); (case aF => exact (fun _ _ => trivial)); (case aO => exact (by (with_reducible repeat (first | apply Kd.zAk | apply Kd.zAj | apply Kd.zAt)); exact HO_5.out)); (case aS => exact (zAc (by repeat (first | (with_reducible first | exact HB.out | apply zA2 | apply zA0 | apply zA3) | exact HB.out)))); (case aL => have := LMc7.out; omega); intro v279 w8 ho hb hg hat; rw [← Ny278.out] at ho; have n0_ := zA1.mk (hb); have n1_ := zA1.mk (ho); clear HB; clear HO_5; have HB := n0_; have HO280 := n1_; clear n0_ n1_; clear ho hb hg hat))
     go_roundg k1
     case measure => have := HK1.out; omega
     case rel => exact ⟨(y278), (wrap64 (x6_1 + 1)), (by first | rfl | (simp; done) | (simp [*]; done)), H', ⟨by have := HK1.out; omega⟩, ⟨by (with_reducible repeat (first | apply Kd.zAk | apply Kd.zAj | apply Kd.zAt)); exact HO280.out⟩, ⟨by repeat (first | (with_reducible first | exact HB.out | apply zA2 | apply zA0 | apply zA3) | exact HB.out)⟩⟩
   ·rw [if_neg c3] at H
    have c3b0 : decide (x6_1 < (l0.length : Int)) = false := decide_eq_false c3
    clear c3
    obtain rfl := Option.some.inj H
    go_wp2
    go_ret
    exact ⟨_, by first | rfl | (simp [zAx, zAw] <;> rfl) | (simp [*, zAx, zAw] <;> rfl), by (with_reducible repeat (first | apply Kd.zAk | apply Kd.zAj | apply Kd.zAt)); exact HO_5.out, by repeat (first | (with_reducible first | exact HB.out | apply zA2 | apply zA0 | apply zA3) | exact HB.out)⟩
end
end Go.Proofs.YtbghfbhlbfcloaaDoor.PL
namespace Go.Proofs.YtbghfbhlbfcloaaDoor.PL
section
open Go.RowKit Go.Proofs.YtbghfbhlbfcloaaDoorW.PrintWords Go.Proofs.YtbghfbhlbfcloaaDoorW.PrintLast Go.Proofs.YtbghfbhlbfcloaaDoorW.PrintMore
attribute [local go_sem] zBw zBu zC7 zC6 zBo zBn zBv zBt   -- for this text's walks alone
set_option linter.unusedVariables false
set_option linter.unusedSimpArgs false
def zAo.l0 : Nat → List Int → List Int → Int → Option (Bool)
 | 0, _, _, _ => none
 | k + 1, x0, x1, x5 => if x5 < (x0.length : Int) then (if 0 ≤ x5 then (if x5 < (x1.length : Int) then (if (rd x0 x5) = (rd x1 x5) then (zAo.l0 k x0 x1 (wrap64 (x5 + 1))) else (some false)) else (none)) else (none)) else (some true)
def zAo.f (k : Nat) (l0 : List Int) (l1 : List Int) : Option (Bool) := if (l0.length : Int) = (l1.length : Int) then (zAo.l0 k l0 l1 0) else (some false)
theorem zAo.zBq : ∀ k, (∀ y0 y1 y2, LeO (zAo.l0 k y0 y1 y2) (zAo.l0 (k + 1) y0 y1 y2))
 | 0 => fun _ _ _ r h => by simp [zAo.l0] at h
 | k + 1 => by
  have ih0 := zAo.zBq k
  ·intro y0 y1 y2
   unfold zAo.l0
   repeat' first
   | (with_reducible exact ih0 _ _ _)
   | (with_reducible exact LeO.refl _)
   | (with_reducible exact LeO.none _)
   | (with_reducible refine LeO.ite ?_ ?_)
   | (with_reducible refine LeO.bind ?_ (fun _ => ?_))
theorem zAo.mono : ∀ a0 a1 k, LeO (zAo.f k a0 a1) (zAo.f (k + 1) a0 a1) := by
 intro a0 a1 k
 have ih0 := zAo.zBq k
 unfold zAo.f
 repeat' first
   | (with_reducible exact ih0 _ _ _)
   | (with_reducible exact LeO.refl _)
   | (with_reducible exact LeO.none _)
   | (with_reducible refine LeO.ite ?_ ?_)
   | (with_reducible refine LeO.bind ?_ (fun _ => ?_))
set_option maxHeartbeats 8000000 in
set_option maxRecDepth 100000 in
theorem zAo.calls (k : Nat) (A0 : Option Addr) (c0 : Nat) (l0 : List Int) (A1 : Option Addr) (c1 : Nat) (l1 : List Int) (r : Bool) (w : World) (hr0 : Kd.C (Kd.int .i64) w A0 l0.length l0) (hc0 : l0.length ≤ c0) (hr1 : Kd.C (Kd.int .i64) w A1 l1.length l1) (hc1 : l1.length ≤ c1) (h : zAo.f k l0 l1 = some r) :
  Calls Tryd.prog 14 #[.slice A0 l0.length c0, .slice A1 l1.length c1] w fun e w' => e = .returned (.bool r) ∧ zAr w w' := by
 have HR0 := zA1.mk hr0
 have HC0 := zA1.mk hc0
 clear hr0 hc0
 have HR1 := zA1.mk hr1
 have HC1 := zA1.mk hc1
 clear hr1 hc1
 have H : (if (l0.length : Int) = (l1.length : Int) then (zAo.l0 k l0 l1 0) else (some false)) = some r := h
 clear h
 by_cases c3 : (l0.length : Int) = (l1.length : Int)
 ·rw [if_pos c3] at H
  have c3b0 : ((l0.length : Int) == (l1.length : Int)) = true := beq_iff_eq.mpr c3
  have c3b1 : ((l0.length : Int) != (l1.length : Int)) = false := bne_eq_false_iff_eq.mpr c3
  have c3b2 : (l0.length == l1.length) = true := by first | simpa using c3 | (simp at c3 ⊢; omega)
  clear c3
  have H' := zA1.mk H
  clear H
  go_enter Tryd.func14, Tryd.ntmps14
  go_wp2
  repeat (go_quiet (fail); try go_wp2)
  go_loopg [5] k (fun kq v5 w' => ∃ (x5_1 : Int), v5 = .int .i64 x5_1 ∧ zA1 (zAo.l0 kq l0 l1 x5_1 = some r) ∧ zA1 (kq ≤ k) ∧ zAr w w')
  case atStart => exact ⟨(0), (by first | rfl | (simp; done) | (simp [*]; done)), H', ⟨Nat.le_refl _⟩, by repeat (first | exact zAr.refl _ | apply zAr.step)⟩
  case round =>
   clear H'
   try clear c1
   try clear p2
   try clear c3
   try clear c3b0
   try clear c3b1
   try clear c3b2
   obtain ⟨x5_1, rfl, HA, HK1, ⟨m1, rfl⟩⟩ := hrel
   cases gk with
   | zero => exact absurd HA.out (by simp [zAo.l0])
   | succ k1 =>
    have H := HA.out
    clear HA
    simp only [zAo.l0] at H
    by_cases c4 : x5_1 < (l0.length : Int)
    ·rw [if_pos c4] at H
     have c4b0 : decide (x5_1 < (l0.length : Int)) = true := decide_eq_true c4
     clear c4
     by_cases c5 : 0 ≤ x5_1
     rotate_left
     ·rw [if_neg c5] at H
      exact absurd H (by simp)
     rw [if_pos c5] at H
     have c5b0 : decide (0 ≤ x5_1) = true := decide_eq_true c5
     clear c5
     by_cases c6 : x5_1 < (l1.length : Int)
     rotate_left
     ·rw [if_neg c6] at H
      exact absurd H (by simp)
     rw [if_pos c6] at H
     have c6b0 : decide (x5_1 < (l1.length : Int)) = true := decide_eq_true c6
     clear c6
     by_cases c7 : (rd l0 x5_1) = (rd l1 x5_1)
     ·rw [if_pos c7] at H
      have c7b0 : ((rd l0 x5_1) == (rd l1 x5_1)) = true := beq_iff_eq.mpr c7
      have c7b1 : ((rd l0 x5_1) != (rd l1 x5_1)) = false := bne_eq_false_iff_eq.mpr c7
      clear c7
      have H' := zA1.mk H
      clear H
      have p297 : 0 ≤ (x5_1 : Int) := of_decide_eq_true (by first | (with_reducible assumption) | assumption)
      have q297 : x5_1 < (l0.length : Int) := of_decide_eq_true (by first | (with_reducible assumption) | assumption)
      obtain ⟨ad297, e297, hx297_0⟩ := Kd.at_int HR0.out x5_1 p297 q297
      cases e297
      replace p297 := eq_true p297
      replace q297 := eq_true q297
      have p298 : 0 ≤ (x5_1 : Int) := of_decide_eq_true (by first | (with_reducible assumption) | assumption)
      have q298 : x5_1 < (l1.length : Int) := of_decide_eq_true (by first | (with_reducible assumption) | assumption)
      obtain ⟨ad298, e298, hx298_0⟩ := Kd.at_int HR1.out x5_1 p298 q298
      cases e298
      replace p298 := eq_true p298
      replace q298 := eq_true q298
      go_wp2
      repeat (go_quiet (fail); try go_wp2)
      go_roundg k1
      case measure => have := HK1.out; omega
      case rel => exact ⟨(wrap64 (x5_1 + 1)), (by first | rfl | (simp; done) | (simp [*]; done)), H', ⟨by have := HK1.out; omega⟩, by repeat (first | exact zAr.refl _ | apply zAr.step)⟩
     ·rw [if_neg c7] at H
      have c7b0 : ((rd l0 x5_1) == (rd l1 x5_1)) = false := beq_eq_false_iff_ne.mpr c7
      have c7b1 : ((rd l0 x5_1) != (rd l1 x5_1)) = true := bne_iff_ne.mpr c7
      obtain rfl := Option.some.inj H
      have p297 : 0 ≤ (x5_1 : Int) := of_decide_eq_true (by first | (with_reducible assumption) | assumption)
      have q297 : x5_1 < (l0.length : Int) := of_decide_eq_true (by first | (with_reducible assumption) | assumption)
      obtain ⟨ad297, e297, hx297_0⟩ := Kd.at_int HR0.out x5_1 p297 q297
      cases e297
      replace p297 := eq_true p297
      replace q297 := eq_true q297
      have p298 : 0 ≤ (x5_1 : Int) := of_decide_eq_true (by first | (with_reducible assumption) | assumption)
      have q298 : x5_1 < (l1.length : Int) := of_decide_eq_true (by first | (with_reducible assumption) | assumption)
      obtain ⟨ad298, e298, hx298_0⟩ := Kd.at_int HR1.out x5_1 p298 q298
      cases e298
      replace p298 := eq_true p298
      replace q298 := eq_true q298
      go_wp2
      repeat (go_quiet (fail); try go_wp2)
      go_ret
      exact ⟨by first | rfl | (simp; done) | (simp [*]; done), by repeat (first | exact zAr.refl _ | apply zAr.step)⟩
    ·rw [if_neg c4] at H
     have c4b0 : decide (x5_1 < (l0.length : Int)) = false := decide_eq_false c4
     clear c4
     obtain rfl := Option.some.inj H
     go_wp2
     repeat (go_quiet (fail); try go_wp2)
     go_ret
     exact ⟨by first | rfl | (simp; done) | (simp [*]; done), by repeat (first | exact zAr.refl _ | apply zAr.step)⟩
 ·rw [if_neg c3] at H
  have c3b0 : ((l0.length : Int) == (l1.length : Int)) = false := beq_eq_false_iff_ne.mpr c3
  have c3b1 : ((l0.length : Int) != (l1.length : Int)) = true := bne_iff_ne.mpr c3
  have c3b2 : (l0.length == l1.length) = false := by first | simpa using c3 | (simp at c3 ⊢; omega)
  obtain rfl := Option.some.inj H
  go_enter Tryd.func14, Tryd.ntmps14
  go_wp2
  repeat (go_quiet (fail); try go_wp2)
  go_ret
  exact ⟨by first | rfl | (simp; done) | (simp [*]; done), by repeat (first | exact zAr.refl _ | apply zAr.step)⟩
end
end Go.Proofs.YtbghfbhlbfcloaaDoor.PL
namespace Go.Proofs.YtbghfbhlbfcloaaDoor.PL
section
open Go.RowKit Go.Proofs.YtbghfbhlbfcloaaDoorW.PrintWords Go.Proofs.YtbghfbhlbfcloaaDoorW.PrintLast Go.Proofs.YtbghfbhlbfcloaaDoorW.PrintMore
attribute [local go_sem] zBw zBu zC7 zC6 zBo zBn zBv zBt   -- for this text's walks alone
set_option linter.unusedVariables false
set_option linter.unusedSimpArgs false
def zBb.l0 : Nat → List (List Int) → List (List Int) → Int → Option (Bool)
 | 0, _, _, _ => none
 | k + 1, x0, x1, x5 => if x5 < (x0.length : Int) then (if 0 ≤ x5 then (if x5 < (x1.length : Int) then ((zAo.f k (rd_L6 x0 x5) (rd_L6 x1 x5)).bind fun t377 => (if t377 = true then (zBb.l0 k x0 x1 (wrap64 (x5 + 1))) else (some false))) else (none)) else (none)) else (some true)
def zBb.f (k : Nat) (l0 : List (List Int)) (l1 : List (List Int)) : Option (Bool) := if (l0.length : Int) = (l1.length : Int) then (zBb.l0 k l0 l1 0) else (some false)
theorem zBb.zBq : ∀ k, (∀ y0 y1 y2, LeO (zBb.l0 k y0 y1 y2) (zBb.l0 (k + 1) y0 y1 y2))
 | 0 => fun _ _ _ r h => by simp [zBb.l0] at h
 | k + 1 => by
  have ih0 := zBb.zBq k
  ·intro y0 y1 y2
   unfold zBb.l0
   repeat' first
   | (with_reducible exact ih0 _ _ _)
   | (with_reducible exact zAo.mono _ _ _)
   | (with_reducible exact LeO.refl _)
   | (with_reducible exact LeO.none _)
   | (with_reducible refine LeO.ite ?_ ?_)
   | (with_reducible refine LeO.bind ?_ (fun _ => ?_))
theorem zBb.mono : ∀ a0 a1 k, LeO (zBb.f k a0 a1) (zBb.f (k + 1) a0 a1) := by
 intro a0 a1 k
 have ih0 := zBb.zBq k
 unfold zBb.f
 repeat' first
   | (with_reducible exact ih0 _ _ _)
   | (with_reducible exact zAo.mono _ _ _)
   | (with_reducible exact LeO.refl _)
   | (with_reducible exact LeO.none _)
   | (with_reducible refine LeO.ite ?_ ?_)
   | (with_reducible refine LeO.bind ?_ (fun _ => ?_))
set_option maxHeartbeats 8000000 in
set_option maxRecDepth 100000 in
theorem zBb.calls (k : Nat) (A0 : Option Addr) (c0 : Nat) (l0 : List (List Int)) (A1 : Option Addr) (c1 : Nat) (l1 : List (List Int)) (r : Bool) (w : World) (hr0 : Kd.C (Kd.slice 3 (Kd.int .i64)) w A0 l0.length l0) (hc0 : l0.length ≤ c0) (hr1 : Kd.C (Kd.slice 3 (Kd.int .i64)) w A1 l1.length l1) (hc1 : l1.length ≤ c1) (h : zBb.f k l0 l1 = some r) :
  Calls Tryd.prog 21 #[.slice A0 l0.length c0, .slice A1 l1.length c1] w fun e w' => e = .returned (.bool r) ∧ zAr w w' := by
 have HR0 := zA1.mk hr0
 have HC0 := zA1.mk hc0
 clear hr0 hc0
 have HR1 := zA1.mk hr1
 have HC1 := zA1.mk hc1
 clear hr1 hc1
 have H : (if (l0.length : Int) = (l1.length : Int) then (zBb.l0 k l0 l1 0) else (some false)) = some r := h
 clear h
 by_cases c3 : (l0.length : Int) = (l1.length : Int)
 ·rw [if_pos c3] at H
  have c3b0 : ((l0.length : Int) == (l1.length : Int)) = true := beq_iff_eq.mpr c3
  have c3b1 : ((l0.length : Int) != (l1.length : Int)) = false := bne_eq_false_iff_eq.mpr c3
  have c3b2 : (l0.length == l1.length) = true := by first | simpa using c3 | (simp at c3 ⊢; omega)
  clear c3
  have H' := zA1.mk H
  clear H
  go_enter Tryd.func21, Tryd.ntmps21
  go_wp2
  repeat (go_quiet (fail); try go_wp2)
  go_loopg [5] k (fun kq v5 w' => ∃ (x5_1 : Int), v5 = .int .i64 x5_1 ∧ zA1 (zBb.l0 kq l0 l1 x5_1 = some r) ∧ zA1 (kq ≤ k) ∧ zAr w w')
  case atStart => exact ⟨(0), (by first | rfl | (simp; done) | (simp [*]; done)), H', ⟨Nat.le_refl _⟩, by repeat (first | exact zAr.refl _ | apply zAr.step)⟩
  case round =>
   clear H'
   try clear c1
   try clear c2
   try clear p2
   try clear c3
   try clear c3b0
   try clear c3b1
   try clear c3b2
   obtain ⟨x5_1, rfl, HA, HK1, ⟨m1, rfl⟩⟩ := hrel
   cases gk with
   | zero => exact absurd HA.out (by simp [zBb.l0])
   | succ k1 =>
    have H := HA.out
    clear HA
    simp only [zBb.l0] at H
    by_cases c4 : x5_1 < (l0.length : Int)
    ·rw [if_pos c4] at H
     have c4b0 : decide (x5_1 < (l0.length : Int)) = true := decide_eq_true c4
     clear c4
     by_cases c5 : 0 ≤ x5_1
     rotate_left
     ·rw [if_neg c5] at H
      exact absurd H (by simp)
     rw [if_pos c5] at H
     have c5b0 : decide (0 ≤ x5_1) = true := decide_eq_true c5
     clear c5
     by_cases c6 : x5_1 < (l1.length : Int)
     rotate_left
     ·rw [if_neg c6] at H
      exact absurd H (by simp)
     rw [if_pos c6] at H
     have c6b0 : decide (x5_1 < (l1.length : Int)) = true := decide_eq_true c6
     clear c6
     replace H := Option.bind_eq_some_iff.mp H
     obtain ⟨t377, A70, H⟩ := H
     replace H : (if t377 = true then (zBb.l0 k1 l0 l1 (wrap64 (x5_1 + 1))) else (some false)) = some r := H
     have A7 := zA1.mk A70
     clear A70
     by_cases c8 : t377 = true
     ·subst c8
      have H1 : (zBb.l0 k1 l0 l1 (wrap64 (x5_1 + 1))) = some r := by rw [if_pos rfl] at H; exact H
      clear H
      have H := H1
      clear H1
      have H' := zA1.mk H
      clear H
      have p375 : 0 ≤ (x5_1 : Int) := of_decide_eq_true (by first | (with_reducible assumption) | assumption)
      have q375 : x5_1 < (l0.length : Int) := of_decide_eq_true (by first | (with_reducible assumption) | assumption)
      obtain ⟨ad375, A375_0, c375_0, e375, hx375_0, hl375_0, hi375_0⟩ := at_L6 HR0.out x5_1 p375 q375
      cases e375
      have HR375_0 := zA1.mk hi375_0
      have HC375_0 := zA1.mk hl375_0
      clear hi375_0 hl375_0
      replace p375 := eq_true p375
      replace q375 := eq_true q375
      have p376 : 0 ≤ (x5_1 : Int) := of_decide_eq_true (by first | (with_reducible assumption) | assumption)
      have q376 : x5_1 < (l1.length : Int) := of_decide_eq_true (by first | (with_reducible assumption) | assumption)
      obtain ⟨ad376, A376_0, c376_0, e376, hx376_0, hl376_0, hi376_0⟩ := at_L6 HR1.out x5_1 p376 q376
      cases e376
      have HR376_0 := zA1.mk hi376_0
      have HC376_0 := zA1.mk hl376_0
      clear hi376_0 hl376_0
      replace p376 := eq_true p376
      replace q376 := eq_true q376
      go_wp2_with (first | (go_at_call 14; (with_reducible refine (zAo.calls k1 _ _ (rd_L6 l0 x5_1) _ _ (rd_L6 l1 x5_1) true _ ?side1 ?side2 ?side3 ?side4 A7.out).mono ?_); (case side1 => repeat (first | exact HR375_0.out | (with_reducible refine Kd.zA8 ?_ _) | (with_reducible refine Kd.zAd ?_ _) | (with_reducible refine Kd.zAp ?_))); (case side2 => exact HC375_0.out); (case side3 => repeat (first | exact HR376_0.out | (with_reducible refine Kd.zA8 ?_ _) | (with_reducible refine Kd.zAd ?_ _) | (with_reducible refine Kd.zAp ?_))); (case side4 => exact HC376_0.out); rintro e w' ⟨rfl, ⟨nd, rfl⟩⟩; (try first | exact ⟨rfl, _, World.drewN_drewN _ _ _⟩ | exact ⟨rfl, _, Eq.trans (World.drewN_drewN _ _ _) (congrArg (World.drewN _) (Nat.add_assoc _ _ _))⟩)))
      repeat (go_quiet (first | (go_at_call 14; (with_reducible refine (zAo.calls k1 _ _ (rd_L6 l0 x5_1) _ _ (rd_L6 l1 x5_1) true _ ?side1 ?side2 ?side3 ?side4 A7.out).mono ?_); (case side1 => repeat (first | exact HR375_0.out | (with_reducible refine Kd.zA8 ?_ _) | (with_reducible refine Kd.zAd ?_ _) | (with_reducible refine Kd.zAp ?_))); (case side2 => exact HC375_0.out); (case side3 => repeat (first | exact HR376_0.out | (with_reducible refine Kd.zA8 ?_ _) | (with_reducible refine Kd.zAd ?_ _) | (with_reducible refine Kd.zAp ?_))); (case side4 => exact HC376_0.out); rintro e w' ⟨rfl, ⟨nd, rfl⟩⟩; (try first | exact ⟨rfl, _, World.drewN_drewN _ _ _⟩ | exact ⟨rfl, _, Eq.trans (World.drewN_drewN _ _ _) (congrArg (World.drewN _) (Nat.add_assoc _ _ _))⟩))); try go_wp2_with (first | (go_at_call 14; (with_reducible refine (zAo.calls k1 _ _ (rd_L6 l0 x5_1) _ _ (rd_L6 l1 x5_1) true _ ?side1 ?side2 ?side3 ?side4 A7.out).mono ?_); (case side1 => repeat (first | exact HR375_0.out | (with_reducible refine Kd.zA8 ?_ _) | (with_reducible refine Kd.zAd ?_ _) | (with_reducible refine Kd.zAp ?_))); (case side2 => exact HC375_0.out); (case side3 => repeat (first | exact HR376_0.out | (with_reducible refine Kd.zA8 ?_ _) | (with_reducible refine Kd.zAd ?_ _) | (with_reducible refine Kd.zAp ?_))); (case side4 => exact HC376_0.out); rintro e w' ⟨rfl, ⟨nd, rfl⟩⟩; (try first | exact ⟨rfl, _, World.drewN_drewN _ _ _⟩ | exact ⟨rfl, _, Eq.trans (World.drewN_drewN _ _ _) (congrArg (World.drewN _) (Nat.add_assoc _ _ _))⟩))))
      go_roundg k1
      case measure => have := HK1.out; omega
      case rel => exact ⟨(wrap64 (x5_1 + 1)), (by first | rfl | (simp; done) | (simp [*]; done)), H', ⟨by have := HK1.out; omega⟩, by repeat (first | exact zAr.refl _ | apply zAr.step)⟩
     ·replace c8 := Bool.eq_false_iff.mpr c8
      subst c8
      have H1 : (some false) = some r := by rw [if_neg (show ¬ (false = true) by decide)] at H; exact H
      clear H
      have H := H1
      clear H1
      obtain rfl := Option.some.inj H
      have p375 : 0 ≤ (x5_1 : Int) := of_decide_eq_true (by first | (with_reducible assumption) | assumption)
      have q375 : x5_1 < (l0.length : Int) := of_decide_eq_true (by first | (with_reducible assumption) | assumption)
      obtain ⟨ad375, A375_0, c375_0, e375, hx375_0, hl375_0, hi375_0⟩ := at_L6 HR0.out x5_1 p375 q375
      cases e375
      have HR375_0 := zA1.mk hi375_0
      have HC375_0 := zA1.mk hl375_0
      clear hi375_0 hl375_0
      replace p375 := eq_true p375
      replace q375 := eq_true q375
      have p376 : 0 ≤ (x5_1 : Int) := of_decide_eq_true (by first | (with_reducible assumption) | assumption)
      have q376 : x5_1 < (l1.length : Int) := of_decide_eq_true (by first | (with_reducible assumption) | assumption)
      obtain ⟨ad376, A376_0, c376_0, e376, hx376_0, hl376_0, hi376_0⟩ := at_L6 HR1.out x5_1 p376 q376
      cases e376
      have HR376_0 := zA1.mk hi376_0
      have HC376_0 := zA1.mk hl376_0
      clear hi376_0 hl376_0
      replace p376 := eq_true p376
      replace q376 := eq_true q376
      go_wp2_with (first | (go_at_call 14; (with_reducible refine (zAo.calls k1 _ _ (rd_L6 l0 x5_1) _ _ (rd_L6 l1 x5_1) false _ ?side1 ?side2 ?side3 ?side4 A7.out).mono ?_); (case side1 => repeat (first | exact HR375_0.out | (with_reducible refine Kd.zA8 ?_ _) | (with_reducible refine Kd.zAd ?_ _) | (with_reducible refine Kd.zAp ?_))); (case side2 => exact HC375_0.out); (case side3 => repeat (first | exact HR376_0.out | (with_reducible refine Kd.zA8 ?_ _) | (with_reducible refine Kd.zAd ?_ _) | (with_reducible refine Kd.zAp ?_))); (case side4 => exact HC376_0.out); rintro e w' ⟨rfl, ⟨nd, rfl⟩⟩; (try first | exact ⟨rfl, _, World.drewN_drewN _ _ _⟩ | exact ⟨rfl, _, Eq.trans (World.drewN_drewN _ _ _) (congrArg (World.drewN _) (Nat.add_assoc _ _ _))⟩)))
      repeat (go_quiet (first | (go_at_call 14; (with_reducible refine (zAo.calls k1 _ _ (rd_L6 l0 x5_1) _ _ (rd_L6 l1 x5_1) false _ ?side1 ?side2 ?side3 ?side4 A7.out).mono ?_); (case side1 => repeat (first | exact HR375_0.out | (with_reducible refine Kd.zA8 ?_ _) | (with_reducible refine Kd.zAd ?_ _) | (with_reducible refine Kd.zAp ?_))); (case side2 => exact HC375_0.out); (case side3 => repeat (first | exact HR376_0.out | (with_reducible refine Kd.zA8 ?_ _) | (with_reducible refine Kd.zAd ?_ _) | (with_reducible refine Kd.zAp ?_))); (case side4 => exact HC376_0.out); rintro e w' ⟨rfl, ⟨nd, rfl⟩⟩; (try first | exact ⟨rfl, _, World.drewN_drewN _ _ _⟩ | exact ⟨rfl, _, Eq.trans (World.drewN_drewN _ _ _) (congrArg (World.drewN _) (Nat.add_assoc _ _ _))⟩))); try go_wp2_with (first | (go_at_call 14; (with_reducible refine (zAo.calls k1 _ _ (rd_L6 l0 x5_1) _ _ (rd_L6 l1 x5_1) false _ ?side1 ?side2 ?side3 ?side4 A7.out).mono ?_); (case side1 => repeat (first | exact HR375_0.out | (with_reducible refine Kd.zA8 ?_ _) | (with_reducible refine Kd.zAd ?_ _) | (with_reducible refine Kd.zAp ?_))); (case side2 => exact HC375_0.out); (case side3 => repeat (first | exact HR376_0.out | (with_reducible refine Kd.zA8 ?_ _) | (with_reducible refine Kd.zAd ?_ _) | (with_reducible refine Kd.zAp ?_))); (case side4 => exact HC376_0.out); rintro e w' ⟨rfl, ⟨nd, rfl⟩⟩; (try first | exact ⟨rfl, _, World.drewN_drewN _ _ _⟩ | exact ⟨rfl, _, Eq.trans (World.drewN_drewN _ _ _) (congrArg (World.drewN _) (Nat.add_assoc _ _ _))⟩))))
      go_ret
      exact ⟨by first | rfl | (simp; done) | (simp [*]; done), by repeat (first | exact zAr.refl _ | apply zAr.step)⟩
    ·rw [if_neg c4] at H
     have c4b0 : decide (x5_1 < (l0.length : Int)) = false := decide_eq_false c4
     clear c4
     obtain rfl := Option.some.inj H
     go_wp2
     repeat (go_quiet (fail); try go_wp2)
     go_ret
     exact ⟨by first | rfl | (simp; done) | (simp [*]; done), by repeat (first | exact zAr.refl _ | apply zAr.step)⟩
 ·rw [if_neg c3] at H
  have c3b0 : ((l0.length : Int) == (l1.length : Int)) = false := beq_eq_false_iff_ne.mpr c3
  have c3b1 : ((l0.length : Int) != (l1.length : Int)) = true := bne_iff_ne.mpr c3
  have c3b2 : (l0.length == l1.length) = false := by first | simpa using c3 | (simp at c3 ⊢; omega)
  obtain rfl := Option.some.inj H
  go_enter Tryd.func21, Tryd.ntmps21
  go_wp2
  repeat (go_quiet (fail); try go_wp2)
  go_ret
  exact ⟨by first | rfl | (simp; done) | (simp [*]; done), by repeat (first | exact zAr.refl _ | apply zAr.step)⟩
end
end Go.Proofs.YtbghfbhlbfcloaaDoor.PL
namespace Go.Proofs.YtbghfbhlbfcloaaDoor.PL
section
open Go.RowKit Go.Proofs.YtbghfbhlbfcloaaDoorW.PrintWords Go.Proofs.YtbghfbhlbfcloaaDoorW.PrintLast Go.Proofs.YtbghfbhlbfcloaaDoorW.PrintMore
set_option linter.unusedVariables false
set_option linter.unusedSimpArgs false
set_option linter.unusedVariables false
set_option linter.unusedSimpArgs false
def tzAt (a0 : Int) : Int := IntKind.u64.wrap (Go.bits .and .u64 a0 (IntKind.u64.wrap (-a0)) * 285870213051353865) / 288230376151711744
def TZ.f (a0 : Int) : Option Int := if a0 = 0 then some 64 else if 0 ≤ tzAt a0 then (if tzAt a0 < (tabL.length : Int) then some (rd tabL (tzAt a0)) else none) else none
theorem tabA_add (n : Nat) : tabA.add n = ⟨1, n, none⟩ := by
 unfold Addr.add
 split
 ·subst n; rfl
 ·simp [tabA]
theorem tab_in (i : Int) : 0 ≤ rd tabL i ∧ rd tabL i ≤ 255 := by
 have h : ∀ x ∈ tabL, 0 ≤ x ∧ x ≤ 255 := by decide
 unfold rd
 rcases Nat.lt_or_ge i.toNat tabL.length with hl | hl
 ·rw [List.getD_eq_getElem?_getD, List.getElem?_eq_getElem hl]
  exact h _ (List.getElem_mem hl)
 ·rw [List.getD_eq_getElem?_getD, List.getElem?_eq_none hl]
  decide
set_option maxHeartbeats 400000 in
theorem TZ64.calls (a0 : Int) (r : Int) (w : World) (hG : Kd.C (Kd.int .u8) w (some tabA) tabL.length tabL) (h : TZ.f a0 = some r) :
  Calls Tryd.prog 82 #[.int .u64 a0] w fun e w' => e = .returned (.int .i64 r) ∧ zAr w w' := by
 unfold TZ.f at h
 by_cases c : a0 = 0
 ·subst c
  rw [if_pos rfl] at h
  obtain rfl := Option.some.inj h
  go_enter Tryd.func82, Tryd.ntmps82
  go_wp2
  go_ret
  exact ⟨rfl, ⟨0, rfl⟩⟩
 ·rw [if_neg c] at h
  by_cases c1 : 0 ≤ tzAt a0
  ·rw [if_pos c1] at h
   by_cases c2 : tzAt a0 < (tabL.length : Int)
   ·rw [if_pos c2] at h
    obtain rfl := Option.some.inj h
    obtain ⟨ad, e, hx⟩ := Kd.at_int hG (tzAt a0) c1 c2
    cases e
    rw [tabA_add] at hx
    have c3 : tzAt a0 < 64 := c2
    clear c2
    generalize hr : rd tabL (tzAt a0) = r at hx
    have R0 : 0 ≤ r ∧ r ≤ 255 := by rw [← hr]; exact tab_in _
    clear hr
    unfold tzAt at hx c1 c3
    have hb : (a0 == 0) = false := beq_eq_false_iff_ne.mpr c
    go_enter Tryd.func82, Tryd.ntmps82
    go_wp2
    go_ret
    exact ⟨rfl, ⟨0, rfl⟩⟩
   ·rw [if_neg c2] at h; cases h
  ·rw [if_neg c1] at h; cases h
set_option maxHeartbeats 400000 in
theorem TZ.calls (a0 : Int) (r : Int) (w : World) (hG : Kd.C (Kd.int .u8) w (some tabA) tabL.length tabL) (h : TZ.f a0 = some r) :
  Calls Tryd.prog 67 #[.int .u64 a0] w fun e w' => e = .returned (.int .i64 r) ∧ zAr w w' := by
 have C := TZ64.calls a0 r w hG h
 clear hG h
 go_enter Tryd.func67, Tryd.ntmps67
 go_wp2_with (go_at_call 82; refine C.mono ?_; rintro e w' ⟨rfl, ⟨n, rfl⟩⟩)
 go_ret
 exact ⟨rfl, ⟨n, rfl⟩⟩
end
end Go.Proofs.YtbghfbhlbfcloaaDoor.PL
namespace Go.Proofs.YtbghfbhlbfcloaaDoor.PL
section
open Go.RowKit Go.Proofs.YtbghfbhlbfcloaaDoorW.PrintWords Go.Proofs.YtbghfbhlbfcloaaDoorW.PrintLast Go.Proofs.YtbghfbhlbfcloaaDoorW.PrintMore
attribute [local go_sem] zBw zBu zC7 zC6 zBo zBn zBv zBt   -- for this text's walks alone
set_option linter.unusedVariables false
set_option linter.unusedSimpArgs false
def bits_TrailingZeros.f (a0 : Int) : Option (Int) := TZ.f a0
theorem bits_TrailingZeros.calls (a0 : Int) (r : Int) (w : World) (hG : Kd.C (Kd.int .u8) w (some tabA) tabL.length tabL) (h : bits_TrailingZeros.f a0 = some r) :
  Calls Tryd.prog 67 #[.int .u64 a0] w fun e w' => e = .returned (.int .i64 r) ∧ zAr w w' :=
  TZ.calls a0 r w hG h
end
end Go.Proofs.YtbghfbhlbfcloaaDoor.PL
namespace Go.Proofs.YtbghfbhlbfcloaaDoor.PL
section
open Go.RowKit Go.Proofs.YtbghfbhlbfcloaaDoorW.PrintWords Go.Proofs.YtbghfbhlbfcloaaDoorW.PrintLast Go.Proofs.YtbghfbhlbfcloaaDoorW.PrintMore
attribute [local go_sem] zBw zBu zC7 zC6 zBo zBn zBv zBt   -- for this text's walks alone
set_option linter.unusedVariables false
set_option linter.unusedSimpArgs false
def zB9.l0 : Nat → Int → List Int → Option (List Int)
 | 0, _, _ => none
 | k + 1, x0, x3 => if x0 = 0 then (some x3) else ((bits_TrailingZeros.f x0).bind fun t163 => (if x3.length < 17592186044416 then (zB9.l0 k (Go.bits .and .u64 x0 (IntKind.u64.wrap (x0 - 1))) (x3 ++ [t163])) else (none)))
def zB9.f (k : Nat) (a0 : Int) : Option (List Int) := zB9.l0 k a0 ([] : List Int)
theorem zB9.zBq : ∀ k, (∀ y0 y1, LeO (zB9.l0 k y0 y1) (zB9.l0 (k + 1) y0 y1))
 | 0 => fun _ _ r h => by simp [zB9.l0] at h
 | k + 1 => by
  have ih0 := zB9.zBq k
  ·intro y0 y1
   unfold zB9.l0
   repeat' first
   | (with_reducible exact ih0 _ _)
   | (with_reducible exact LeO.refl _)
   | (with_reducible exact LeO.none _)
   | (with_reducible refine LeO.ite ?_ ?_)
   | (with_reducible refine LeO.bind ?_ (fun _ => ?_))
theorem zB9.mono : ∀ a0 k, LeO (zB9.f k a0) (zB9.f (k + 1) a0) := by
 intro a0 k
 have ih0 := zB9.zBq k
 unfold zB9.f
 repeat' first
   | (with_reducible exact ih0 _ _)
   | (with_reducible exact LeO.refl _)
   | (with_reducible exact LeO.none _)
   | (with_reducible refine LeO.ite ?_ ?_)
   | (with_reducible refine LeO.bind ?_ (fun _ => ?_))
set_option maxHeartbeats 8000000 in
set_option maxRecDepth 100000 in
theorem zB9.calls (k : Nat) (a0 : Int) (r : List Int) (w : World) (hG : Kd.C (Kd.int .u8) w (some tabA) tabL.length tabL) (h : zB9.f k a0 = some r) :
  Calls Tryd.prog 37 #[.int .u64 a0] w fun e w' => ∃ v0_ : Value, e = .returned (v0_) ∧ Kd.R (Kd.int .i64) 3 w' w.heap.size (fun _ => True) v0_ r ∧ Below w.heap.size w w' := by
 have HB := zA1.mk (Below.refl w.heap.size w)
 have HG := zA1.mk hG
 clear hG
 have H : (zB9.l0 k a0 ([] : List Int)) = some r := h
 clear h
 have H' := zA1.mk H
 clear H
 go_enter Tryd.func37, Tryd.ntmps37
 go_wp2
 go_loopg [0, 3] k (fun kq v0 v3 w' => ∃ (x0_1 : Int) (x3_1 : List Int), v0 = .int .u64 x0_1 ∧ zA1 (zB9.l0 kq x0_1 x3_1 = some r) ∧ zA1 (kq ≤ k) ∧ zA1 (Kd.R (Kd.int .i64) 3 w' w.heap.size (fun _ => True) v3 x3_1) ∧ zA1 (Below w.heap.size w w'))
 case atStart => exact ⟨(a0), (([] : List Int)), (by first | rfl | (simp; done) | (simp [*]; done)), H', ⟨Nat.le_refl _⟩, ⟨by first | exact Kd.R_nil _ _ _ _ _ | exact Kd.N_nil _ _ _ _ _ | exact Kd.V_nil _ _ _ _ _ | exact Kd.Q_nil _ _ _ _ _ | exact Kd.S_nil _ _ _ _ _⟩, ⟨by repeat (first | (with_reducible first | exact HB.out | apply zA2 | apply zA0 | apply zA3) | exact HB.out)⟩⟩
 case round =>
  clear H'
  obtain ⟨x0_1, x3_1, rfl, HA, HK1, HO_3, HB⟩ := hrel
  cases gk with
  | zero => exact absurd HA.out (by simp [zB9.l0])
  | succ k1 =>
   have H := HA.out
   clear HA
   simp only [zB9.l0] at H
   by_cases c2 : x0_1 = 0
   ·rw [if_pos c2] at H
    have c2b0 : (x0_1 == 0) = true := beq_iff_eq.mpr c2
    have c2b1 : (x0_1 != 0) = false := bne_eq_false_iff_eq.mpr c2
    clear c2
    obtain rfl := Option.some.inj H
    go_wp2
    go_ret
    exact ⟨_, by first | rfl | (simp [zAx, zAw] <;> rfl) | (simp [*, zAx, zAw] <;> rfl), by (with_reducible repeat (first | apply Kd.zAk | apply Kd.zAj | apply Kd.zAt)); exact HO_3.out, by repeat (first | (with_reducible first | exact HB.out | apply zA2 | apply zA0 | apply zA3) | exact HB.out)⟩
   ·rw [if_neg c2] at H
    have c2b0 : (x0_1 == 0) = false := beq_eq_false_iff_ne.mpr c2
    have c2b1 : (x0_1 != 0) = true := bne_iff_ne.mpr c2
    replace H := Option.bind_eq_some_iff.mp H
    obtain ⟨t163, A30, H⟩ := H
    replace H : (if x3_1.length < 17592186044416 then (zB9.l0 k1 (Go.bits .and .u64 x0_1 (IntKind.u64.wrap (x0_1 - 1))) (x3_1 ++ [t163])) else (none)) = some r := H
    have A3 := zA1.mk A30
    clear A30
    by_cases c4 : x3_1.length < 17592186044416
    rotate_left
    ·rw [if_neg c4] at H
     exact absurd H (by simp)
    rw [if_pos c4] at H
    have LMc4 := zA1.mk c4
    clear c4
    obtain ⟨y164, hy164⟩ : ∃ y_ : List Int, y_ = (x3_1 ++ [t163]) := ⟨_, rfl⟩
    replace H : (zB9.l0 k1 (Go.bits .and .u64 x0_1 (IntKind.u64.wrap (x0_1 - 1))) y164) = some r := by first | (rw [hy164]; with_reducible exact H) | (have H2_ := (Option.bind_some _ _).symm.trans H; rw [hy164]; with_reducible exact H2_) | (have H2_ := (Option.bind_some _ _).symm.trans H; with_reducible exact H2_) | with_reducible exact H | (rw [hy164]; exact H) | exact H
    have Ny164 := zA1.mk hy164
    clear hy164
    have H' := zA1.mk H
    clear H
    go_wp2_with (first | ((with_reducible refine zB1 (f := 67) rfl ?_); refine zC2 (some 12) rfl rfl Tryd.func67 (by kernel_rfl) rfl #[.int .u64 x0_1] rfl (by (try simp only [List.map_toArray, List.map_cons, List.map_nil]); first | done | rfl | (simp only [List.length_drop, List.length_take]; rfl)) ?_; (with_reducible refine (bits_TrailingZeros.calls x0_1 t163 _ ?side1 A3.out).mono ?_); (case side1 => repeat (first | exact (Kd.zAy HG.out HB.out) | (with_reducible refine Kd.zA8 ?_ _) | (with_reducible refine Kd.zAd ?_ _) | (with_reducible refine Kd.zAp ?_))); rintro e w' ⟨rfl, ⟨nd, rfl⟩⟩; refine ⟨_, rfl, ?_⟩) | ((with_reducible refine zC1 (b := .append) (xs := #[.tmp 10, .tmp 13]) rfl ?_); at_builtin; refine Kd.R_append (Kd.int .i64) (w0 := w) w.heap.size rfl (.tmp 10) (.tmp 13) 23 3 (.int .i64 0) 8 rfl Tryd.underlying23 info3 rfl (by decide) (by omega) u3 x3_1 t163 [.int .i64 t163] (fun _ => True) (fun _ => False) rfl rfl ?aP (fun _ hk => hk.elim) ?aF ?aO ?aB ?aS ?aL ?_; (case aP => exact rfl); (case aB => exact (by repeat (first | (with_reducible first | exact HB.out | apply zA2 | apply zA0 | apply zA3) | exact HB.out))); (case aF => exact (fun _ _ => trivial)); (case aO => exact (by (with_reducible repeat (first | apply Kd.zAk | apply Kd.zAj | apply Kd.zAt)); exact HO_3.out)); (case aS => exact (zAc (by repeat (first | (with_reducible first | exact HB.out | apply zA2 | apply zA0 | apply zA3) | exact HB.out)))); (case aL => have := LMc4.out; omega); intro v165 w5 ho hb hg hat; rw [← Ny164.out] at ho; have n0_ := zA1.mk (hb); have n1_ := zA1.mk (ho); clear HB; clear HO_3; have HB := n0_; have HO166 := n1_; clear n0_ n1_; clear ho hb hg hat))
    go_roundg k1
    case measure => have := HK1.out; omega
    case rel => exact ⟨(Go.bits .and .u64 x0_1 (IntKind.u64.wrap (x0_1 - 1))), (y164), (by first | rfl | (simp; done) | (simp [*]; done)), H', ⟨by have := HK1.out; omega⟩, ⟨by (with_reducible repeat (first | apply Kd.zAk | apply Kd.zAj | apply Kd.zAt)); exact HO166.out⟩, ⟨by repeat (first | (with_reducible first | exact HB.out | apply zA2 | apply zA0 | apply zA3) | exact HB.out)⟩⟩
end
end Go.Proofs.YtbghfbhlbfcloaaDoor.PL
namespace Go.Proofs.YtbghfbhlbfcloaaDoor.PL
section
open Go.RowKit Go.Proofs.YtbghfbhlbfcloaaDoorW.PrintWords Go.Proofs.YtbghfbhlbfcloaaDoorW.PrintLast Go.Proofs.YtbghfbhlbfcloaaDoorW.PrintMore
attribute [local go_sem] zBw zBu zC7 zC6 zBo zBn zBv zBt   -- for this text's walks alone
set_option linter.unusedVariables false
set_option linter.unusedSimpArgs false
mutual
def zAv.l0 : Nat → List Int → Int → Int → Option (Int)
 | 0, _, _, _ => none
 | k + 1, x0, x1, x5 => (zB9.f k x5).bind fun t167 => (zAv.l1 k x0 x1 x5 x5 t167 (t167.length : Int) 0)
def zAv.l1 : Nat → List Int → Int → Int → Int → List Int → Int → Int → Option (Int)
 | 0, _, _, _, _, _, _, _ => none
 | k + 1, x0, x1, x5, x6, x15, x16, x17 => if x17 < x16 then (if 0 ≤ x17 then (if x17 < (x15.length : Int) then (if 0 ≤ (rd x15 x17) then (if (rd x15 x17) < (x0.length : Int) then (zAv.l1 k x0 x1 x5 (Go.bits .or .u64 x6 (Go.bits .and .u64 (rd x0 (rd x15 x17)) x1)) x15 x16 (wrap64 (x17 + 1))) else (none)) else (none)) else (none)) else (none)) else (if x6 = x5 then (some x5) else (zAv.l0 k x0 x1 x6))
end
def zAv.f (k : Nat) (l0 : List Int) (a1 : Int) : Option (Int) := zAv.l0 k l0 a1 (Go.bits .and .u64 a1 (IntKind.u64.wrap (-a1)))
theorem zAv.zBq : ∀ k, (∀ y0 y1 y2, LeO (zAv.l0 k y0 y1 y2) (zAv.l0 (k + 1) y0 y1 y2)) ∧ (∀ y0 y1 y2 y3 y4 y5 y6, LeO (zAv.l1 k y0 y1 y2 y3 y4 y5 y6) (zAv.l1 (k + 1) y0 y1 y2 y3 y4 y5 y6))
 | 0 => ⟨fun _ _ _ r h => by simp [zAv.l0] at h, fun _ _ _ _ _ _ _ r h => by simp [zAv.l1] at h⟩
 | k + 1 => by
  obtain ⟨ih0, ih1⟩ := zAv.zBq k
  refine ⟨?_, ?_⟩
  ·intro y0 y1 y2
   unfold zAv.l0
   repeat' first
   | (with_reducible exact ih0 _ _ _)
   | (with_reducible exact ih1 _ _ _ _ _ _ _)
   | (with_reducible exact zB9.mono _ _)
   | (with_reducible exact LeO.refl _)
   | (with_reducible exact LeO.none _)
   | (with_reducible refine LeO.ite ?_ ?_)
   | (with_reducible refine LeO.bind ?_ (fun _ => ?_))
  ·intro y0 y1 y2 y3 y4 y5 y6
   unfold zAv.l1
   repeat' first
   | (with_reducible exact ih0 _ _ _)
   | (with_reducible exact ih1 _ _ _ _ _ _ _)
   | (with_reducible exact zB9.mono _ _)
   | (with_reducible exact LeO.refl _)
   | (with_reducible exact LeO.none _)
   | (with_reducible refine LeO.ite ?_ ?_)
   | (with_reducible refine LeO.bind ?_ (fun _ => ?_))
theorem zAv.mono : ∀ a0 a1 k, LeO (zAv.f k a0 a1) (zAv.f (k + 1) a0 a1) := by
 intro a0 a1 k
 obtain ⟨ih0, ih1⟩ := zAv.zBq k
 unfold zAv.f
 repeat' first
   | (with_reducible exact ih0 _ _ _)
   | (with_reducible exact ih1 _ _ _ _ _ _ _)
   | (with_reducible exact zB9.mono _ _)
   | (with_reducible exact LeO.refl _)
   | (with_reducible exact LeO.none _)
   | (with_reducible refine LeO.ite ?_ ?_)
   | (with_reducible refine LeO.bind ?_ (fun _ => ?_))
set_option maxHeartbeats 8000000 in
set_option maxRecDepth 100000 in
theorem zAv.calls (k : Nat) (A0 : Option Addr) (c0 : Nat) (l0 : List Int) (a1 : Int) (r : Int) (w : World) (hr0 : Kd.C (Kd.int .u64) w A0 l0.length l0) (hc0 : l0.length ≤ c0) (hG : Kd.C (Kd.int .u8) w (some tabA) tabL.length tabL) (h : zAv.f k l0 a1 = some r) :
  Calls Tryd.prog 44 #[.slice A0 l0.length c0, .int .u64 a1] w fun e w' => e = .returned (.int .u64 r) ∧ Below w.heap.size w w' := by
 have HR0 := zA1.mk hr0
 have HC0 := zA1.mk hc0
 clear hr0 hc0
 have HB := zA1.mk (Below.refl w.heap.size w)
 have HG := zA1.mk hG
 clear hG
 have H : (zAv.l0 k l0 a1 (Go.bits .and .u64 a1 (IntKind.u64.wrap (-a1)))) = some r := h
 clear h
 have H' := zA1.mk H
 clear H
 go_enter Tryd.func44, Tryd.ntmps44
 go_wp2
 go_loopg [5] k (fun kq v5 w' => ∃ (x5_1 : Int), v5 = .int .u64 x5_1 ∧ zA1 (zAv.l0 kq l0 a1 x5_1 = some r) ∧ zA1 (kq ≤ k) ∧ zA1 (Below w.heap.size w w'))
 case atStart => exact ⟨(Go.bits .and .u64 a1 (IntKind.u64.wrap (-a1))), (by first | rfl | (simp; done) | (simp [*]; done)), H', ⟨Nat.le_refl _⟩, ⟨by repeat (first | (with_reducible first | exact HB.out | apply zA2 | apply zA0 | apply zA3) | exact HB.out)⟩⟩
 case round =>
  clear H'
  try clear p2
  obtain ⟨x5_1, rfl, HA, HK1, HB⟩ := hrel
  cases gk with
  | zero => exact absurd HA.out (by simp [zAv.l0])
  | succ k1 =>
   have H := HA.out
   clear HA
   simp only [zAv.l0] at H
   replace H := Option.bind_eq_some_iff.mp H
   obtain ⟨t167, A30, H⟩ := H
   replace H : (zAv.l1 k1 l0 a1 x5_1 x5_1 t167 (t167.length : Int) 0) = some r := H
   have A3 := zA1.mk A30
   clear A30
   have H' := zA1.mk H
   clear H
   go_wp2_with (first | ((with_reducible refine zB1 (f := 37) rfl ?_); refine zC2 (some 15) rfl rfl Tryd.func37 (by kernel_rfl) rfl #[.int .u64 x5_1] rfl (by (try simp only [List.map_toArray, List.map_cons, List.map_nil]); first | done | rfl | (simp only [List.length_drop, List.length_take]; rfl)) ?_; (with_reducible refine (zB9.calls k1 x5_1 t167 _ ?side1 A3.out).mono ?_); (case side1 => repeat (first | exact (Kd.zAy HG.out HB.out) | (with_reducible refine Kd.zA8 ?_ _) | (with_reducible refine Kd.zAd ?_ _) | (with_reducible refine Kd.zAp ?_))); rintro e w4 ⟨v168, rfl, ho0, hb⟩; refine ⟨_, rfl, ?_⟩; have n0_ := zA1.mk (Kd.R_lower ho0 (zAc (by repeat (first | (with_reducible first | exact HB.out | apply zA2 | apply zA0 | apply zA3) | exact HB.out)))); have n1_ := zA1.mk (zAm (by repeat (first | (with_reducible first | exact HB.out | apply zA2 | apply zA0 | apply zA3) | exact HB.out)) hb); clear HB; have HO169 := n0_; have HB := n1_; clear n0_ n1_; (try clear hb); (try clear hb2); (try clear hk); (try clear hi); (try clear ho0); obtain ⟨Ao5, co5, eo5⟩ := Kd.zCe HO169.out; subst eo5))
   go_loopg [6, 17] k1 (fun kq v6 v17 w' => ∃ (x6_2 : Int) (x17_2 : Int), v6 = .int .u64 x6_2 ∧ v17 = .int .i64 x17_2 ∧ zA1 (zAv.l1 kq l0 a1 x5_1 x6_2 t167 (t167.length : Int) x17_2 = some r) ∧ zA1 (kq ≤ k1) ∧ zA1 (Kd.R (Kd.int .i64) 3 w' w.heap.size (fun _ => True) (.slice Ao5 t167.length co5) t167) ∧ zA1 (Below w.heap.size w w'))
   case atStart => exact ⟨(x5_1), (0), (by first | rfl | (simp; done) | (simp [*]; done)), (by first | rfl | (simp; done) | (simp [*]; done)), H', ⟨Nat.le_refl _⟩, ⟨by (with_reducible repeat (first | apply Kd.zAk | apply Kd.zAj | apply Kd.zAt)); exact HO169.out⟩, ⟨by repeat (first | (with_reducible first | exact HB.out | apply zA2 | apply zA0 | apply zA3) | exact HB.out)⟩⟩
   case round =>
    clear H'
    try clear p2
    try clear c3
    try clear c4
    try clear p2
    obtain ⟨x6_2, x17_2, rfl, rfl, HA, HK2, HO_15, HB⟩ := hrel
    cases gk with
    | zero => exact absurd HA.out (by simp [zAv.l1])
    | succ k2 =>
     have H := HA.out
     clear HA
     simp only [zAv.l1] at H
     by_cases c6 : x17_2 < (t167.length : Int)
     ·rw [if_pos c6] at H
      have c6b0 : decide (x17_2 < (t167.length : Int)) = true := decide_eq_true c6
      clear c6
      by_cases c7 : 0 ≤ x17_2
      rotate_left
      ·rw [if_neg c7] at H
       exact absurd H (by simp)
      rw [if_pos c7] at H
      have c7b0 : decide (0 ≤ x17_2) = true := decide_eq_true c7
      clear c7
      by_cases c8 : x17_2 < (t167.length : Int)
      rotate_left
      ·rw [if_neg c8] at H
       exact absurd H (by simp)
      rw [if_pos c8] at H
      have c8b0 : decide (x17_2 < (t167.length : Int)) = true := decide_eq_true c8
      clear c8
      by_cases c9 : 0 ≤ (rd t167 x17_2)
      rotate_left
      ·rw [if_neg c9] at H
       exact absurd H (by simp)
      rw [if_pos c9] at H
      have c9b0 : decide (0 ≤ (rd t167 x17_2)) = true := decide_eq_true c9
      clear c9
      by_cases c10 : (rd t167 x17_2) < (l0.length : Int)
      rotate_left
      ·rw [if_neg c10] at H
       exact absurd H (by simp)
      rw [if_pos c10] at H
      have c10b0 : decide ((rd t167 x17_2) < (l0.length : Int)) = true := decide_eq_true c10
      clear c10
      have H' := zA1.mk H
      clear H
      have p170 : 0 ≤ (x17_2 : Int) := of_decide_eq_true (by first | (with_reducible assumption) | assumption)
      have q170 : x17_2 < (t167.length : Int) := of_decide_eq_true (by first | (with_reducible assumption) | assumption)
      obtain ⟨ad170, e170, hx170_0⟩ := Kd.at_int (Kd.zBd HO_15.out).2.2 x17_2 p170 q170
      cases e170
      replace p170 := eq_true p170
      replace q170 := eq_true q170
      have p171 : 0 ≤ ((rd t167 x17_2) : Int) := of_decide_eq_true (by first | (with_reducible assumption) | assumption)
      have q171 : (rd t167 x17_2) < (l0.length : Int) := of_decide_eq_true (by first | (with_reducible assumption) | assumption)
      obtain ⟨ad171, e171, hx171_0⟩ := Kd.at_int HR0.out (rd t167 x17_2) p171 q171
      cases e171
      replace hx171_0 := (HB.out.cell (World.block_lt_of_cell? w _ hx171_0)).trans hx171_0
      replace p171 := eq_true p171
      replace q171 := eq_true q171
      go_wp2
      go_roundg k2
      case measure => have := HK1.out; have := HK2.out; omega
      case rel => exact ⟨(Go.bits .or .u64 x6_2 (Go.bits .and .u64 (rd l0 (rd t167 x17_2)) a1)), (wrap64 (x17_2 + 1)), (by first | rfl | (simp; done) | (simp [*]; done)), (by first | rfl | (simp; done) | (simp [*]; done)), H', ⟨by have := HK1.out; have := HK2.out; omega⟩, ⟨by (with_reducible repeat (first | apply Kd.zAk | apply Kd.zAj | apply Kd.zAt)); exact HO_15.out⟩, ⟨by repeat (first | (with_reducible first | exact HB.out | apply zA2 | apply zA0 | apply zA3) | exact HB.out)⟩⟩
     ·rw [if_neg c6] at H
      have c6b0 : decide (x17_2 < (t167.length : Int)) = false := decide_eq_false c6
      clear c6
      by_cases c11 : x6_2 = x5_1
      ·rw [if_pos c11] at H
       have c11b0 : (x6_2 == x5_1) = true := beq_iff_eq.mpr c11
       have c11b1 : (x6_2 != x5_1) = false := bne_eq_false_iff_eq.mpr c11
       clear c11
       obtain rfl := Option.some.inj H
       go_wp2
       go_ret
       exact ⟨by first | rfl | (simp [zAx, zAw] <;> rfl) | (simp [*, zAx, zAw] <;> rfl), by repeat (first | (with_reducible first | exact HB.out | apply zA2 | apply zA0 | apply zA3) | exact HB.out)⟩
      ·rw [if_neg c11] at H
       have c11b0 : (x6_2 == x5_1) = false := beq_eq_false_iff_ne.mpr c11
       have c11b1 : (x6_2 != x5_1) = true := bne_iff_ne.mpr c11
       have H' := zA1.mk H
       clear H
       go_wp2
       go_roundg k2
       case measure => have := HK1.out; have := HK2.out; omega
       case rel => exact ⟨(x6_2), (by first | rfl | (simp; done) | (simp [*]; done)), H', ⟨by have := HK1.out; have := HK2.out; omega⟩, ⟨by repeat (first | (with_reducible first | exact HB.out | apply zA2 | apply zA0 | apply zA3) | exact HB.out)⟩⟩
end
end Go.Proofs.YtbghfbhlbfcloaaDoor.PL
namespace Go.Proofs.YtbghfbhlbfcloaaDoor.PL
section
set_option linter.unusedVariables false
set_option linter.unusedSimpArgs false
open Go.RowKit Go.Proofs.YtbghfbhlbfcloaaDoorW.PrintWords Go.Proofs.YtbghfbhlbfcloaaDoorW.PrintLast Go.Proofs.YtbghfbhlbfcloaaDoorW.PrintMore
theorem wr1 (i : Nat) (h : i < 1000000) : wrap64 ((i : Int) + 1) = ((i + 1 : Nat) : Int) := by unfold wrap64; omega
theorem wm1 (i : Nat) (h : i < 1000000) : wrap64 (((i + 1 : Nat) : Int) - 1) = (i : Int) := by unfold wrap64; omega
theorem rdI (l : List Int) (i : Nat) (h : i < l.length) : rd l (i : Int) = l[i] := by
 unfold rd
 rw [Int.toNat_natCast, List.getD_eq_getElem?_getD, List.getElem?_eq_getElem h]; rfl
theorem dropI (l : List Int) (i : Nat) (h : i < l.length) : l.drop i = rd l (i : Int) :: l.drop (i + 1) := by rw [rdI l i h, List.drop_eq_getElem_cons h]
theorem up {α : Type} {f : Nat → Option α} (hm : ∀ k, LeO (f k) (f (k + 1))) {k : Nat} {r : α} (h : f k = some r) : ∀ k', k ≤ k' → f k' = some r
 | 0, hk => by
  obtain rfl : k = 0 := by omega
  exact h
 | k' + 1, hk => by
  rcases Nat.lt_or_ge k' k with h1 | h1
  ·obtain rfl : k = k' + 1 := by omega
   exact h
  ·exact hm k' r (up hm h k' h1)
theorem has_l (l : List Int) (a : Int) (hl : l.length < 1000000) : ∀ (k i : Nat), i ≤ l.length → l.length - i < k → zBf.l0 k l a (i : Int) = some (decide (a ∈ l.drop i))
 | 0, i, _, h => absurd h (Nat.not_lt_zero _)
 | k + 1, i, hi, h => by
  unfold zBf.l0
  by_cases hlt : i < l.length
  ·rw [if_pos (by omega), if_pos (by omega), dropI l i hlt]
   by_cases he : rd l (i : Int) = a
   ·rw [if_pos he, he]
    simp
   ·rw [if_neg he, wr1 i (by omega), has_l l a hl k (i + 1) (by omega) (by omega)]
    congr 1
    simp only [List.mem_cons]
    exact decide_eq_decide.2 ⟨.inr, fun h => h.elim (fun e => absurd e.symm he) id⟩
  ·rw [if_neg (by omega), List.drop_eq_nil_of_le (by omega)]
   simp
theorem has_f (k : Nat) (l : List Int) (a : Int) (hl : l.length < 1000000) (hk : l.length < k) : zBf.f k l a = some (decide (a ∈ l)) := by
 have := has_l l a hl k 0 (Nat.zero_le _) (by omega)
 unfold zBf.f
 simpa using this
theorem extE {a b : S68} (h0 : a.f0 = b.f0) (h1 : a.f1 = b.f1) : a = b := by
 cases a; cases b; cases h0; cases h1; rfl
instance decS68 : DecidableEq S68 := fun a b => if h : a.f0 = b.f0 ∧ a.f1 = b.f1 then isTrue (extE h.1 h.2) else isFalse (fun e => h (by rw [e]; exact ⟨rfl, rfl⟩))
theorem rdE (l : List S68) (i : Nat) (h : i < l.length) : zB4 l (i : Int) = l[i] := by
 unfold zB4
 rw [Int.toNat_natCast, List.getD_eq_getElem?_getD, List.getElem?_eq_getElem h]; rfl
theorem touch_l (n : Int) (l : List S68) (a b : Int) (hl : l.length < 1000000) : ∀ (k i : Nat), i ≤ l.length → l.length - i < k → zBj.l0 k a b (i : Int) n l = some (decide ((⟨a, b⟩ : S68) ∈ l.drop i))
 | 0, i, _, h => absurd h (Nat.not_lt_zero _)
 | k + 1, i, hi, h => by
  unfold zBj.l0
  by_cases hlt : i < l.length
  ·rw [if_pos (by omega), if_pos (by omega), rdE l i hlt, List.drop_eq_getElem_cons hlt]
   by_cases he : l[i] = ⟨a, b⟩
   ·rw [he]
    simp
   ·rw [if_neg (by
     intro h1
     simp only [Bool.and_eq_true, beq_iff_eq] at h1
     apply he
     exact extE h1.1 h1.2), wr1 i (by omega), touch_l n l a b hl k (i + 1) (by omega) (by omega)]
    congr 1
    simp only [List.mem_cons]
    exact decide_eq_decide.2 ⟨.inr, fun h => h.elim (fun e => absurd e.symm he) id⟩
  ·rw [if_neg (by omega), List.drop_eq_nil_of_le (by omega)]
   simp
theorem touch_f (k : Nat) (n : Int) (l : List S68) (a b : Int) (hl : l.length < 1000000) (hk : l.length < k) : zBj.f k n l a b = some (decide ((⟨a, b⟩ : S68) ∈ l)) := by
 have := touch_l n l a b hl k 0 (Nat.zero_le _) (by omega)
 unfold zBj.f
 simpa using this
theorem without_l (l m : List Int) (hl : l.length < 1000000) (hm : m.length < 1000000) : ∀ (k i : Nat) (out : List Int), i ≤ l.length → l.length + m.length + 2 < k + i → out.length ≤ i → zB2.l0 k l m out (i : Int) = some (out ++ (l.drop i).filter fun x => !decide (x ∈ m))
 | 0, i, _, hi, h, _ => by omega
 | k + 1, i, out, hi, h, ho => by
  unfold zB2.l0
  by_cases hlt : i < l.length
  ·rw [if_pos (by omega), if_pos (by omega), has_f k m (rd l (i : Int)) hm (by omega), Option.bind_some, dropI l i hlt, wr1 i (by omega)]
   by_cases he : rd l (i : Int) ∈ m
   ·rw [if_pos (by simpa using he), without_l l m hl hm k (i + 1) out (by omega) (by omega) (by omega), List.filter_cons_of_neg (by simpa using he)]
   ·rw [if_neg (by simpa using he), if_pos (by omega), without_l l m hl hm k (i + 1) _ (by omega) (by omega) (by simp; omega), List.filter_cons_of_pos (by simpa using he), List.append_assoc]
    rfl
  ·rw [if_neg (by omega), List.drop_eq_nil_of_le (by omega)]
   simp
theorem without_f (k : Nat) (l m : List Int) (hl : l.length < 1000000) (hm : m.length < 1000000) (hk : l.length + m.length + 2 < k) : zB2.f k l m = some (l.filter fun x => !decide (x ∈ m)) := by
 have := without_l l m hl hm k 0 [] (Nat.zero_le _) (by omega) (by simp)
 unfold zB2.f
 simpa using this
theorem same_l (l m : List Int) (hlm : l.length = m.length) (hl : l.length < 1000000) : ∀ (k i : Nat), i ≤ l.length → l.length - i < k → zAo.l0 k l m (i : Int) = some (decide (l.drop i = m.drop i))
 | 0, i, _, h => absurd h (Nat.not_lt_zero _)
 | k + 1, i, hi, h => by
  unfold zAo.l0
  by_cases hlt : i < l.length
  ·rw [if_pos (by omega), if_pos (by omega), if_pos (by omega), dropI l i hlt, dropI m i (by omega)]
   by_cases he : rd l (i : Int) = rd m (i : Int)
   ·rw [if_pos he, he, wr1 i (by omega), same_l l m hlm hl k (i + 1) (by omega) (by omega)]
    congr 1
    simp
   ·rw [if_neg he, decide_eq_false (fun e => he (by injection e))]
  ·rw [if_neg (by omega), List.drop_eq_nil_of_le (by omega), List.drop_eq_nil_of_le (by omega)]
   simp
theorem same_f (k : Nat) (l m : List Int) (hl : l.length < 1000000) (hk : l.length < k) : zAo.f k l m = some (decide (l = m)) := by
 unfold zAo.f
 by_cases h : l.length = m.length
 ·rw [if_pos (by omega)]
  have := same_l l m h hl k 0 (Nat.zero_le _) (by omega)
  simpa using this
 ·rw [if_neg (by omega), decide_eq_false (fun e => h (by rw [e]))]
theorem sameLists_l (l m : List (List Int)) (hlm : l.length = m.length) (hl : l.length < 1000000) (N : Nat) (hN : ∀ x ∈ l, x.length ≤ N) (hNN : N < 1000000) : ∀ (k i : Nat), i ≤ l.length → l.length + N + 2 < k + i → zBb.l0 k l m (i : Int) = some (decide (l.drop i = m.drop i))
 | 0, i, _, h => by omega
 | k + 1, i, hi, h => by
  unfold zBb.l0
  by_cases hlt : i < l.length
  ·have e1 : rd_L6 l (i : Int) = l[i] := by
    unfold rd_L6
    rw [Int.toNat_natCast, List.getD_eq_getElem?_getD, List.getElem?_eq_getElem hlt]; rfl
   have e2 : rd_L6 m (i : Int) = m[i] := by
    unfold rd_L6
    rw [Int.toNat_natCast, List.getD_eq_getElem?_getD, List.getElem?_eq_getElem (by omega)]; rfl
   have hx := hN l[i] (List.getElem_mem hlt)
   rw [if_pos (by omega), if_pos (by omega), if_pos (by omega), e1, e2, same_f k _ _ (by omega) (by omega), Option.bind_some, List.drop_eq_getElem_cons hlt]
   by_cases he : l[i] = m[i]
   ·rw [if_pos (by simpa using he), wr1 i (by omega), sameLists_l l m hlm hl N hN hNN k (i + 1) (by omega) (by omega)]
    have hd : m.drop i = m[i] :: m.drop (i + 1) := List.drop_eq_getElem_cons (by omega)
    rw [hd, he]
    exact congrArg some (decide_eq_decide.2 ⟨fun h => by rw [h], fun h => by injection h⟩)
   ·rw [if_neg (by simpa using he), List.drop_eq_getElem_cons (by omega : i < m.length), decide_eq_false (fun e => he (by injection e))]
  ·rw [if_neg (by omega), List.drop_eq_nil_of_le (by omega), List.drop_eq_nil_of_le (by omega)]
   simp
theorem sameLists_f (k : Nat) (l m : List (List Int)) (hl : l.length < 1000000) (N : Nat) (hN : ∀ x ∈ l, x.length ≤ N) (hNN : N < 1000000) (hk : l.length + N + 2 < k) : zBb.f k l m = some (decide (l = m)) := by
 unfold zBb.f
 by_cases h : l.length = m.length
 ·rw [if_pos (by omega)]
  have := sameLists_l l m h hl N hN hNN k 0 (Nat.zero_le _) (by omega)
  simpa using this
 ·rw [if_neg (by omega), decide_eq_false (fun e => h (by rw [e]))]
end
end Go.Proofs.YtbghfbhlbfcloaaDoor.PL
namespace Go.Proofs.YtbghfbhlbfcloaaDoor.PL
section
open Go.RowKit Go.Proofs.YtbghfbhlbfcloaaDoorW.PrintWords Go.Proofs.YtbghfbhlbfcloaaDoorW.PrintLast Go.Proofs.YtbghfbhlbfcloaaDoorW.PrintMore
attribute [local go_sem] zBw zBu zC7 zC6 zBo zBn zBv zBt   -- for this text's walks alone
set_option linter.unusedVariables false
set_option linter.unusedSimpArgs false
def zBe.l0 : Nat → List Int → List Int → Int → Int → Option (Bool)
 | 0, _, _, _, _ => none
 | k + 1, x0, x1, x12, x13 => if x13 < x12 then (if 0 ≤ x13 then (if x13 < (x0.length : Int) then (if x13 < (x1.length : Int) then (if (rd x0 x13) = (rd x1 x13) then (zBe.l0 k x0 x1 x12 (wrap64 (x13 + 1))) else (some false)) else (none)) else (none)) else (none)) else (some true)
def zBe.f (k : Nat) (l0 : List Int) (l1 : List Int) : Option (Bool) := if (l0.length : Int) = (l1.length : Int) then (zBe.l0 k l0 l1 (l0.length : Int) 0) else (some false)
theorem zBe.zBq : ∀ k, (∀ y0 y1 y2 y3, LeO (zBe.l0 k y0 y1 y2 y3) (zBe.l0 (k + 1) y0 y1 y2 y3))
 | 0 => fun _ _ _ _ r h => by simp [zBe.l0] at h
 | k + 1 => by
  have ih0 := zBe.zBq k
  ·intro y0 y1 y2 y3
   unfold zBe.l0
   repeat' first
   | (with_reducible exact ih0 _ _ _ _)
   | (with_reducible exact LeO.refl _)
   | (with_reducible exact LeO.none _)
   | (with_reducible refine LeO.ite ?_ ?_)
   | (with_reducible refine LeO.bind ?_ (fun _ => ?_))
theorem zBe.mono : ∀ a0 a1 k, LeO (zBe.f k a0 a1) (zBe.f (k + 1) a0 a1) := by
 intro a0 a1 k
 have ih0 := zBe.zBq k
 unfold zBe.f
 repeat' first
   | (with_reducible exact ih0 _ _ _ _)
   | (with_reducible exact LeO.refl _)
   | (with_reducible exact LeO.none _)
   | (with_reducible refine LeO.ite ?_ ?_)
   | (with_reducible refine LeO.bind ?_ (fun _ => ?_))
set_option maxHeartbeats 8000000 in
set_option maxRecDepth 100000 in
theorem zBe.calls (k : Nat) (A0 : Option Addr) (c0 : Nat) (l0 : List Int) (A1 : Option Addr) (c1 : Nat) (l1 : List Int) (r : Bool) (w : World) (hr0 : Kd.C (Kd.int .i64) w A0 l0.length l0) (hc0 : l0.length ≤ c0) (hr1 : Kd.C (Kd.int .i64) w A1 l1.length l1) (hc1 : l1.length ≤ c1) (h : zBe.f k l0 l1 = some r) :
  Calls Tryd.prog 60 #[.slice A0 l0.length c0, .slice A1 l1.length c1] w fun e w' => e = .returned (.bool r) ∧ zAr w w' := by
 have HR0 := zA1.mk hr0
 have HC0 := zA1.mk hc0
 clear hr0 hc0
 have HR1 := zA1.mk hr1
 have HC1 := zA1.mk hc1
 clear hr1 hc1
 have H : (if (l0.length : Int) = (l1.length : Int) then (zBe.l0 k l0 l1 (l0.length : Int) 0) else (some false)) = some r := h
 clear h
 by_cases c3 : (l0.length : Int) = (l1.length : Int)
 ·rw [if_pos c3] at H
  have c3b0 : ((l0.length : Int) == (l1.length : Int)) = true := beq_iff_eq.mpr c3
  have c3b1 : ((l0.length : Int) != (l1.length : Int)) = false := bne_eq_false_iff_eq.mpr c3
  have c3b2 : (l0.length == l1.length) = true := by first | simpa using c3 | (simp at c3 ⊢; omega)
  clear c3
  have H' := zA1.mk H
  clear H
  go_enter Tryd.func60, Tryd.ntmps60
  go_wp2
  repeat (go_quiet (fail); try go_wp2)
  go_loopg [13] k (fun kq v13 w' => ∃ (x13_1 : Int), v13 = .int .i64 x13_1 ∧ zA1 (zBe.l0 kq l0 l1 (l0.length : Int) x13_1 = some r) ∧ zA1 (kq ≤ k) ∧ zAr w w')
  case atStart => exact ⟨(0), (by first | rfl | (simp; done) | (simp [*]; done)), H', ⟨Nat.le_refl _⟩, by repeat (first | exact zAr.refl _ | apply zAr.step)⟩
  case round =>
   clear H'
   try clear c1
   try clear p2
   try clear c3
   try clear c3b0
   try clear c3b1
   try clear c3b2
   obtain ⟨x13_1, rfl, HA, HK1, ⟨m1, rfl⟩⟩ := hrel
   cases gk with
   | zero => exact absurd HA.out (by simp [zBe.l0])
   | succ k1 =>
    have H := HA.out
    clear HA
    simp only [zBe.l0] at H
    by_cases c4 : x13_1 < (l0.length : Int)
    ·rw [if_pos c4] at H
     have c4b0 : decide (x13_1 < (l0.length : Int)) = true := decide_eq_true c4
     clear c4
     by_cases c5 : 0 ≤ x13_1
     rotate_left
     ·rw [if_neg c5] at H
      exact absurd H (by simp)
     rw [if_pos c5] at H
     have c5b0 : decide (0 ≤ x13_1) = true := decide_eq_true c5
     clear c5
     by_cases c6 : x13_1 < (l0.length : Int)
     rotate_left
     ·rw [if_neg c6] at H
      exact absurd H (by simp)
     rw [if_pos c6] at H
     have c6b0 : decide (x13_1 < (l0.length : Int)) = true := decide_eq_true c6
     clear c6
     by_cases c7 : x13_1 < (l1.length : Int)
     rotate_left
     ·rw [if_neg c7] at H
      exact absurd H (by simp)
     rw [if_pos c7] at H
     have c7b0 : decide (x13_1 < (l1.length : Int)) = true := decide_eq_true c7
     clear c7
     by_cases c8 : (rd l0 x13_1) = (rd l1 x13_1)
     ·rw [if_pos c8] at H
      have c8b0 : ((rd l0 x13_1) == (rd l1 x13_1)) = true := beq_iff_eq.mpr c8
      have c8b1 : ((rd l0 x13_1) != (rd l1 x13_1)) = false := bne_eq_false_iff_eq.mpr c8
      clear c8
      have H' := zA1.mk H
      clear H
      have p422 : 0 ≤ (x13_1 : Int) := of_decide_eq_true (by first | (with_reducible assumption) | assumption)
      have q422 : x13_1 < (l0.length : Int) := of_decide_eq_true (by first | (with_reducible assumption) | assumption)
      obtain ⟨ad422, e422, hx422_0⟩ := Kd.at_int HR0.out x13_1 p422 q422
      cases e422
      replace p422 := eq_true p422
      replace q422 := eq_true q422
      have p423 : 0 ≤ (x13_1 : Int) := of_decide_eq_true (by first | (with_reducible assumption) | assumption)
      have q423 : x13_1 < (l1.length : Int) := of_decide_eq_true (by first | (with_reducible assumption) | assumption)
      obtain ⟨ad423, e423, hx423_0⟩ := Kd.at_int HR1.out x13_1 p423 q423
      cases e423
      replace p423 := eq_true p423
      replace q423 := eq_true q423
      go_wp2
      repeat (go_quiet (fail); try go_wp2)
      go_roundg k1
      case measure => have := HK1.out; omega
      case rel => exact ⟨(wrap64 (x13_1 + 1)), (by first | rfl | (simp; done) | (simp [*]; done)), H', ⟨by have := HK1.out; omega⟩, by repeat (first | exact zAr.refl _ | apply zAr.step)⟩
     ·rw [if_neg c8] at H
      have c8b0 : ((rd l0 x13_1) == (rd l1 x13_1)) = false := beq_eq_false_iff_ne.mpr c8
      have c8b1 : ((rd l0 x13_1) != (rd l1 x13_1)) = true := bne_iff_ne.mpr c8
      obtain rfl := Option.some.inj H
      have p422 : 0 ≤ (x13_1 : Int) := of_decide_eq_true (by first | (with_reducible assumption) | assumption)
      have q422 : x13_1 < (l0.length : Int) := of_decide_eq_true (by first | (with_reducible assumption) | assumption)
      obtain ⟨ad422, e422, hx422_0⟩ := Kd.at_int HR0.out x13_1 p422 q422
      cases e422
      replace p422 := eq_true p422
      replace q422 := eq_true q422
      have p423 : 0 ≤ (x13_1 : Int) := of_decide_eq_true (by first | (with_reducible assumption) | assumption)
      have q423 : x13_1 < (l1.length : Int) := of_decide_eq_true (by first | (with_reducible assumption) | assumption)
      obtain ⟨ad423, e423, hx423_0⟩ := Kd.at_int HR1.out x13_1 p423 q423
      cases e423
      replace p423 := eq_true p423
      replace q423 := eq_true q423
      go_wp2
      repeat (go_quiet (fail); try go_wp2)
      go_ret
      exact ⟨by first | rfl | (simp; done) | (simp [*]; done), by repeat (first | exact zAr.refl _ | apply zAr.step)⟩
    ·rw [if_neg c4] at H
     have c4b0 : decide (x13_1 < (l0.length : Int)) = false := decide_eq_false c4
     clear c4
     obtain rfl := Option.some.inj H
     go_wp2
     repeat (go_quiet (fail); try go_wp2)
     go_ret
     exact ⟨by first | rfl | (simp; done) | (simp [*]; done), by repeat (first | exact zAr.refl _ | apply zAr.step)⟩
 ·rw [if_neg c3] at H
  have c3b0 : ((l0.length : Int) == (l1.length : Int)) = false := beq_eq_false_iff_ne.mpr c3
  have c3b1 : ((l0.length : Int) != (l1.length : Int)) = true := bne_iff_ne.mpr c3
  have c3b2 : (l0.length == l1.length) = false := by first | simpa using c3 | (simp at c3 ⊢; omega)
  obtain rfl := Option.some.inj H
  go_enter Tryd.func60, Tryd.ntmps60
  go_wp2
  repeat (go_quiet (fail); try go_wp2)
  go_ret
  exact ⟨by first | rfl | (simp; done) | (simp [*]; done), by repeat (first | exact zAr.refl _ | apply zAr.step)⟩
end
end Go.Proofs.YtbghfbhlbfcloaaDoor.PL
namespace Go.Proofs.YtbghfbhlbfcloaaDoor.PL
section
open Go.RowKit Go.Proofs.YtbghfbhlbfcloaaDoorW.PrintWords Go.Proofs.YtbghfbhlbfcloaaDoorW.PrintLast Go.Proofs.YtbghfbhlbfcloaaDoorW.PrintMore
attribute [local go_sem] zBw zBu zC7 zC6 zBo zBn zBv zBt   -- for this text's walks alone
set_option linter.unusedVariables false
set_option linter.unusedSimpArgs false
attribute [local go_sem high] eqA68
def zAs.l0 : Nat → Int → List Int → Int → Int → Option (Int)
 | 0, _, _, _, _ => none
 | k + 1, x3, x6, x7, x8 => if x8 < x7 then (if 0 ≤ x8 then (if x8 < (x6.length : Int) then (if 0 ≤ (rd x6 x8) then (zAs.l0 k (Go.bits .or .u64 x3 (shl .u64 1 (rd x6 x8))) x6 x7 (wrap64 (x8 + 1))) else (none)) else (none)) else (none)) else (some x3)
def zAs.f (k : Nat) (l0 : List Int) : Option (Int) := zAs.l0 k 0 l0 (l0.length : Int) 0
theorem zAs.zBq : ∀ k, (∀ y0 y1 y2 y3, LeO (zAs.l0 k y0 y1 y2 y3) (zAs.l0 (k + 1) y0 y1 y2 y3))
 | 0 => fun _ _ _ _ r h => by simp [zAs.l0] at h
 | k + 1 => by
  have ih0 := zAs.zBq k
  ·intro y0 y1 y2 y3
   unfold zAs.l0
   repeat' first
   | (with_reducible exact ih0 _ _ _ _)
   | (with_reducible exact LeO.refl _)
   | (with_reducible exact LeO.none _)
   | (with_reducible refine LeO.ite ?_ ?_)
   | (with_reducible refine LeO.bind ?_ (fun _ => ?_))
theorem zAs.mono : ∀ a0 k, LeO (zAs.f k a0) (zAs.f (k + 1) a0) := by
 intro a0 k
 have ih0 := zAs.zBq k
 unfold zAs.f
 repeat' first
   | (with_reducible exact ih0 _ _ _ _)
   | (with_reducible exact LeO.refl _)
   | (with_reducible exact LeO.none _)
   | (with_reducible refine LeO.ite ?_ ?_)
   | (with_reducible refine LeO.bind ?_ (fun _ => ?_))
set_option maxHeartbeats 8000000 in
set_option maxRecDepth 100000 in
theorem zAs.calls (k : Nat) (A0 : Option Addr) (c0 : Nat) (l0 : List Int) (r : Int) (w : World) (hr0 : Kd.C (Kd.int .i64) w A0 l0.length l0) (hc0 : l0.length ≤ c0) (h : zAs.f k l0 = some r) :
  Calls Tryd.prog 47 #[.slice A0 l0.length c0] w fun e w' => e = .returned (.int .u64 r) ∧ zAr w w' := by
 have HR0 := zA1.mk hr0
 have HC0 := zA1.mk hc0
 clear hr0 hc0
 have H : (zAs.l0 k 0 l0 (l0.length : Int) 0) = some r := h
 clear h
 have H' := zA1.mk H
 clear H
 go_enter Tryd.func47, Tryd.ntmps47
 go_wp2
 go_loopg [3, 8] k (fun kq v3 v8 w' => ∃ (x3_1 : Int) (x8_1 : Int), v3 = .int .u64 x3_1 ∧ v8 = .int .i64 x8_1 ∧ zA1 (zAs.l0 kq x3_1 l0 (l0.length : Int) x8_1 = some r) ∧ zA1 (kq ≤ k) ∧ zAr w w')
 case atStart => exact ⟨(0), (0), (by first | rfl | (simp; done) | (simp [*]; done)), (by first | rfl | (simp; done) | (simp [*]; done)), H', ⟨Nat.le_refl _⟩, by repeat (first | exact zAr.refl _ | apply zAr.step)⟩
 case round =>
  clear H'
  obtain ⟨x3_1, x8_1, rfl, rfl, HA, HK1, ⟨m1, rfl⟩⟩ := hrel
  cases gk with
  | zero => exact absurd HA.out (by simp [zAs.l0])
  | succ k1 =>
   have H := HA.out
   clear HA
   simp only [zAs.l0] at H
   by_cases c2 : x8_1 < (l0.length : Int)
   ·rw [if_pos c2] at H
    have c2b0 : decide (x8_1 < (l0.length : Int)) = true := decide_eq_true c2
    clear c2
    by_cases c3 : 0 ≤ x8_1
    rotate_left
    ·rw [if_neg c3] at H
     exact absurd H (by simp)
    rw [if_pos c3] at H
    have c3b0 : decide (0 ≤ x8_1) = true := decide_eq_true c3
    clear c3
    by_cases c4 : x8_1 < (l0.length : Int)
    rotate_left
    ·rw [if_neg c4] at H
     exact absurd H (by simp)
    rw [if_pos c4] at H
    have c4b0 : decide (x8_1 < (l0.length : Int)) = true := decide_eq_true c4
    clear c4
    by_cases c5 : 0 ≤ (rd l0 x8_1)
    rotate_left
    ·rw [if_neg c5] at H
     exact absurd H (by simp)
    rw [if_pos c5] at H
    have c5b0 := eq_true c5
    have c5b1 : decide (0 ≤ (rd l0 x8_1)) = true := decide_eq_true c5
    clear c5
    obtain ⟨ji6, hji6⟩ : ∃ j_ : Int, (shl .u64 1 (rd l0 x8_1)) = j_ := ⟨_, rfl⟩
    replace H : (zAs.l0 k1 (Go.bits .or .u64 x3_1 (ji6)) l0 (l0.length : Int) (wrap64 (x8_1 + 1))) = some r := by first | (rw [hji6] at H; exact H) | (simp only [hji6] at H ⊢; exact H)
    have hji6_ : (IntKind.u64.wrap (1 * 2 ^ min (rd l0 x8_1).toNat 64)) = ji6 := hji6
    have hji6z : (rd l0 x8_1) ≤ 64 → (IntKind.u64.wrap (1 * 2 ^ (rd l0 x8_1).toNat)) = ji6 := shl_small hji6
    have hji6u : (IntKind.u64.wrap (2 ^ min (rd l0 x8_1).toNat 64)) = ji6 := by have h_ := hji6_; rw [Int.one_mul] at h_; exact h_
    have hji6v : (rd l0 x8_1) ≤ 64 → (IntKind.u64.wrap (2 ^ (rd l0 x8_1).toNat)) = ji6 := fun hle_ => by have h_ := hji6z hle_; rw [Int.one_mul] at h_; exact h_
    have H' := zA1.mk H
    clear H
    have p153 : 0 ≤ (x8_1 : Int) := of_decide_eq_true (by first | (with_reducible assumption) | assumption)
    have q153 : x8_1 < (l0.length : Int) := of_decide_eq_true (by first | (with_reducible assumption) | assumption)
    obtain ⟨ad153, e153, hx153_0⟩ := Kd.at_int HR0.out x8_1 p153 q153
    cases e153
    replace p153 := eq_true p153
    replace q153 := eq_true q153
    go_wp2
    go_roundg k1
    case measure => have := HK1.out; omega
    case rel => exact ⟨(Go.bits .or .u64 x3_1 (ji6)), (wrap64 (x8_1 + 1)), (by first | rfl | (simp; done) | (simp only [← hji6] <;> (first | rfl | simp)) | (simp [*]; done)), (by first | rfl | (simp; done) | (simp [*]; done)), H', ⟨by have := HK1.out; omega⟩, by repeat (first | exact zAr.refl _ | apply zAr.step)⟩
   ·rw [if_neg c2] at H
    have c2b0 : decide (x8_1 < (l0.length : Int)) = false := decide_eq_false c2
    clear c2
    obtain rfl := Option.some.inj H
    go_wp2
    go_ret
    exact ⟨by first | rfl | (simp; done) | (simp [*]; done), by repeat (first | exact zAr.refl _ | apply zAr.step)⟩
end
end Go.Proofs.YtbghfbhlbfcloaaDoor.PL
namespace Go.Proofs.YtbghfbhlbfcloaaDoor.PL
section
open Go.RowKit Go.Proofs.YtbghfbhlbfcloaaDoorW.PrintWords Go.Proofs.YtbghfbhlbfcloaaDoorW.PrintLast Go.Proofs.YtbghfbhlbfcloaaDoorW.PrintMore
attribute [local go_sem] zBw zBu zC7 zC6 zBo zBn zBv zBt   -- for this text's walks alone
set_option linter.unusedVariables false
set_option linter.unusedSimpArgs false
mutual
def zAu.l0 : Nat → List Int → Int → List Int → Int → Int → Option (Int)
 | 0, _, _, _, _, _ => none
 | k + 1, x0, x1, x7, x8, x9 => if x9 < x8 then (if 0 ≤ x9 then (if x9 < (x7.length : Int) then (if (rd x7 x9) < 0 then (zAu.j1 k x0 x1 x9 (rd x7 x9) x7 x8 x9 true) else (zAu.j1 k x0 x1 x9 (rd x7 x9) x7 x8 x9 (decide ((rd x7 x9) ≥ x1)))) else (none)) else (none)) else (some 0)
def zAu.j1 : Nat → List Int → Int → Int → Int → List Int → Int → Int → Bool → Option (Int)
 | 0, _, _, _, _, _, _, _, _ => none
 | k + 1, x0, x1, x5, x6, x7, x8, x9, x20 => if x20 = true then (some 2) else (if x5 > 0 then (if 0 ≤ (wrap64 (x5 - 1)) then (if (wrap64 (x5 - 1)) < (x0.length : Int) then (if (rd x0 (wrap64 (x5 - 1))) ≥ x6 then (some 8) else (zAu.l0 k x0 x1 x7 x8 (wrap64 (x9 + 1)))) else (none)) else (none)) else (zAu.l0 k x0 x1 x7 x8 (wrap64 (x9 + 1))))
end
def zAu.f (k : Nat) (l0 : List Int) (a1 : Int) : Option (Int) := zAu.l0 k l0 a1 l0 (l0.length : Int) 0
theorem zAu.zBq : ∀ k, (∀ y0 y1 y2 y3 y4, LeO (zAu.l0 k y0 y1 y2 y3 y4) (zAu.l0 (k + 1) y0 y1 y2 y3 y4)) ∧ (∀ y0 y1 y2 y3 y4 y5 y6 y7, LeO (zAu.j1 k y0 y1 y2 y3 y4 y5 y6 y7) (zAu.j1 (k + 1) y0 y1 y2 y3 y4 y5 y6 y7))
 | 0 => ⟨fun _ _ _ _ _ r h => by simp [zAu.l0] at h, fun _ _ _ _ _ _ _ _ r h => by simp [zAu.j1] at h⟩
 | k + 1 => by
  obtain ⟨ih0, ih1⟩ := zAu.zBq k
  refine ⟨?_, ?_⟩
  ·intro y0 y1 y2 y3 y4
   unfold zAu.l0
   repeat' first
   | (with_reducible exact ih0 _ _ _ _ _)
   | (with_reducible exact ih1 _ _ _ _ _ _ _ _)
   | (with_reducible exact LeO.refl _)
   | (with_reducible exact LeO.none _)
   | (with_reducible refine LeO.ite ?_ ?_)
   | (with_reducible refine LeO.bind ?_ (fun _ => ?_))
  ·intro y0 y1 y2 y3 y4 y5 y6 y7
   unfold zAu.j1
   repeat' first
   | (with_reducible exact ih0 _ _ _ _ _)
   | (with_reducible exact ih1 _ _ _ _ _ _ _ _)
   | (with_reducible exact LeO.refl _)
   | (with_reducible exact LeO.none _)
   | (with_reducible refine LeO.ite ?_ ?_)
   | (with_reducible refine LeO.bind ?_ (fun _ => ?_))
theorem zAu.mono : ∀ a0 a1 k, LeO (zAu.f k a0 a1) (zAu.f (k + 1) a0 a1) := by
 intro a0 a1 k
 obtain ⟨ih0, ih1⟩ := zAu.zBq k
 unfold zAu.f
 repeat' first
   | (with_reducible exact ih0 _ _ _ _ _)
   | (with_reducible exact ih1 _ _ _ _ _ _ _ _)
   | (with_reducible exact LeO.refl _)
   | (with_reducible exact LeO.none _)
   | (with_reducible refine LeO.ite ?_ ?_)
   | (with_reducible refine LeO.bind ?_ (fun _ => ?_))
set_option maxHeartbeats 8000000 in
set_option maxRecDepth 100000 in
theorem zAu.calls (k : Nat) (A0 : Option Addr) (c0 : Nat) (l0 : List Int) (a1 : Int) (r : Int) (w : World) (hr0 : Kd.C (Kd.int .i64) w A0 l0.length l0) (hc0 : l0.length ≤ c0) (h : zAu.f k l0 a1 = some r) :
  Calls Tryd.prog 58 #[.slice A0 l0.length c0, .int .i64 a1] w fun e w' => e = .returned (.int .i64 r) ∧ zAr w w' := by
 have HR0 := zA1.mk hr0
 have HC0 := zA1.mk hc0
 clear hr0 hc0
 have H : (zAu.l0 k l0 a1 l0 (l0.length : Int) 0) = some r := h
 clear h
 have H' := zA1.mk H
 clear H
 go_enter Tryd.func58, Tryd.ntmps58
 go_wp2
 go_loopg [9] k (fun kq v9 w' => ∃ (x9_1 : Int), v9 = .int .i64 x9_1 ∧ zA1 (zAu.l0 kq l0 a1 l0 (l0.length : Int) x9_1 = some r) ∧ zA1 (kq ≤ k) ∧ zAr w w')
 case atStart => exact ⟨(0), (by first | rfl | (simp; done) | (simp [*]; done)), H', ⟨Nat.le_refl _⟩, by repeat (first | exact zAr.refl _ | apply zAr.step)⟩
 case round =>
  clear H'
  try clear p2
  obtain ⟨x9_1, rfl, HA, HK1, ⟨m1, rfl⟩⟩ := hrel
  cases gk with
  | zero => exact absurd HA.out (by simp [zAu.l0])
  | succ k1 =>
   have H := HA.out
   clear HA
   simp only [zAu.l0] at H
   by_cases c3 : x9_1 < (l0.length : Int)
   ·rw [if_pos c3] at H
    have c3b0 : decide (x9_1 < (l0.length : Int)) = true := decide_eq_true c3
    clear c3
    by_cases c4 : 0 ≤ x9_1
    rotate_left
    ·rw [if_neg c4] at H
     exact absurd H (by simp)
    rw [if_pos c4] at H
    have c4b0 : decide (0 ≤ x9_1) = true := decide_eq_true c4
    clear c4
    by_cases c5 : x9_1 < (l0.length : Int)
    rotate_left
    ·rw [if_neg c5] at H
     exact absurd H (by simp)
    rw [if_pos c5] at H
    have c5b0 : decide (x9_1 < (l0.length : Int)) = true := decide_eq_true c5
    clear c5
    have HC6 := zA1.mk H
    clear H
    have p154 : 0 ≤ (x9_1 : Int) := of_decide_eq_true (by first | (with_reducible assumption) | assumption)
    have q154 : x9_1 < (l0.length : Int) := of_decide_eq_true (by first | (with_reducible assumption) | assumption)
    obtain ⟨ad154, e154, hx154_0⟩ := Kd.at_int HR0.out x9_1 p154 q154
    cases e154
    replace p154 := eq_true p154
    replace q154 := eq_true q154
    go_upto_region 4 with (fail)
    go_cut [20] (fun v20 wc => ∃ (kq : Nat) (x20_5 : Bool), v20 = .bool x20_5 ∧ zA1 (zAu.j1 kq l0 a1 x9_1 (rd l0 x9_1) l0 (l0.length : Int) x9_1 x20_5 = some r) ∧ zA1 (kq ≤ k1) ∧ zAr w wc)
    case first =>
     have H := HC6.out
     clear HC6
     by_cases c7 : (rd l0 x9_1) < 0
     ·rw [if_pos c7] at H
      have c7b0 : decide ((rd l0 x9_1) < 0) = true := decide_eq_true c7
      clear c7
      (first | rw [c7b0] | (simp only [i64_w, i32_w]; rw [c7b0]) | skip)
      have H' := zA1.mk H
      clear H
      go_wp2
      go_meet
      case rel => exact ⟨_, (true), (by first | rfl | (simp; done) | (simp [*]; done)), H', ⟨by have := HK1.out; first | omega | exact Nat.le_refl _⟩, by repeat (first | exact zAr.refl _ | apply zAr.step)⟩
     ·rw [if_neg c7] at H
      have c7b0 : decide ((rd l0 x9_1) < 0) = false := decide_eq_false c7
      clear c7
      (first | rw [c7b0] | (simp only [i64_w, i32_w]; rw [c7b0]) | skip)
      have H' := zA1.mk H
      clear H
      go_wp2
      go_meet
      case rel => exact ⟨_, (decide ((rd l0 x9_1) ≥ a1)), (by first | rfl | (simp; done) | (simp [*]; done)), H', ⟨by have := HK1.out; first | omega | exact Nat.le_refl _⟩, by repeat (first | exact zAr.refl _ | apply zAr.step)⟩
    case rest =>
     clear HC6
     try clear p1
     try clear q1
     try clear hx1
     try clear p2
     try clear c3
     try clear c3b0
     try clear c4
     try clear c4b0
     try clear c5
     try clear c5b0
     try clear c7
     try clear c7b0
     try clear hx154_0
     try clear p154
     try clear p2
     try clear q154
     obtain ⟨kq, x20_5, rfl, HA, HJ5, ⟨mc5, rfl⟩⟩ := hcut
     cases kq with
     | zero => exact absurd HA.out (by simp [zAu.j1])
     | succ kj5 =>
      have H := HA.out
      clear HA
      simp only [zAu.j1] at H
      by_cases c8 : x20_5 = true
      ·subst c8
       have H1 : (some 2) = some r := by rw [if_pos rfl] at H; exact H
       clear H
       have H := H1
       clear H1
       obtain rfl := Option.some.inj H
       go_wp2
       go_ret
       exact ⟨by first | rfl | (simp; done) | (simp [*]; done), by repeat (first | exact zAr.refl _ | apply zAr.step)⟩
      ·replace c8 := Bool.eq_false_iff.mpr c8
       subst c8
       have H1 : (if x9_1 > 0 then (if 0 ≤ (wrap64 (x9_1 - 1)) then (if (wrap64 (x9_1 - 1)) < (l0.length : Int) then (if (rd l0 (wrap64 (x9_1 - 1))) ≥ (rd l0 x9_1) then (some 8) else (zAu.l0 kj5 l0 a1 l0 (l0.length : Int) (wrap64 (x9_1 + 1)))) else (none)) else (none)) else (zAu.l0 kj5 l0 a1 l0 (l0.length : Int) (wrap64 (x9_1 + 1)))) = some r := by rw [if_neg (show ¬ (false = true) by decide)] at H; exact H
       clear H
       have H := H1
       clear H1
       by_cases c9 : x9_1 > 0
       ·rw [if_pos c9] at H
        have c9b0 : decide (0 < x9_1) = true := decide_eq_true c9
        clear c9
        obtain ⟨ji10, hji10⟩ : ∃ j_ : Int, (wrap64 (x9_1 - 1)) = j_ := ⟨_, rfl⟩
        replace H : (if 0 ≤ (ji10) then (if (ji10) < (l0.length : Int) then (if (rd l0 (ji10)) ≥ (rd l0 x9_1) then (some 8) else (zAu.l0 kj5 l0 a1 l0 (l0.length : Int) (wrap64 (x9_1 + 1)))) else (none)) else (none)) = some r := by first | (rw [hji10] at H; exact H) | (simp only [hji10] at H ⊢; exact H)
        have hji10w : (IntKind.i64.wrap (x9_1 - 1)) = ji10 := (i64_w _).trans hji10
        by_cases c11 : 0 ≤ (ji10)
        rotate_left
        ·rw [if_neg c11] at H
         exact absurd H (by simp)
        rw [if_pos c11] at H
        have c11b0 : decide (0 ≤ (ji10)) = true := decide_eq_true c11
        clear c11
        by_cases c12 : (ji10) < (l0.length : Int)
        rotate_left
        ·rw [if_neg c12] at H
         exact absurd H (by simp)
        rw [if_pos c12] at H
        have c12b0 : decide ((ji10) < (l0.length : Int)) = true := decide_eq_true c12
        clear c12
        by_cases c13 : (rd l0 (ji10)) ≥ (rd l0 x9_1)
        ·rw [if_pos c13] at H
         have c13b0 : decide ((rd l0 x9_1) ≤ (rd l0 (ji10))) = true := decide_eq_true c13
         clear c13
         obtain rfl := Option.some.inj H
         have p155 : 0 ≤ ((ji10) : Int) := of_decide_eq_true (by first | (with_reducible assumption) | assumption)
         have q155 : (ji10) < (l0.length : Int) := of_decide_eq_true (by first | (with_reducible assumption) | assumption)
         obtain ⟨ad155, e155, hx155_0⟩ := Kd.at_int HR0.out (ji10) p155 q155
         obtain rfl : ad154 = ad155 := (by injection e155)
         replace p155 := eq_true p155
         replace q155 := eq_true q155
         go_wp2
         go_ret
         exact ⟨by first | rfl | (simp; done) | (simp only [← hji10] <;> (first | rfl | simp)) | (simp [*]; done), by repeat (first | exact zAr.refl _ | apply zAr.step)⟩
        ·rw [if_neg c13] at H
         have c13b0 : decide ((rd l0 x9_1) ≤ (rd l0 (ji10))) = false := decide_eq_false c13
         clear c13
         have H' := zA1.mk H
         clear H
         have p155 : 0 ≤ ((ji10) : Int) := of_decide_eq_true (by first | (with_reducible assumption) | assumption)
         have q155 : (ji10) < (l0.length : Int) := of_decide_eq_true (by first | (with_reducible assumption) | assumption)
         obtain ⟨ad155, e155, hx155_0⟩ := Kd.at_int HR0.out (ji10) p155 q155
         obtain rfl : ad154 = ad155 := (by injection e155)
         replace p155 := eq_true p155
         replace q155 := eq_true q155
         go_wp2
         go_roundg kj5
         case measure => have := HK1.out; have := HJ5.out; omega
         case rel => exact ⟨(wrap64 (x9_1 + 1)), (by first | rfl | (simp; done) | (simp [*]; done)), H', ⟨by have := HK1.out; have := HJ5.out; omega⟩, by repeat (first | exact zAr.refl _ | apply zAr.step)⟩
       ·rw [if_neg c9] at H
        have c9b0 : decide (0 < x9_1) = false := decide_eq_false c9
        clear c9
        have H' := zA1.mk H
        clear H
        go_wp2
        go_roundg kj5
        case measure => have := HK1.out; have := HJ5.out; omega
        case rel => exact ⟨(wrap64 (x9_1 + 1)), (by first | rfl | (simp; done) | (simp [*]; done)), H', ⟨by have := HK1.out; have := HJ5.out; omega⟩, by repeat (first | exact zAr.refl _ | apply zAr.step)⟩
   ·rw [if_neg c3] at H
    have c3b0 : decide (x9_1 < (l0.length : Int)) = false := decide_eq_false c3
    clear c3
    obtain rfl := Option.some.inj H
    go_wp2
    go_ret
    exact ⟨by first | rfl | (simp; done) | (simp [*]; done), by repeat (first | exact zAr.refl _ | apply zAr.step)⟩
end
end Go.Proofs.YtbghfbhlbfcloaaDoor.PL
namespace Go.Proofs
section
set_option linter.unusedVariables false
set_option linter.unusedSimpArgs false
open Go.Shelf
def Tryd.contG_ren : Go.Shelf.Ren := ⟨fun | 8 => 56 | 6 => 77 | n => n, fun | 22 => 52 | 23 => 57 | 25 => 94 | 4 => 4 | 3 => 3 | 0 => 0 | n => n, fun | n => n⟩
theorem Tryd.contG : Go.Proofs.SlLaysH0.n8 Tryd.prog Tryd.contG_ren := {
 mixed := by kernel_rfl
 f6 := ⟨Tryd.f77.name, by decide, Tryd.func77.trans (congrArg some (by kernel_rfl))⟩
 f8 := ⟨Tryd.f56.name, by decide, Tryd.func56.trans (congrArg some (by kernel_rfl))⟩
 t0 := Tryd.underlying0
 a0 := Tryd.isAgg0
 z0 := Tryd.sizeOf0
 v0 := Tryd.zeroValue0
 t3 := Tryd.underlying3
 a3 := Tryd.isAgg3
 z3 := Tryd.sizeOf3
 v3 := Tryd.zeroValue3
 t4 := Tryd.underlying4
 a4 := Tryd.isAgg4
 z4 := Tryd.sizeOf4
 v4 := Tryd.zeroValue4
 t22 := Tryd.underlying52
 a22 := Tryd.isAgg52
 z22 := Tryd.sizeOf52
 v22 := Tryd.zeroValue52
 t25 := Tryd.underlying94
 a25 := Tryd.isAgg94
 z25 := Tryd.sizeOf94
 v25 := Tryd.zeroValue94 }
def Tryd.contS_ren : Go.Shelf.Ren := ⟨fun | 17 => 75 | 15 => 96 | 20 => 112 | n => n, fun | 9 => 9 | 23 => 104 | 4 => 4 | 3 => 3 | 0 => 0 | 21 => 21 | n => n, fun | n => n⟩
theorem Tryd.contS : Go.Proofs.LaysGw.n17 Tryd.prog Tryd.contS_ren := {
 mixed := by kernel_rfl
 f15 := Tryd.func96.trans (congrArg some (by kernel_rfl))
 f17 := Tryd.func75.trans (congrArg some (by kernel_rfl))
 f20 := Tryd.func112.trans (congrArg some (by kernel_rfl))
 t0 := Tryd.underlying0
 a0 := Tryd.isAgg0
 z0 := Tryd.sizeOf0
 v0 := Tryd.zeroValue0
 i0 := by kernel_rfl
 t3 := Tryd.underlying3
 a3 := Tryd.isAgg3
 z3 := Tryd.sizeOf3
 v3 := Tryd.zeroValue3
 i3 := by kernel_rfl
 t4 := Tryd.underlying4
 a4 := Tryd.isAgg4
 z4 := Tryd.sizeOf4
 v4 := Tryd.zeroValue4
 i4 := by kernel_rfl
 t9 := Tryd.underlying9
 a9 := Tryd.isAgg9
 z9 := Tryd.sizeOf9
 v9 := Tryd.zeroValue9
 i9 := by kernel_rfl
 t21 := Tryd.underlying21
 a21 := Tryd.isAgg21
 z21 := Tryd.sizeOf21
 v21 := Tryd.zeroValue21
 i21 := by kernel_rfl
 t23 := Tryd.underlying104
 a23 := Tryd.isAgg104
 z23 := Tryd.sizeOf104
 v23 := Tryd.zeroValue104
 i23 := by kernel_rfl }
end
end Go.Proofs
namespace Go.Proofs.YtbghfbhlbfcloaaDoor.PL
section
open Go.RowKit Go.Proofs.YtbghfbhlbfcloaaDoorW.PrintWords Go.Proofs.YtbghfbhlbfcloaaDoorW.PrintLast Go.Proofs.YtbghfbhlbfcloaaDoorW.PrintMore
set_option linter.unusedVariables false
set_option linter.unusedSimpArgs false
set_option maxHeartbeats 1000000 in
theorem clo57 (B : Nat) (s y0 : ByteArray) (v : Value) (W : World) (hc : W.cell? ⟨B, 0, none⟩ = some (.string s)) (A : Option Addr) (n c : Nat) (hv : v = .slice A n c) :
  Calls Tryd.prog 57 #[.agg #[.string y0, v], .pointer (some ⟨B, 0, none⟩)] W fun e w' => e = .returned (.bool (y0.toList == s.toList)) ∧ Below W.heap.size W w' := by
 subst hv
 have hu57 := Tryd.underlying57
 have hlt := World.block_lt_of_cell? W _ hc
 have hc2 := (zA2 (Below.refl W.heap.size W) (.cells #[.string y0, .slice A n c] 57)).cell (p := ⟨B, 0, none⟩) hlt
 rw [hc] at hc2
 go_enter Tryd.func57, Tryd.ntmps57
 go_wp2
 go_ret
 exact ⟨rfl, zA2 (Below.refl _ _) _⟩
set_option maxHeartbeats 1000000 in
theorem clo59 (k : Nat) (B : Nat) (y0 : ByteArray) (xs ys : List Int) (A A' : Option Addr) (c c' : Nat) (r : Bool) (W : World) (hc : W.cell? ⟨B, 1, none⟩ = some (.slice A xs.length c)) (hx : Kd.C (Kd.int .i64) W A xs.length xs) (hxc : xs.length ≤ c) (hy : Kd.C (Kd.int .i64) W A' ys.length ys) (hyc : ys.length ≤ c')
  (h : zBe.f k xs ys = some r) :
  Calls Tryd.prog 59 #[.agg #[.string y0, .slice A' ys.length c'], .pointer (some ⟨B, 0, none⟩)] W fun e w' => e = .returned (.bool r) ∧ Below W.heap.size W w' := by
 have hu57 := Tryd.underlying57
 have hlt := World.block_lt_of_cell? W _ hc
 have hc2 := (zA2 (Below.refl W.heap.size W) (.cells #[.string y0, .slice A' ys.length c'] 57)).cell (p := ⟨B, 1, none⟩) hlt
 rw [hc] at hc2
 have HE := zA1.mk (zBe.calls k A c xs A' c' ys r (W.alloc (.cells #[.string y0, .slice A' ys.length c'] 57)) (Kd.zA8 hx _) hxc (Kd.zA8 hy _) hyc h)
 clear hx hy hxc hyc h
 go_enter Tryd.func59, Tryd.ntmps59
 go_wp2_with (go_at_call 60; refine HE.out.mono ?_; rintro e w' ⟨rfl, ⟨nd, rfl⟩⟩)
 go_ret
 exact ⟨rfl, zA0 (zA2 (Below.refl _ _) _) _⟩
end
end Go.Proofs.YtbghfbhlbfcloaaDoor.PL
namespace Go.Proofs.YtbghfbhlbfcloaaDoor.PL
section
open Go.RowKit Go.Proofs Go.Proofs.YtbghfbhlbfcloaaDoorW.PrintWords Go.Proofs.YtbghfbhlbfcloaaDoorW.PrintLast Go.Proofs.YtbghfbhlbfcloaaDoorW.PrintMore
set_option linter.unusedVariables false
set_option linter.unusedSimpArgs false
def badR (r : Nat) : Bool := decide (r < 33) || decide (126 < r)
def nameB (s : ByteArray) : Bool := decide (0 < s.size) && decide (s.size ≤ 40) && !(decide (0 ≤ Lib.idxFunc badR true s))
theorem pred76 (w : World) : PredAt Tryd.prog 76 #[] encR badR w := fun W r _ => by
 unfold FnGives
 by_cases h1 : (r : Int) < 33
 ·have h2 : r < 33 := by omega
  go_enter Tryd.func76, Tryd.ntmps76
  go_wp2
  go_ret
  exact ⟨by simp [badR, h2], 0, rfl⟩
 ·have h2 : ¬ r < 33 := by omega
  by_cases h3 : (126 : Int) < r
  ·have h4 : 126 < r := by omega
   go_enter Tryd.func76, Tryd.ntmps76
   go_wp2
   go_ret
   exact ⟨by simp [badR, h4], 0, rfl⟩
  ·have h4 : ¬ 126 < r := by omega
   go_enter Tryd.func76, Tryd.ntmps76
   go_wp2
   go_ret
   exact ⟨by simp [badR, h2, h4], 0, rfl⟩
theorem contS (s : ByteArray) (w : World) : Calls Tryd.prog 75 #[.string s, .func (.func 76) #[] #[]] w fun e w' => e = .returned (.bool (decide (0 ≤ Lib.idxFunc badR true s))) ∧ Below w.heap.size w w' :=
 Any.strings_ContainsFunc Tryd.contS 76 #[] (enters_of Tryd.func76 (by kernel_rfl) rfl) badR s w (pred76 w)
set_option maxHeartbeats 1000000 in
theorem nameC (s : ByteArray) (w : World) : Calls Tryd.prog 55 #[.string s] w fun e w' => e = .returned (.bool (nameB s)) ∧ Below w.heap.size w w' := by
 have HC := zA1.mk (fun w => contS s w)
 by_cases h1 : (0 : Int) < s.size
 ·by_cases h2 : (s.size : Int) ≤ 40
  ·go_enter Tryd.func55, Tryd.ntmps55
   go_wp2_with (go_at_call 75; refine (HC.out _).mono ?_; rintro e w' ⟨rfl, hb⟩)
   go_ret
   have e : nameB s = !decide (0 ≤ Lib.idxFunc badR true s) := by unfold nameB; rw [decide_eq_true (show 0 < s.size by omega), decide_eq_true (show s.size ≤ 40 by omega)]; rfl
   exact ⟨by rw [e]; rfl, hb⟩
  ·have e : nameB s = false := by unfold nameB; rw [decide_eq_false (show ¬ s.size ≤ 40 by omega), Bool.and_false]; rfl
   go_enter Tryd.func55, Tryd.ntmps55
   go_wp2
   go_ret
   exact ⟨rfl, Below.refl _ _⟩
 ·have e : nameB s = false := by unfold nameB; rw [decide_eq_false (show ¬ 0 < s.size by omega)]; rfl
  go_enter Tryd.func55, Tryd.ntmps55
  go_wp2
  go_ret
  exact ⟨rfl, Below.refl _ _⟩
theorem any_take_succ {l : List S57} {p : S57 → Bool} {x : Nat} (h : x < l.length) : (l.take (x + 1)).any p = ((l.take x).any p || p (zA6 l (x : Int))) := by
 rw [List.take_succ_eq_append_getElem h, List.any_append]
 simp only [List.any_cons, List.any_nil, Bool.or_false]
 unfold zA6
 rw [Int.toNat_natCast, List.getD_eq_getElem?_getD, List.getElem?_eq_getElem h]
 rfl
theorem any_take_false {l : List S57} {p : S57 → Bool} {x i : Nat} (hx : x < i) (hi : i ≤ l.length) (h : p (zA6 l (x : Int)) = true) : (l.take i).any p = true := by
 rw [List.any_eq_true]
 refine ⟨zA6 l (x : Int), ?_, h⟩
 unfold zA6
 rw [Int.toNat_natCast, List.getD_eq_getElem?_getD, List.getElem?_eq_getElem (by omega)]
 rw [List.mem_iff_getElem?]
 exact ⟨x, by rw [List.getElem?_take_of_lt hx, List.getElem?_eq_getElem (by omega)]; rfl⟩
theorem rd_mem57 {l : List S57} {x : Nat} (h : x < l.length) : zA6 l (x : Int) ∈ l := by
 unfold zA6
 rw [Int.toNat_natCast, List.getD_eq_getElem?_getD, List.getElem?_eq_getElem h]
 exact List.getElem_mem h
theorem idxG (A : Option Addr) (cc i : Nat) (l : List S57) (g : Nat) (lb : Array Value) (p : S57 → Bool) (w : World) (hr : Kd.C k57 w A l.length l) (hi : i ≤ l.length) (hl : l.length < 1000000) (eg : ∀ args w, (callFunc g args).run Tryd.prog w = .ok (.enter g args) w)
  (hp : ∀ (W : World) (y : S57) (cy : List Value), y ∈ l → Below w.heap.size w W → k57.K W y cy → Calls Tryd.prog g (#[.agg cy.toArray] ++ lb) W fun e w' => e = .returned (.bool (p y)) ∧ Below W.heap.size W w') :
  Calls Tryd.prog 77 #[.slice A i cc, .func (.func g) #[] lb] w fun e w' => ∃ r : Int, e = .returned (.int .i64 r) ∧ decide (0 ≤ r) = (l.take i).any p ∧ Below w.heap.size w w' := by
 have HP := zA1.mk hp
 have HR := zA1.mk hr
 have HL := zA1.mk hl
 clear hp hr hl
 have hu57 := Tryd.underlying57
 go_enter Tryd.func77, Tryd.ntmps77
 go_wp2
 go_loopw [8] (fun v8 wr => ∃ x : Int, v8 = .int .i64 x ∧ 0 ≤ x ∧ x ≤ i ∧ zA1 ((l.take x.toNat).any p = false) ∧ zA1 (Below w.heap.size w wr)) (fun v8 _ => i - (intOf v8).toNat)
 case atStart => exact ⟨0, rfl, by omega, by omega, ⟨rfl⟩, ⟨Below.refl _ _⟩⟩
 case round =>
  obtain ⟨x, rfl, hx0, hxi, HN, HB⟩ := hrel
  have hle : (i : Int) < 1000000 := by have := HL.out; omega
  by_cases hlt : x < i
  ·obtain ⟨y, hy⟩ : ∃ y : Nat, (y : Int) = x := ⟨x.toNat, by omega⟩
   obtain ⟨ad, A1, c1, rfl, ha0, ha1, hc1, hC1⟩ := zC5 HR.out x (by omega) (by omega)
   have hb0 := (HB.out.cell (World.block_lt_of_cell? w _ ha0)).trans ha0
   have hb1 := (HB.out.cell (World.block_lt_of_cell? w _ ha1)).trans ha1
   have hmem : zA6 l x ∈ l := by rw [← hy]; exact rd_mem57 (by omega)
   have HK := zA1.mk (HP.out wr (zA6 l x) [.string (zA6 l x).f0, .slice A1 (zA6 l x).f1.length c1] hmem HB.out (k57_mk wr (zA6 l x) hc1 (Kd.zAy hC1 HB.out)))
   clear ha0 ha1 hC1 hc1 hmem
   by_cases hpy : p (zA6 l x) = true
   ·have HQ := zA1.mk (any_take_false (x := y) (i := i) (by omega) hi (by rw [hy]; exact hpy))
    rw [hpy] at HK
    clear hpy hy
    generalize (zA6 l x).f0 = s0 at hb0 HK
    generalize (zA6 l x).f1.length = n1 at hb1 HK
    go_wp2_with (go_at_fn g; refine HK.out.mono ?_; rintro e w2 ⟨rfl, hb2⟩)
    go_ret
    exact ⟨x, rfl, by rw [HQ.out]; exact decide_eq_true hx0, HB.out.trans (hb2.mono HB.out.size)⟩
   ·have HQ := zA1.mk (any_take_succ (x := y) (l := l) (p := p) (by omega))
    rw [hy] at HQ
    have hpf : p (zA6 l x) = false := by simpa using hpy
    have e1 : (x + 1).toNat = y + 1 := by omega
    have e0 : x.toNat = y := by omega
    rw [hpf] at HK
    have HN2 : zA1 ((l.take (x + 1).toNat).any p = false) := ⟨by rw [e1, HQ.out, ← e0, HN.out, hpf]; rfl⟩
    clear hpy hy HQ hpf e1 e0
    generalize (zA6 l x).f0 = s0 at hb0 HK
    generalize (zA6 l x).f1.length = n1 at hb1 HK
    go_wp2_with (go_at_fn g; refine HK.out.mono ?_; rintro e w2 ⟨rfl, hb2⟩)
    go_roundw
    case rel => exact ⟨x + 1, by go_num, by omega, by omega, HN2, ⟨HB.out.trans (hb2.mono HB.out.size)⟩⟩
    case measure => simp [intOf]; omega
  ·go_wp2
   go_ret
   have e : x.toNat = i := by omega
   exact ⟨-1, rfl, by rw [← e, HN.out]; rfl, HB.out⟩
theorem contG (A : Option Addr) (cc i : Nat) (l : List S57) (g : Nat) (lb : Array Value) (p : S57 → Bool) (w : World) (hr : Kd.C k57 w A l.length l) (hi : i ≤ l.length) (hl : l.length < 1000000) (eg : ∀ args w, (callFunc g args).run Tryd.prog w = .ok (.enter g args) w)
  (hp : ∀ (W : World) (y : S57) (cy : List Value), y ∈ l → Below w.heap.size w W → k57.K W y cy → Calls Tryd.prog g (#[.agg cy.toArray] ++ lb) W fun e w' => e = .returned (.bool (p y)) ∧ Below W.heap.size W w') :
  Calls Tryd.prog 56 #[.slice A i cc, .func (.func g) #[] lb] w fun e w' => e = .returned (.bool ((l.take i).any p)) ∧ Below w.heap.size w w' := by
 have HI := zA1.mk (idxG A cc i l g lb p w hr hi hl eg hp)
 clear hp hr
 go_enter Tryd.func56, Tryd.ntmps56
 go_wp2_with (go_at_call 77; refine HI.out.mono ?_; rintro e w2 ⟨r, rfl, hd, hb⟩)
 go_ret
 exact ⟨rfl, hb⟩
end
end Go.Proofs.YtbghfbhlbfcloaaDoor.PL
namespace Go.Proofs.YtbghfbhlbfcloaaDoor.PL
section
open Go.RowKit Go.Proofs Go.Proofs.YtbghfbhlbfcloaaDoorW.PrintWords Go.Proofs.YtbghfbhlbfcloaaDoorW.PrintLast Go.Proofs.YtbghfbhlbfcloaaDoorW.PrintMore
set_option linter.unusedVariables false
set_option linter.unusedSimpArgs false
def CG.k : Nat := 200
theorem equal_l (xs ys : List Int) (hxy : xs.length = ys.length) (hl : xs.length ≤ 150) : ∀ (k i : Nat), i ≤ xs.length → xs.length - i < k → zBe.l0 k xs ys (xs.length : Int) (i : Int) = some (decide (xs.drop i = ys.drop i))
 | 0, i, _, h => absurd h (Nat.not_lt_zero _)
 | k + 1, i, hi, h => by
  unfold zBe.l0
  by_cases hlt : i < xs.length
  ·have ih := equal_l xs ys hxy hl k (i + 1) (by omega) (by omega)
   have h2 : i < ys.length := by omega
   rw [if_pos (by omega), if_pos (by omega), if_pos (by omega), if_pos (by omega)]
   have ex : xs.drop i = (Go.Proofs.YtbghfbhlbfcloaaDoorW.PrintWords.rd xs i) :: xs.drop (i + 1) := by
    rw [List.drop_eq_getElem_cons hlt]
    unfold Go.Proofs.YtbghfbhlbfcloaaDoorW.PrintWords.rd
    rw [Int.toNat_natCast, List.getD_eq_getElem?_getD, List.getElem?_eq_getElem hlt]
    rfl
   have ey : ys.drop i = (Go.Proofs.YtbghfbhlbfcloaaDoorW.PrintWords.rd ys i) :: ys.drop (i + 1) := by
    rw [List.drop_eq_getElem_cons h2]
    unfold Go.Proofs.YtbghfbhlbfcloaaDoorW.PrintWords.rd
    rw [Int.toNat_natCast, List.getD_eq_getElem?_getD, List.getElem?_eq_getElem h2]
    rfl
   rw [ex, ey]
   by_cases he : Go.Proofs.YtbghfbhlbfcloaaDoorW.PrintWords.rd xs (i : Int) = Go.Proofs.YtbghfbhlbfcloaaDoorW.PrintWords.rd ys (i : Int)
   ·rw [if_pos he, he]
    have hw : wrap64 ((i : Int) + 1) = ((i + 1 : Nat) : Int) := by
     unfold wrap64
     omega
    rw [hw, ih]
    congr 1
    simp
   ·rw [if_neg he]
    rw [decide_eq_false (fun e => he (by injection e))]
  ·rw [if_neg (by omega)]
   have h1 : xs.drop i = [] := List.drop_eq_nil_of_le (by omega)
   have h2 : ys.drop i = [] := List.drop_eq_nil_of_le (by omega)
   rw [h1, h2]
   simp
theorem equal_f (xs ys : List Int) (hl : xs.length ≤ 150) : zBe.f CG.k xs ys = some (decide (xs = ys)) := by
 unfold zBe.f
 by_cases h : xs.length = ys.length
 ·rw [if_pos (by omega)]
  have := equal_l xs ys h hl CG.k 0 (Nat.zero_le _) (by unfold CG.k; omega)
  simpa using this
 ·rw [if_neg (by omega), decide_eq_false (fun e => h (by rw [e]))]
def CG.cross (m o : Int) : Bool := decide (Go.bits .and .u64 o m ≠ 0) && decide (Go.bits .and .u64 o m ≠ m) && decide (Go.bits .and .u64 o m ≠ o)
def CG.inn (m : Int) : List S57 → Option Bool
 | [] => some false
 | y :: r => (zAs.f CG.k y.f1).bind fun o => if CG.cross m o = true then some true else CG.inn m r
def CG.one (l : List S57) (n : Int) (i : Nat) (x : S57) : Option Int :=
 if nameB x.f0 = false then some 11 else
 if (l.take i).any (fun y => y.f0.toList == x.f0.toList) = true then some 9 else
 if (x.f1.length : Int) < 2 then some 7 else
 (zAu.f CG.k x.f1 n).bind fun e => if e ≠ 0 then some e else
 if (l.take i).any (fun y => decide (x.f1 = y.f1)) = true then some 9 else
 (zAs.f CG.k x.f1).bind fun m => (CG.inn m (l.take i)).bind fun b => if b = true then some 17 else some 0
def CG.go (l : List S57) (n : Int) : Nat → List S57 → Option Int
 | _, [] => some 0
 | i, x :: r => (CG.one l n i x).bind fun e => if e = 0 then CG.go l n (i + 1) r else some e
def CG.f (l : List S57) (n : Int) : Option Int :=
 if n < 0 ∨ 12 < n then some 2 else if 32 < (l.length : Int) then some 6 else if (l.all fun x => decide (x.f1.length ≤ 150)) = true then CG.go l n 0 l else none
theorem drop57 (l : List S57) (x : Int) (h0 : 0 ≤ x) (h1 : x < l.length) : l.drop x.toNat = zA6 l x :: l.drop (x + 1).toNat := by
 rw [show (x + 1).toNat = x.toNat + 1 by omega, List.drop_eq_getElem_cons (show x.toNat < l.length by omega)]
 unfold zA6
 rw [List.getD_eq_getElem?_getD, List.getElem?_eq_getElem (show x.toNat < l.length by omega)]
 rfl
end
end Go.Proofs.YtbghfbhlbfcloaaDoor.PL
namespace Go.Proofs.YtbghfbhlbfcloaaDoor.PL
section
open Go.RowKit Go.Proofs.YtbghfbhlbfcloaaDoorW.PrintWords Go.Proofs.YtbghfbhlbfcloaaDoorW.PrintLast Go.Proofs.YtbghfbhlbfcloaaDoorW.PrintMore
attribute [local go_sem] zBw zBu zC7 zC6 zBo zBn zBv zBt   -- for this text's walks alone
set_option linter.unusedVariables false
set_option linter.unusedSimpArgs false
def zB0.l0 : Nat → List Int → List Int → Int → Option (Bool)
 | 0, _, _, _ => none
 | k + 1, x0, x1, x5 => if x5 < (x0.length : Int) then (if 0 ≤ x5 then ((zBf.f k x1 (rd x0 x5)).bind fun t442 => (if t442 = true then (some false) else (zB0.l0 k x0 x1 (wrap64 (x5 + 1))))) else (none)) else (some true)
def zB0.f (k : Nat) (l0 : List Int) (l1 : List Int) : Option (Bool) := zB0.l0 k l0 l1 0
theorem zB0.zBq : ∀ k, (∀ y0 y1 y2, LeO (zB0.l0 k y0 y1 y2) (zB0.l0 (k + 1) y0 y1 y2))
 | 0 => fun _ _ _ r h => by simp [zB0.l0] at h
 | k + 1 => by
  have ih0 := zB0.zBq k
  ·intro y0 y1 y2
   unfold zB0.l0
   repeat' first
   | (with_reducible exact ih0 _ _ _)
   | (with_reducible exact zBf.mono _ _ _)
   | (with_reducible exact LeO.refl _)
   | (with_reducible exact LeO.none _)
   | (with_reducible refine LeO.ite ?_ ?_)
   | (with_reducible refine LeO.bind ?_ (fun _ => ?_))
theorem zB0.mono : ∀ a0 a1 k, LeO (zB0.f k a0 a1) (zB0.f (k + 1) a0 a1) := by
 intro a0 a1 k
 have ih0 := zB0.zBq k
 unfold zB0.f
 repeat' first
   | (with_reducible exact ih0 _ _ _)
   | (with_reducible exact zBf.mono _ _ _)
   | (with_reducible exact LeO.refl _)
   | (with_reducible exact LeO.none _)
   | (with_reducible refine LeO.ite ?_ ?_)
   | (with_reducible refine LeO.bind ?_ (fun _ => ?_))
set_option maxHeartbeats 8000000 in
set_option maxRecDepth 100000 in
theorem zB0.calls (k : Nat) (A0 : Option Addr) (c0 : Nat) (l0 : List Int) (A1 : Option Addr) (c1 : Nat) (l1 : List Int) (r : Bool) (w : World) (hr0 : Kd.C (Kd.int .i64) w A0 l0.length l0) (hc0 : l0.length ≤ c0) (hr1 : Kd.C (Kd.int .i64) w A1 l1.length l1) (hc1 : l1.length ≤ c1) (h : zB0.f k l0 l1 = some r) :
  Calls Tryd.prog 50 #[.slice A0 l0.length c0, .slice A1 l1.length c1] w fun e w' => e = .returned (.bool r) ∧ zAr w w' := by
 have HR0 := zA1.mk hr0
 have HC0 := zA1.mk hc0
 clear hr0 hc0
 have HR1 := zA1.mk hr1
 have HC1 := zA1.mk hc1
 clear hr1 hc1
 have H : (zB0.l0 k l0 l1 0) = some r := h
 clear h
 have H' := zA1.mk H
 clear H
 go_enter Tryd.func50, Tryd.ntmps50
 go_wp2
 go_loopg [5] k (fun kq v5 w' => ∃ (x5_1 : Int), v5 = .int .i64 x5_1 ∧ zA1 (zB0.l0 kq l0 l1 x5_1 = some r) ∧ zA1 (kq ≤ k) ∧ zAr w w')
 case atStart => exact ⟨(0), (by first | rfl | (simp; done) | (simp [*]; done)), H', ⟨Nat.le_refl _⟩, by repeat (first | exact zAr.refl _ | apply zAr.step)⟩
 case round =>
  clear H'
  try clear c1
  try clear p2
  obtain ⟨x5_1, rfl, HA, HK1, ⟨m1, rfl⟩⟩ := hrel
  cases gk with
  | zero => exact absurd HA.out (by simp [zB0.l0])
  | succ k1 =>
   have H := HA.out
   clear HA
   simp only [zB0.l0] at H
   by_cases c3 : x5_1 < (l0.length : Int)
   ·rw [if_pos c3] at H
    have c3b0 : decide (x5_1 < (l0.length : Int)) = true := decide_eq_true c3
    clear c3
    by_cases c4 : 0 ≤ x5_1
    rotate_left
    ·rw [if_neg c4] at H
     exact absurd H (by simp)
    rw [if_pos c4] at H
    have c4b0 : decide (0 ≤ x5_1) = true := decide_eq_true c4
    clear c4
    replace H := Option.bind_eq_some_iff.mp H
    obtain ⟨t442, A50, H⟩ := H
    replace H : (if t442 = true then (some false) else (zB0.l0 k1 l0 l1 (wrap64 (x5_1 + 1)))) = some r := H
    have A5 := zA1.mk A50
    clear A50
    by_cases c6 : t442 = true
    ·subst c6
     have H1 : (some false) = some r := by rw [if_pos rfl] at H; exact H
     clear H
     have H := H1
     clear H1
     obtain rfl := Option.some.inj H
     have p441 : 0 ≤ (x5_1 : Int) := of_decide_eq_true (by first | (with_reducible assumption) | assumption)
     have q441 : x5_1 < (l0.length : Int) := of_decide_eq_true (by first | (with_reducible assumption) | assumption)
     obtain ⟨ad441, e441, hx441_0⟩ := Kd.at_int HR0.out x5_1 p441 q441
     cases e441
     replace p441 := eq_true p441
     replace q441 := eq_true q441
     go_wp2_with (first | ((with_reducible refine zB1 (f := 20) rfl ?_); refine zC2 (some 17) rfl rfl Tryd.func20 (by kernel_rfl) rfl #[.slice A1 l1.length c1, .int .i64 (rd l0 x5_1)] rfl (by (try simp only [List.map_toArray, List.map_cons, List.map_nil]); first | done | rfl | (simp only [List.length_drop, List.length_take]; rfl)) ?_; (with_reducible refine (zBf.calls k1 _ _ l1 (rd l0 x5_1) true _ ?side1 ?side2 A5.out).mono ?_); (case side1 => repeat (first | exact HR1.out | (with_reducible refine Kd.zA8 ?_ _) | (with_reducible refine Kd.zAd ?_ _) | (with_reducible refine Kd.zAp ?_))); (case side2 => exact HC1.out); rintro e w' ⟨rfl, ⟨nd, rfl⟩⟩; refine ⟨_, rfl, ?_⟩))
     go_ret
     exact ⟨by first | rfl | (simp; done) | (simp [*]; done), by repeat (first | exact zAr.refl _ | apply zAr.step)⟩
    ·replace c6 := Bool.eq_false_iff.mpr c6
     subst c6
     have H1 : (zB0.l0 k1 l0 l1 (wrap64 (x5_1 + 1))) = some r := by rw [if_neg (show ¬ (false = true) by decide)] at H; exact H
     clear H
     have H := H1
     clear H1
     have H' := zA1.mk H
     clear H
     have p441 : 0 ≤ (x5_1 : Int) := of_decide_eq_true (by first | (with_reducible assumption) | assumption)
     have q441 : x5_1 < (l0.length : Int) := of_decide_eq_true (by first | (with_reducible assumption) | assumption)
     obtain ⟨ad441, e441, hx441_0⟩ := Kd.at_int HR0.out x5_1 p441 q441
     cases e441
     replace p441 := eq_true p441
     replace q441 := eq_true q441
     go_wp2_with (first | ((with_reducible refine zB1 (f := 20) rfl ?_); refine zC2 (some 17) rfl rfl Tryd.func20 (by kernel_rfl) rfl #[.slice A1 l1.length c1, .int .i64 (rd l0 x5_1)] rfl (by (try simp only [List.map_toArray, List.map_cons, List.map_nil]); first | done | rfl | (simp only [List.length_drop, List.length_take]; rfl)) ?_; (with_reducible refine (zBf.calls k1 _ _ l1 (rd l0 x5_1) false _ ?side1 ?side2 A5.out).mono ?_); (case side1 => repeat (first | exact HR1.out | (with_reducible refine Kd.zA8 ?_ _) | (with_reducible refine Kd.zAd ?_ _) | (with_reducible refine Kd.zAp ?_))); (case side2 => exact HC1.out); rintro e w' ⟨rfl, ⟨nd, rfl⟩⟩; refine ⟨_, rfl, ?_⟩))
     go_roundg k1
     case measure => have := HK1.out; omega
     case rel => exact ⟨(wrap64 (x5_1 + 1)), (by first | rfl | (simp; done) | (simp [*]; done)), H', ⟨by have := HK1.out; omega⟩, by repeat (first | exact zAr.refl _ | apply zAr.step)⟩
   ·rw [if_neg c3] at H
    have c3b0 : decide (x5_1 < (l0.length : Int)) = false := decide_eq_false c3
    clear c3
    obtain rfl := Option.some.inj H
    go_wp2
    go_ret
    exact ⟨by first | rfl | (simp; done) | (simp [*]; done), by repeat (first | exact zAr.refl _ | apply zAr.step)⟩
end
end Go.Proofs.YtbghfbhlbfcloaaDoor.PL
namespace Go.Proofs.YtbghfbhlbfcloaaDoor.PL
section
open Go.RowKit Go.Proofs.YtbghfbhlbfcloaaDoorW.PrintWords Go.Proofs.YtbghfbhlbfcloaaDoorW.PrintLast Go.Proofs.YtbghfbhlbfcloaaDoorW.PrintMore
attribute [local go_sem] zBw zBu zC7 zC6 zBo zBn zBv zBt   -- for this text's walks alone
set_option linter.unusedVariables false
set_option linter.unusedSimpArgs false
mutual
def zAi.l0 : Nat → List Int → Int → Int → Option (Int)
 | 0, _, _, _ => none
 | k + 1, x0, x1, x5 => if x5 < (x0.length : Int) then (if 0 ≤ x5 then (if (rd x0 x5) < 0 then (zAi.j1 k x0 x1 x5 true) else (zAi.j1 k x0 x1 x5 (decide ((rd x0 x5) ≥ x1)))) else (none)) else (some 0)
def zAi.j1 : Nat → List Int → Int → Int → Bool → Option (Int)
 | 0, _, _, _, _ => none
 | k + 1, x0, x1, x5, x27 => if x27 = true then (some 2) else (if x5 > 0 then (if 0 ≤ x5 then (if x5 < (x0.length : Int) then (if 0 ≤ (wrap64 (x5 - 1)) then (if (wrap64 (x5 - 1)) < (x0.length : Int) then (if (rd x0 x5) ≤ (rd x0 (wrap64 (x5 - 1))) then (some 8) else (zAi.l0 k x0 x1 (wrap64 (x5 + 1)))) else (none)) else (none)) else (none)) else (none)) else (zAi.l0 k x0 x1 (wrap64 (x5 + 1))))
end
def zAi.f (k : Nat) (l0 : List Int) (a1 : Int) : Option (Int) := if (l0.length : Int) = 0 then (some 7) else (zAi.l0 k l0 a1 0)
theorem zAi.zBq : ∀ k, (∀ y0 y1 y2, LeO (zAi.l0 k y0 y1 y2) (zAi.l0 (k + 1) y0 y1 y2)) ∧ (∀ y0 y1 y2 y3, LeO (zAi.j1 k y0 y1 y2 y3) (zAi.j1 (k + 1) y0 y1 y2 y3))
 | 0 => ⟨fun _ _ _ r h => by simp [zAi.l0] at h, fun _ _ _ _ r h => by simp [zAi.j1] at h⟩
 | k + 1 => by
  obtain ⟨ih0, ih1⟩ := zAi.zBq k
  refine ⟨?_, ?_⟩
  ·intro y0 y1 y2
   unfold zAi.l0
   repeat' first
   | (with_reducible exact ih0 _ _ _)
   | (with_reducible exact ih1 _ _ _ _)
   | (with_reducible exact LeO.refl _)
   | (with_reducible exact LeO.none _)
   | (with_reducible refine LeO.ite ?_ ?_)
   | (with_reducible refine LeO.bind ?_ (fun _ => ?_))
  ·intro y0 y1 y2 y3
   unfold zAi.j1
   repeat' first
   | (with_reducible exact ih0 _ _ _)
   | (with_reducible exact ih1 _ _ _ _)
   | (with_reducible exact LeO.refl _)
   | (with_reducible exact LeO.none _)
   | (with_reducible refine LeO.ite ?_ ?_)
   | (with_reducible refine LeO.bind ?_ (fun _ => ?_))
theorem zAi.mono : ∀ a0 a1 k, LeO (zAi.f k a0 a1) (zAi.f (k + 1) a0 a1) := by
 intro a0 a1 k
 obtain ⟨ih0, ih1⟩ := zAi.zBq k
 unfold zAi.f
 repeat' first
   | (with_reducible exact ih0 _ _ _)
   | (with_reducible exact ih1 _ _ _ _)
   | (with_reducible exact LeO.refl _)
   | (with_reducible exact LeO.none _)
   | (with_reducible refine LeO.ite ?_ ?_)
   | (with_reducible refine LeO.bind ?_ (fun _ => ?_))
set_option maxHeartbeats 8000000 in
set_option maxRecDepth 100000 in
theorem zAi.calls (k : Nat) (A0 : Option Addr) (c0 : Nat) (l0 : List Int) (a1 : Int) (r : Int) (w : World) (hr0 : Kd.C (Kd.int .i64) w A0 l0.length l0) (hc0 : l0.length ≤ c0) (h : zAi.f k l0 a1 = some r) :
  Calls Tryd.prog 49 #[.slice A0 l0.length c0, .int .i64 a1] w fun e w' => e = .returned (.int .i64 r) ∧ zAr w w' := by
 have HR0 := zA1.mk hr0
 have HC0 := zA1.mk hc0
 clear hr0 hc0
 have H : (if (l0.length : Int) = 0 then (some 7) else (zAi.l0 k l0 a1 0)) = some r := h
 clear h
 by_cases c3 : (l0.length : Int) = 0
 ·rw [if_pos c3] at H
  have c3b0 : ((l0.length : Int) == 0) = true := beq_iff_eq.mpr c3
  have c3b1 : ((l0.length : Int) != 0) = false := bne_eq_false_iff_eq.mpr c3
  clear c3
  obtain rfl := Option.some.inj H
  go_enter Tryd.func49, Tryd.ntmps49
  go_wp2
  repeat (go_quiet (fail); try go_wp2)
  go_ret
  exact ⟨by first | rfl | (simp; done) | (simp [*]; done), by repeat (first | exact zAr.refl _ | apply zAr.step)⟩
 ·rw [if_neg c3] at H
  have c3b0 : ((l0.length : Int) == 0) = false := beq_eq_false_iff_ne.mpr c3
  have c3b1 : ((l0.length : Int) != 0) = true := bne_iff_ne.mpr c3
  have c3b2 : ¬ (l0 = []) := fun h_ => c3 (by rw [h_]; rfl)
  have H' := zA1.mk H
  clear H
  go_enter Tryd.func49, Tryd.ntmps49
  go_wp2
  repeat (go_quiet (fail); try go_wp2)
  go_loopg [5] k (fun kq v5 w' => ∃ (x5_1 : Int), v5 = .int .i64 x5_1 ∧ zA1 (zAi.l0 kq l0 a1 x5_1 = some r) ∧ zA1 (kq ≤ k) ∧ zAr w w')
  case atStart => exact ⟨(0), (by first | rfl | (simp; done) | (simp [*]; done)), H', ⟨Nat.le_refl _⟩, by repeat (first | exact zAr.refl _ | apply zAr.step)⟩
  case round =>
   clear H'
   try clear p2
   try clear c3
   try clear c3b0
   try clear c3b1
   try clear c3b2
   obtain ⟨x5_1, rfl, HA, HK1, ⟨m1, rfl⟩⟩ := hrel
   cases gk with
   | zero => exact absurd HA.out (by simp [zAi.l0])
   | succ k1 =>
    have H := HA.out
    clear HA
    simp only [zAi.l0] at H
    by_cases c4 : x5_1 < (l0.length : Int)
    ·rw [if_pos c4] at H
     have c4b0 : decide (x5_1 < (l0.length : Int)) = true := decide_eq_true c4
     clear c4
     have HC5 := zA1.mk H
     clear H
     go_upto_region 6 with (fail)
     repeat (go_quiet (fail); go_upto_region 6 with (fail))
     go_cut [27] (fun v27 wc => ∃ (kq : Nat) (x27_4 : Bool), v27 = .bool x27_4 ∧ zA1 (zAi.j1 kq l0 a1 x5_1 x27_4 = some r) ∧ zA1 (kq ≤ k1) ∧ zAr w wc)
     case first =>
      have H := HC5.out
      clear HC5
      by_cases c6 : 0 ≤ x5_1
      rotate_left
      ·rw [if_neg c6] at H
       exact absurd H (by simp)
      rw [if_pos c6] at H
      have c6b0 : decide (0 ≤ x5_1) = true := decide_eq_true c6
      clear c6
      (first | rw [c6b0] | (simp only [i64_w, i32_w]; rw [c6b0]) | skip)
      by_cases c7 : (rd l0 x5_1) < 0
      ·rw [if_pos c7] at H
       have c7b0 : decide ((rd l0 x5_1) < 0) = true := decide_eq_true c7
       clear c7
       have H' := zA1.mk H
       clear H
       have p437 : 0 ≤ (x5_1 : Int) := of_decide_eq_true (by first | (with_reducible assumption) | assumption)
       have q437 : x5_1 < (l0.length : Int) := of_decide_eq_true (by first | (with_reducible assumption) | assumption)
       obtain ⟨ad437, e437, hx437_0⟩ := Kd.at_int HR0.out x5_1 p437 q437
       cases e437
       replace p437 := eq_true p437
       replace q437 := eq_true q437
       go_wp2
       repeat (go_quiet (fail); try go_wp2)
       go_meet
       case rel => exact ⟨_, (true), (by first | rfl | (simp; done) | (simp [*]; done)), H', ⟨by have := HK1.out; first | omega | exact Nat.le_refl _⟩, by repeat (first | exact zAr.refl _ | apply zAr.step)⟩
      ·rw [if_neg c7] at H
       have c7b0 : decide ((rd l0 x5_1) < 0) = false := decide_eq_false c7
       clear c7
       have H' := zA1.mk H
       clear H
       have p437 : 0 ≤ (x5_1 : Int) := of_decide_eq_true (by first | (with_reducible assumption) | assumption)
       have q437 : x5_1 < (l0.length : Int) := of_decide_eq_true (by first | (with_reducible assumption) | assumption)
       obtain ⟨ad437, e437, hx437_0⟩ := Kd.at_int HR0.out x5_1 p437 q437
       cases e437
       replace p437 := eq_true p437
       replace q437 := eq_true q437
       have p438 : 0 ≤ (x5_1 : Int) := of_decide_eq_true (by first | (with_reducible assumption) | assumption)
       have q438 : x5_1 < (l0.length : Int) := of_decide_eq_true (by first | (with_reducible assumption) | assumption)
       obtain ⟨ad438, e438, hx438_0⟩ := Kd.at_int HR0.out x5_1 p438 q438
       obtain rfl : ad437 = ad438 := (by injection e438)
       replace p438 := eq_true p438
       replace q438 := eq_true q438
       go_wp2
       repeat (go_quiet (fail); try go_wp2)
       go_meet
       case rel => exact ⟨_, (decide ((rd l0 x5_1) ≥ a1)), (by first | rfl | (simp; done) | (simp [*]; done)), H', ⟨by have := HK1.out; first | omega | exact Nat.le_refl _⟩, by repeat (first | exact zAr.refl _ | apply zAr.step)⟩
     case rest =>
      clear HC5
      try clear p2
      try clear c3
      try clear c3b0
      try clear c3b1
      try clear c3b2
      try clear c4
      try clear c4b0
      try clear p4
      try clear q4
      try clear hx4
      try clear c6
      try clear c6b0
      try clear c7
      try clear c7b0
      try clear hx437_0
      try clear hx438_0
      try clear p2
      try clear p437
      try clear p438
      try clear q437
      try clear q438
      obtain ⟨kq, x27_4, rfl, HA, HJ4, ⟨mc4, rfl⟩⟩ := hcut
      cases kq with
      | zero => exact absurd HA.out (by simp [zAi.j1])
      | succ kj4 =>
       have H := HA.out
       clear HA
       simp only [zAi.j1] at H
       by_cases c8 : x27_4 = true
       ·subst c8
        have H1 : (some 2) = some r := by rw [if_pos rfl] at H; exact H
        clear H
        have H := H1
        clear H1
        obtain rfl := Option.some.inj H
        go_wp2
        repeat (go_quiet (fail); try go_wp2)
        go_ret
        exact ⟨by first | rfl | (simp; done) | (simp [*]; done), by repeat (first | exact zAr.refl _ | apply zAr.step)⟩
       ·replace c8 := Bool.eq_false_iff.mpr c8
        subst c8
        have H1 : (if x5_1 > 0 then (if 0 ≤ x5_1 then (if x5_1 < (l0.length : Int) then (if 0 ≤ (wrap64 (x5_1 - 1)) then (if (wrap64 (x5_1 - 1)) < (l0.length : Int) then (if (rd l0 x5_1) ≤ (rd l0 (wrap64 (x5_1 - 1))) then (some 8) else (zAi.l0 kj4 l0 a1 (wrap64 (x5_1 + 1)))) else (none)) else (none)) else (none)) else (none)) else (zAi.l0 kj4 l0 a1 (wrap64 (x5_1 + 1)))) = some r := by rw [if_neg (show ¬ (false = true) by decide)] at H; exact H
        clear H
        have H := H1
        clear H1
        by_cases c9 : x5_1 > 0
        ·rw [if_pos c9] at H
         have c9b0 : decide (0 < x5_1) = true := decide_eq_true c9
         clear c9
         by_cases c10 : 0 ≤ x5_1
         rotate_left
         ·rw [if_neg c10] at H
          exact absurd H (by simp)
         rw [if_pos c10] at H
         have c10b0 : decide (0 ≤ x5_1) = true := decide_eq_true c10
         clear c10
         by_cases c11 : x5_1 < (l0.length : Int)
         rotate_left
         ·rw [if_neg c11] at H
          exact absurd H (by simp)
         rw [if_pos c11] at H
         have c11b0 : decide (x5_1 < (l0.length : Int)) = true := decide_eq_true c11
         clear c11
         obtain ⟨ji12, hji12⟩ : ∃ j_ : Int, (wrap64 (x5_1 - 1)) = j_ := ⟨_, rfl⟩
         replace H : (if 0 ≤ (ji12) then (if (ji12) < (l0.length : Int) then (if (rd l0 x5_1) ≤ (rd l0 (ji12)) then (some 8) else (zAi.l0 kj4 l0 a1 (wrap64 (x5_1 + 1)))) else (none)) else (none)) = some r := by first | (rw [hji12] at H; exact H) | (simp only [hji12] at H ⊢; exact H)
         have hji12w : (IntKind.i64.wrap (x5_1 - 1)) = ji12 := (i64_w _).trans hji12
         by_cases c13 : 0 ≤ (ji12)
         rotate_left
         ·rw [if_neg c13] at H
          exact absurd H (by simp)
         rw [if_pos c13] at H
         have c13b0 : decide (0 ≤ (ji12)) = true := decide_eq_true c13
         clear c13
         by_cases c14 : (ji12) < (l0.length : Int)
         rotate_left
         ·rw [if_neg c14] at H
          exact absurd H (by simp)
         rw [if_pos c14] at H
         have c14b0 : decide ((ji12) < (l0.length : Int)) = true := decide_eq_true c14
         clear c14
         by_cases c15 : (rd l0 x5_1) ≤ (rd l0 (ji12))
         ·rw [if_pos c15] at H
          have c15b0 : decide ((rd l0 x5_1) ≤ (rd l0 (ji12))) = true := decide_eq_true c15
          clear c15
          obtain rfl := Option.some.inj H
          have p439 : 0 ≤ (x5_1 : Int) := of_decide_eq_true (by first | (with_reducible assumption) | assumption)
          have q439 : x5_1 < (l0.length : Int) := of_decide_eq_true (by first | (with_reducible assumption) | assumption)
          obtain ⟨ad439, e439, hx439_0⟩ := Kd.at_int HR0.out x5_1 p439 q439
          cases e439
          replace p439 := eq_true p439
          replace q439 := eq_true q439
          have p440 : 0 ≤ ((ji12) : Int) := of_decide_eq_true (by first | (with_reducible assumption) | assumption)
          have q440 : (ji12) < (l0.length : Int) := of_decide_eq_true (by first | (with_reducible assumption) | assumption)
          obtain ⟨ad440, e440, hx440_0⟩ := Kd.at_int HR0.out (ji12) p440 q440
          obtain rfl : ad439 = ad440 := (by injection e440)
          replace p440 := eq_true p440
          replace q440 := eq_true q440
          go_wp2
          repeat (go_quiet (fail); try go_wp2)
          go_ret
          exact ⟨by first | rfl | (simp; done) | (simp only [← hji12] <;> (first | rfl | simp)) | (simp [*]; done), by repeat (first | exact zAr.refl _ | apply zAr.step)⟩
         ·rw [if_neg c15] at H
          have c15b0 : decide ((rd l0 x5_1) ≤ (rd l0 (ji12))) = false := decide_eq_false c15
          clear c15
          have H' := zA1.mk H
          clear H
          have p439 : 0 ≤ (x5_1 : Int) := of_decide_eq_true (by first | (with_reducible assumption) | assumption)
          have q439 : x5_1 < (l0.length : Int) := of_decide_eq_true (by first | (with_reducible assumption) | assumption)
          obtain ⟨ad439, e439, hx439_0⟩ := Kd.at_int HR0.out x5_1 p439 q439
          cases e439
          replace p439 := eq_true p439
          replace q439 := eq_true q439
          have p440 : 0 ≤ ((ji12) : Int) := of_decide_eq_true (by first | (with_reducible assumption) | assumption)
          have q440 : (ji12) < (l0.length : Int) := of_decide_eq_true (by first | (with_reducible assumption) | assumption)
          obtain ⟨ad440, e440, hx440_0⟩ := Kd.at_int HR0.out (ji12) p440 q440
          obtain rfl : ad439 = ad440 := (by injection e440)
          replace p440 := eq_true p440
          replace q440 := eq_true q440
          go_wp2
          repeat (go_quiet (fail); try go_wp2)
          go_roundg kj4
          case measure => have := HK1.out; have := HJ4.out; omega
          case rel => exact ⟨(wrap64 (x5_1 + 1)), (by first | rfl | (simp; done) | (simp [*]; done)), H', ⟨by have := HK1.out; have := HJ4.out; omega⟩, by repeat (first | exact zAr.refl _ | apply zAr.step)⟩
        ·rw [if_neg c9] at H
         have c9b0 : decide (0 < x5_1) = false := decide_eq_false c9
         clear c9
         have H' := zA1.mk H
         clear H
         go_wp2
         repeat (go_quiet (fail); try go_wp2)
         go_roundg kj4
         case measure => have := HK1.out; have := HJ4.out; omega
         case rel => exact ⟨(wrap64 (x5_1 + 1)), (by first | rfl | (simp; done) | (simp [*]; done)), H', ⟨by have := HK1.out; have := HJ4.out; omega⟩, by repeat (first | exact zAr.refl _ | apply zAr.step)⟩
    ·rw [if_neg c4] at H
     have c4b0 : decide (x5_1 < (l0.length : Int)) = false := decide_eq_false c4
     clear c4
     obtain rfl := Option.some.inj H
     go_wp2
     repeat (go_quiet (fail); try go_wp2)
     go_ret
     exact ⟨by first | rfl | (simp; done) | (simp [*]; done), by repeat (first | exact zAr.refl _ | apply zAr.step)⟩
end
end Go.Proofs.YtbghfbhlbfcloaaDoor.PL
namespace Go.Proofs.YtbghfbhlbfcloaaDoor.PL
section
open Go.RowKit Go.Proofs.YtbghfbhlbfcloaaDoorW.PrintWords Go.Proofs.YtbghfbhlbfcloaaDoorW.PrintLast Go.Proofs.YtbghfbhlbfcloaaDoorW.PrintMore
attribute [local go_sem] zBw zBu zC7 zC6 zBo zBn zBv zBt   -- for this text's walks alone
set_option linter.unusedVariables false
set_option linter.unusedSimpArgs false
def zAe.l0 : Nat → List Int → List Int → Int → Option (Bool)
 | 0, _, _, _ => none
 | k + 1, x0, x1, x5 => if x5 < (x0.length : Int) then (if 0 ≤ x5 then ((zBf.f k x1 (rd x0 x5)).bind fun t444 => (if t444 = true then (zAe.l0 k x0 x1 (wrap64 (x5 + 1))) else (some false))) else (none)) else (some true)
def zAe.f (k : Nat) (l0 : List Int) (l1 : List Int) : Option (Bool) := zAe.l0 k l0 l1 0
theorem zAe.zBq : ∀ k, (∀ y0 y1 y2, LeO (zAe.l0 k y0 y1 y2) (zAe.l0 (k + 1) y0 y1 y2))
 | 0 => fun _ _ _ r h => by simp [zAe.l0] at h
 | k + 1 => by
  have ih0 := zAe.zBq k
  ·intro y0 y1 y2
   unfold zAe.l0
   repeat' first
   | (with_reducible exact ih0 _ _ _)
   | (with_reducible exact zBf.mono _ _ _)
   | (with_reducible exact LeO.refl _)
   | (with_reducible exact LeO.none _)
   | (with_reducible refine LeO.ite ?_ ?_)
   | (with_reducible refine LeO.bind ?_ (fun _ => ?_))
theorem zAe.mono : ∀ a0 a1 k, LeO (zAe.f k a0 a1) (zAe.f (k + 1) a0 a1) := by
 intro a0 a1 k
 have ih0 := zAe.zBq k
 unfold zAe.f
 repeat' first
   | (with_reducible exact ih0 _ _ _)
   | (with_reducible exact zBf.mono _ _ _)
   | (with_reducible exact LeO.refl _)
   | (with_reducible exact LeO.none _)
   | (with_reducible refine LeO.ite ?_ ?_)
   | (with_reducible refine LeO.bind ?_ (fun _ => ?_))
set_option maxHeartbeats 8000000 in
set_option maxRecDepth 100000 in
theorem zAe.calls (k : Nat) (A0 : Option Addr) (c0 : Nat) (l0 : List Int) (A1 : Option Addr) (c1 : Nat) (l1 : List Int) (r : Bool) (w : World) (hr0 : Kd.C (Kd.int .i64) w A0 l0.length l0) (hc0 : l0.length ≤ c0) (hr1 : Kd.C (Kd.int .i64) w A1 l1.length l1) (hc1 : l1.length ≤ c1) (h : zAe.f k l0 l1 = some r) :
  Calls Tryd.prog 51 #[.slice A0 l0.length c0, .slice A1 l1.length c1] w fun e w' => e = .returned (.bool r) ∧ zAr w w' := by
 have HR0 := zA1.mk hr0
 have HC0 := zA1.mk hc0
 clear hr0 hc0
 have HR1 := zA1.mk hr1
 have HC1 := zA1.mk hc1
 clear hr1 hc1
 have H : (zAe.l0 k l0 l1 0) = some r := h
 clear h
 have H' := zA1.mk H
 clear H
 go_enter Tryd.func51, Tryd.ntmps51
 go_wp2
 go_loopg [5] k (fun kq v5 w' => ∃ (x5_1 : Int), v5 = .int .i64 x5_1 ∧ zA1 (zAe.l0 kq l0 l1 x5_1 = some r) ∧ zA1 (kq ≤ k) ∧ zAr w w')
 case atStart => exact ⟨(0), (by first | rfl | (simp; done) | (simp [*]; done)), H', ⟨Nat.le_refl _⟩, by repeat (first | exact zAr.refl _ | apply zAr.step)⟩
 case round =>
  clear H'
  try clear c1
  try clear p2
  obtain ⟨x5_1, rfl, HA, HK1, ⟨m1, rfl⟩⟩ := hrel
  cases gk with
  | zero => exact absurd HA.out (by simp [zAe.l0])
  | succ k1 =>
   have H := HA.out
   clear HA
   simp only [zAe.l0] at H
   by_cases c3 : x5_1 < (l0.length : Int)
   ·rw [if_pos c3] at H
    have c3b0 : decide (x5_1 < (l0.length : Int)) = true := decide_eq_true c3
    clear c3
    by_cases c4 : 0 ≤ x5_1
    rotate_left
    ·rw [if_neg c4] at H
     exact absurd H (by simp)
    rw [if_pos c4] at H
    have c4b0 : decide (0 ≤ x5_1) = true := decide_eq_true c4
    clear c4
    replace H := Option.bind_eq_some_iff.mp H
    obtain ⟨t444, A50, H⟩ := H
    replace H : (if t444 = true then (zAe.l0 k1 l0 l1 (wrap64 (x5_1 + 1))) else (some false)) = some r := H
    have A5 := zA1.mk A50
    clear A50
    by_cases c6 : t444 = true
    ·subst c6
     have H1 : (zAe.l0 k1 l0 l1 (wrap64 (x5_1 + 1))) = some r := by rw [if_pos rfl] at H; exact H
     clear H
     have H := H1
     clear H1
     have H' := zA1.mk H
     clear H
     have p443 : 0 ≤ (x5_1 : Int) := of_decide_eq_true (by first | (with_reducible assumption) | assumption)
     have q443 : x5_1 < (l0.length : Int) := of_decide_eq_true (by first | (with_reducible assumption) | assumption)
     obtain ⟨ad443, e443, hx443_0⟩ := Kd.at_int HR0.out x5_1 p443 q443
     cases e443
     replace p443 := eq_true p443
     replace q443 := eq_true q443
     go_wp2_with (first | ((with_reducible refine zB1 (f := 20) rfl ?_); refine zC2 (some 17) rfl rfl Tryd.func20 (by kernel_rfl) rfl #[.slice A1 l1.length c1, .int .i64 (rd l0 x5_1)] rfl (by (try simp only [List.map_toArray, List.map_cons, List.map_nil]); first | done | rfl | (simp only [List.length_drop, List.length_take]; rfl)) ?_; (with_reducible refine (zBf.calls k1 _ _ l1 (rd l0 x5_1) true _ ?side1 ?side2 A5.out).mono ?_); (case side1 => repeat (first | exact HR1.out | (with_reducible refine Kd.zA8 ?_ _) | (with_reducible refine Kd.zAd ?_ _) | (with_reducible refine Kd.zAp ?_))); (case side2 => exact HC1.out); rintro e w' ⟨rfl, ⟨nd, rfl⟩⟩; refine ⟨_, rfl, ?_⟩))
     go_roundg k1
     case measure => have := HK1.out; omega
     case rel => exact ⟨(wrap64 (x5_1 + 1)), (by first | rfl | (simp; done) | (simp [*]; done)), H', ⟨by have := HK1.out; omega⟩, by repeat (first | exact zAr.refl _ | apply zAr.step)⟩
    ·replace c6 := Bool.eq_false_iff.mpr c6
     subst c6
     have H1 : (some false) = some r := by rw [if_neg (show ¬ (false = true) by decide)] at H; exact H
     clear H
     have H := H1
     clear H1
     obtain rfl := Option.some.inj H
     have p443 : 0 ≤ (x5_1 : Int) := of_decide_eq_true (by first | (with_reducible assumption) | assumption)
     have q443 : x5_1 < (l0.length : Int) := of_decide_eq_true (by first | (with_reducible assumption) | assumption)
     obtain ⟨ad443, e443, hx443_0⟩ := Kd.at_int HR0.out x5_1 p443 q443
     cases e443
     replace p443 := eq_true p443
     replace q443 := eq_true q443
     go_wp2_with (first | ((with_reducible refine zB1 (f := 20) rfl ?_); refine zC2 (some 17) rfl rfl Tryd.func20 (by kernel_rfl) rfl #[.slice A1 l1.length c1, .int .i64 (rd l0 x5_1)] rfl (by (try simp only [List.map_toArray, List.map_cons, List.map_nil]); first | done | rfl | (simp only [List.length_drop, List.length_take]; rfl)) ?_; (with_reducible refine (zBf.calls k1 _ _ l1 (rd l0 x5_1) false _ ?side1 ?side2 A5.out).mono ?_); (case side1 => repeat (first | exact HR1.out | (with_reducible refine Kd.zA8 ?_ _) | (with_reducible refine Kd.zAd ?_ _) | (with_reducible refine Kd.zAp ?_))); (case side2 => exact HC1.out); rintro e w' ⟨rfl, ⟨nd, rfl⟩⟩; refine ⟨_, rfl, ?_⟩))
     go_ret
     exact ⟨by first | rfl | (simp; done) | (simp [*]; done), by repeat (first | exact zAr.refl _ | apply zAr.step)⟩
   ·rw [if_neg c3] at H
    have c3b0 : decide (x5_1 < (l0.length : Int)) = false := decide_eq_false c3
    clear c3
    obtain rfl := Option.some.inj H
    go_wp2
    go_ret
    exact ⟨by first | rfl | (simp; done) | (simp [*]; done), by repeat (first | exact zAr.refl _ | apply zAr.step)⟩
end
end Go.Proofs.YtbghfbhlbfcloaaDoor.PL
namespace Go.Proofs.YtbghfbhlbfcloaaDoor.PL
section
open Go.RowKit Go.Proofs.YtbghfbhlbfcloaaDoorW.PrintWords Go.Proofs.YtbghfbhlbfcloaaDoorW.PrintLast Go.Proofs.YtbghfbhlbfcloaaDoorW.PrintMore
attribute [local go_sem] zBw zBu zC7 zC6 zBo zBn zBv zBt   -- for this text's walks alone
set_option linter.unusedVariables false
set_option linter.unusedSimpArgs false
def zBg.l0 : Nat → ByteArray → Int → Option (Bool)
 | 0, _, _ => none
 | k + 1, x0, x3 => if x3 < (x0.size : Int) then (if 0 ≤ x3 then (if (bt x0 x3) < 33 then (some false) else (if (bt x0 x3) > 126 then (some false) else (zBg.l0 k x0 (wrap64 (x3 + 1))))) else (none)) else (if (x0.size : Int) ≥ 1 then (some (decide ((x0.size : Int) ≤ 40))) else (some false))
def zBg.f (k : Nat) (a0 : ByteArray) : Option (Bool) := zBg.l0 k a0 0
theorem zBg.zBq : ∀ k, (∀ y0 y1, LeO (zBg.l0 k y0 y1) (zBg.l0 (k + 1) y0 y1))
 | 0 => fun _ _ r h => by simp [zBg.l0] at h
 | k + 1 => by
  have ih0 := zBg.zBq k
  ·intro y0 y1
   unfold zBg.l0
   repeat' first
   | (with_reducible exact ih0 _ _)
   | (with_reducible exact LeO.refl _)
   | (with_reducible exact LeO.none _)
   | (with_reducible refine LeO.ite ?_ ?_)
   | (with_reducible refine LeO.bind ?_ (fun _ => ?_))
theorem zBg.mono : ∀ a0 k, LeO (zBg.f k a0) (zBg.f (k + 1) a0) := by
 intro a0 k
 have ih0 := zBg.zBq k
 unfold zBg.f
 repeat' first
   | (with_reducible exact ih0 _ _)
   | (with_reducible exact LeO.refl _)
   | (with_reducible exact LeO.none _)
   | (with_reducible refine LeO.ite ?_ ?_)
   | (with_reducible refine LeO.bind ?_ (fun _ => ?_))
set_option maxHeartbeats 8000000 in
set_option maxRecDepth 100000 in
theorem zBg.calls (k : Nat) (a0 : ByteArray) (r : Bool) (w : World) (h : zBg.f k a0 = some r) :
  Calls Tryd.prog 48 #[.string a0] w fun e w' => e = .returned (.bool r) ∧ zAr w w' := by
 have H : (zBg.l0 k a0 0) = some r := h
 clear h
 have H' := zA1.mk H
 clear H
 go_enter Tryd.func48, Tryd.ntmps48
 go_wp2
 go_loopg [3] k (fun kq v3 w' => ∃ (x3_1 : Int), v3 = .int .i64 x3_1 ∧ zA1 (zBg.l0 kq a0 x3_1 = some r) ∧ zA1 (kq ≤ k) ∧ zAr w w')
 case atStart => exact ⟨(0), (by first | rfl | (simp; done) | (simp [*]; done)), H', ⟨Nat.le_refl _⟩, by repeat (first | exact zAr.refl _ | apply zAr.step)⟩
 case round =>
  clear H'
  obtain ⟨x3_1, rfl, HA, HK1, ⟨m1, rfl⟩⟩ := hrel
  cases gk with
  | zero => exact absurd HA.out (by simp [zBg.l0])
  | succ k1 =>
   have H := HA.out
   clear HA
   simp only [zBg.l0] at H
   by_cases c2 : x3_1 < (a0.size : Int)
   ·rw [if_pos c2] at H
    have c2b0 : decide (x3_1 < (a0.size : Int)) = true := decide_eq_true c2
    clear c2
    by_cases c3 : 0 ≤ x3_1
    rotate_left
    ·rw [if_neg c3] at H
     exact absurd H (by simp)
    rw [if_pos c3] at H
    have c3b0 : decide (0 ≤ x3_1) = true := decide_eq_true c3
    clear c3
    by_cases c5 : (bt a0 x3_1) < 33
    ·rw [if_pos c5] at H
     have c5b0 : decide ((bt a0 x3_1) < 33) = true := decide_eq_true c5
     clear c5
     obtain rfl := Option.some.inj H
     have p4 : 0 ≤ (x3_1 : Int) := of_decide_eq_true (by first | (with_reducible assumption) | assumption)
     have q4 : x3_1 < (a0.size : Int) := of_decide_eq_true (by first | (with_reducible assumption) | assumption)
     have hx4 := bt_at a0 x3_1
     replace p4 := eq_true p4
     replace q4 := eq_true q4
     go_wp2
     go_ret
     exact ⟨by first | rfl | (simp; done) | (simp [*]; done), by repeat (first | exact zAr.refl _ | apply zAr.step)⟩
    ·rw [if_neg c5] at H
     have c5b0 : decide ((bt a0 x3_1) < 33) = false := decide_eq_false c5
     clear c5
     by_cases c7 : (bt a0 x3_1) > 126
     ·rw [if_pos c7] at H
      have c7b0 : decide (126 < (bt a0 x3_1)) = true := decide_eq_true c7
      clear c7
      obtain rfl := Option.some.inj H
      have p4 : 0 ≤ (x3_1 : Int) := of_decide_eq_true (by first | (with_reducible assumption) | assumption)
      have q4 : x3_1 < (a0.size : Int) := of_decide_eq_true (by first | (with_reducible assumption) | assumption)
      have hx4 := bt_at a0 x3_1
      replace p4 := eq_true p4
      replace q4 := eq_true q4
      have p6 : 0 ≤ (x3_1 : Int) := of_decide_eq_true (by first | (with_reducible assumption) | assumption)
      have q6 : x3_1 < (a0.size : Int) := of_decide_eq_true (by first | (with_reducible assumption) | assumption)
      have hx6 := bt_at a0 x3_1
      replace p6 := eq_true p6
      replace q6 := eq_true q6
      go_wp2
      go_ret
      exact ⟨by first | rfl | (simp; done) | (simp [*]; done), by repeat (first | exact zAr.refl _ | apply zAr.step)⟩
     ·rw [if_neg c7] at H
      have c7b0 : decide (126 < (bt a0 x3_1)) = false := decide_eq_false c7
      clear c7
      have H' := zA1.mk H
      clear H
      have p4 : 0 ≤ (x3_1 : Int) := of_decide_eq_true (by first | (with_reducible assumption) | assumption)
      have q4 : x3_1 < (a0.size : Int) := of_decide_eq_true (by first | (with_reducible assumption) | assumption)
      have hx4 := bt_at a0 x3_1
      replace p4 := eq_true p4
      replace q4 := eq_true q4
      have p6 : 0 ≤ (x3_1 : Int) := of_decide_eq_true (by first | (with_reducible assumption) | assumption)
      have q6 : x3_1 < (a0.size : Int) := of_decide_eq_true (by first | (with_reducible assumption) | assumption)
      have hx6 := bt_at a0 x3_1
      replace p6 := eq_true p6
      replace q6 := eq_true q6
      go_wp2
      go_roundg k1
      case measure => have := HK1.out; omega
      case rel => exact ⟨(wrap64 (x3_1 + 1)), (by first | rfl | (simp; done) | (simp [*]; done)), H', ⟨by have := HK1.out; omega⟩, by repeat (first | exact zAr.refl _ | apply zAr.step)⟩
   ·rw [if_neg c2] at H
    have c2b0 : decide (x3_1 < (a0.size : Int)) = false := decide_eq_false c2
    clear c2
    by_cases c8 : (a0.size : Int) ≥ 1
    ·rw [if_pos c8] at H
     have c8b0 : decide (1 ≤ (a0.size : Int)) = true := decide_eq_true c8
     have c8b1 : decide (1 ≤ a0.size) = true := decide_eq_true (by omega)
     clear c8
     obtain rfl := Option.some.inj H
     go_wp2
     go_ret
     exact ⟨by first | rfl | (simp; done) | (simp [*]; done), by repeat (first | exact zAr.refl _ | apply zAr.step)⟩
    ·rw [if_neg c8] at H
     have c8b0 : decide (1 ≤ (a0.size : Int)) = false := decide_eq_false c8
     have c8b1 : decide (1 ≤ a0.size) = false := decide_eq_false (by omega)
     clear c8
     obtain rfl := Option.some.inj H
     go_wp2
     go_ret
     exact ⟨by first | rfl | (simp; done) | (simp [*]; done), by repeat (first | exact zAr.refl _ | apply zAr.step)⟩
end
end Go.Proofs.YtbghfbhlbfcloaaDoor.PL
namespace Go.Proofs.YtbghfbhlbfcloaaDoor.PL
section
open Go.RowKit Go.Proofs.YtbghfbhlbfcloaaDoorW.PrintWords Go.Proofs.YtbghfbhlbfcloaaDoorW.PrintLast Go.Proofs.YtbghfbhlbfcloaaDoorW.PrintMore
attribute [local go_sem] zBw zBu zC7 zC6 zBo zBn zBv zBt   -- for this text's walks alone
set_option linter.unusedVariables false
set_option linter.unusedSimpArgs false
mutual
def zA5.j0 : Nat → List (S57) → Int → Bool → Option (Int)
 | 0, _, _, _ => none
 | k + 1, x0, x1, x17 => if x17 = true then (some 2) else (if (x0.length : Int) > 32 then (some 6) else (zA5.l0 k x0 x1 0))
def zA5.l0 : Nat → List (S57) → Int → Int → Option (Int)
 | 0, _, _, _ => none
 | k + 1, x0, x1, x5 => if x5 < (x0.length : Int) then (if 0 ≤ x5 then ((zBg.f k ((zA6 x0 x5).f0)).bind fun t446 => (if t446 = true then (zA5.l1 k x0 x1 x5 0) else (some 11))) else (none)) else (some 0)
def zA5.l1 : Nat → List (S57) → Int → Int → Int → Option (Int)
 | 0, _, _, _, _ => none
 | k + 1, x0, x1, x5, x6 => if x6 < x5 then (if 0 ≤ x6 then (if x6 < (x0.length : Int) then (if 0 ≤ x5 then (if x5 < (x0.length : Int) then (if ((zA6 x0 x6).f0).toList = ((zA6 x0 x5).f0).toList then (some 9) else (zA5.l1 k x0 x1 x5 (wrap64 (x6 + 1)))) else (none)) else (none)) else (none)) else (none)) else (if 0 ≤ x5 then (if x5 < (x0.length : Int) then (if (((zA6 x0 x5).f1).length : Int) < 2 then (some 7) else ((zAi.f k ((zA6 x0 x5).f1) x1).bind fun t451 => (if t451 = 0 then (zA5.l2 k x0 x1 x5 0) else (some t451)))) else (none)) else (none))
def zA5.l2 : Nat → List (S57) → Int → Int → Int → Option (Int)
 | 0, _, _, _, _ => none
 | k + 1, x0, x1, x5, x8 => if x8 < x5 then (if 0 ≤ x8 then (if x8 < (x0.length : Int) then (if 0 ≤ x5 then (if x5 < (x0.length : Int) then ((zAo.f k ((zA6 x0 x8).f1) ((zA6 x0 x5).f1)).bind fun t454 => (if t454 = true then (some 9) else (zA5.l2 k x0 x1 x5 (wrap64 (x8 + 1))))) else (none)) else (none)) else (none)) else (none)) else (zA5.l3 k x0 x1 x5 0)
def zA5.l3 : Nat → List (S57) → Int → Int → Int → Option (Int)
 | 0, _, _, _, _ => none
 | k + 1, x0, x1, x5, x9 => if x9 < x5 then (if 0 ≤ x5 then (if x5 < (x0.length : Int) then (if 0 ≤ x9 then (if x9 < (x0.length : Int) then ((zB0.f k ((zA6 x0 x5).f1) ((zA6 x0 x9).f1)).bind fun t457 => (if t457 = true then (zA5.l3 k x0 x1 x5 (wrap64 (x9 + 1))) else ((zAe.f k ((zA6 x0 x5).f1) ((zA6 x0 x9).f1)).bind fun t458 => (if t458 = true then (zA5.l3 k x0 x1 x5 (wrap64 (x9 + 1))) else ((zAe.f k ((zA6 x0 x9).f1) ((zA6 x0 x5).f1)).bind fun t459 => (if t459 = true then (zA5.l3 k x0 x1 x5 (wrap64 (x9 + 1))) else (some 17))))))) else (none)) else (none)) else (none)) else (none)) else (zA5.l0 k x0 x1 (wrap64 (x5 + 1)))
end
def zA5.f (k : Nat) (l0 : List (S57)) (a1 : Int) : Option (Int) := if a1 < 0 then (zA5.j0 k l0 a1 true) else (zA5.j0 k l0 a1 (decide (a1 > 12)))
theorem zA5.zBq : ∀ k, (∀ y0 y1 y2, LeO (zA5.j0 k y0 y1 y2) (zA5.j0 (k + 1) y0 y1 y2)) ∧ (∀ y0 y1 y2, LeO (zA5.l0 k y0 y1 y2) (zA5.l0 (k + 1) y0 y1 y2)) ∧ (∀ y0 y1 y2 y3, LeO (zA5.l1 k y0 y1 y2 y3) (zA5.l1 (k + 1) y0 y1 y2 y3)) ∧ (∀ y0 y1 y2 y3, LeO (zA5.l2 k y0 y1 y2 y3) (zA5.l2 (k + 1) y0 y1 y2 y3)) ∧ (∀ y0 y1 y2 y3, LeO (zA5.l3 k y0 y1 y2 y3) (zA5.l3 (k + 1) y0 y1 y2 y3))
 | 0 => ⟨fun _ _ _ r h => by simp [zA5.j0] at h, fun _ _ _ r h => by simp [zA5.l0] at h, fun _ _ _ _ r h => by simp [zA5.l1] at h, fun _ _ _ _ r h => by simp [zA5.l2] at h, fun _ _ _ _ r h => by simp [zA5.l3] at h⟩
 | k + 1 => by
  obtain ⟨ih0, ih1, ih2, ih3, ih4⟩ := zA5.zBq k
  refine ⟨?_, ?_, ?_, ?_, ?_⟩
  ·intro y0 y1 y2
   unfold zA5.j0
   repeat' first
   | (with_reducible exact ih0 _ _ _)
   | (with_reducible exact ih1 _ _ _)
   | (with_reducible exact ih2 _ _ _ _)
   | (with_reducible exact ih3 _ _ _ _)
   | (with_reducible exact ih4 _ _ _ _)
   | (with_reducible exact zB0.mono _ _ _)
   | (with_reducible exact zAi.mono _ _ _)
   | (with_reducible exact zBg.mono _ _)
   | (with_reducible exact zAo.mono _ _ _)
   | (with_reducible exact zAe.mono _ _ _)
   | (with_reducible exact LeO.refl _)
   | (with_reducible exact LeO.none _)
   | (with_reducible refine LeO.ite ?_ ?_)
   | (with_reducible refine LeO.bind ?_ (fun _ => ?_))
  ·intro y0 y1 y2
   unfold zA5.l0
   repeat' first
   | (with_reducible exact ih0 _ _ _)
   | (with_reducible exact ih1 _ _ _)
   | (with_reducible exact ih2 _ _ _ _)
   | (with_reducible exact ih3 _ _ _ _)
   | (with_reducible exact ih4 _ _ _ _)
   | (with_reducible exact zB0.mono _ _ _)
   | (with_reducible exact zAi.mono _ _ _)
   | (with_reducible exact zBg.mono _ _)
   | (with_reducible exact zAo.mono _ _ _)
   | (with_reducible exact zAe.mono _ _ _)
   | (with_reducible exact LeO.refl _)
   | (with_reducible exact LeO.none _)
   | (with_reducible refine LeO.ite ?_ ?_)
   | (with_reducible refine LeO.bind ?_ (fun _ => ?_))
  ·intro y0 y1 y2 y3
   unfold zA5.l1
   repeat' first
   | (with_reducible exact ih0 _ _ _)
   | (with_reducible exact ih1 _ _ _)
   | (with_reducible exact ih2 _ _ _ _)
   | (with_reducible exact ih3 _ _ _ _)
   | (with_reducible exact ih4 _ _ _ _)
   | (with_reducible exact zB0.mono _ _ _)
   | (with_reducible exact zAi.mono _ _ _)
   | (with_reducible exact zBg.mono _ _)
   | (with_reducible exact zAo.mono _ _ _)
   | (with_reducible exact zAe.mono _ _ _)
   | (with_reducible exact LeO.refl _)
   | (with_reducible exact LeO.none _)
   | (with_reducible refine LeO.ite ?_ ?_)
   | (with_reducible refine LeO.bind ?_ (fun _ => ?_))
  ·intro y0 y1 y2 y3
   unfold zA5.l2
   repeat' first
   | (with_reducible exact ih0 _ _ _)
   | (with_reducible exact ih1 _ _ _)
   | (with_reducible exact ih2 _ _ _ _)
   | (with_reducible exact ih3 _ _ _ _)
   | (with_reducible exact ih4 _ _ _ _)
   | (with_reducible exact zB0.mono _ _ _)
   | (with_reducible exact zAi.mono _ _ _)
   | (with_reducible exact zBg.mono _ _)
   | (with_reducible exact zAo.mono _ _ _)
   | (with_reducible exact zAe.mono _ _ _)
   | (with_reducible exact LeO.refl _)
   | (with_reducible exact LeO.none _)
   | (with_reducible refine LeO.ite ?_ ?_)
   | (with_reducible refine LeO.bind ?_ (fun _ => ?_))
  ·intro y0 y1 y2 y3
   unfold zA5.l3
   repeat' first
   | (with_reducible exact ih0 _ _ _)
   | (with_reducible exact ih1 _ _ _)
   | (with_reducible exact ih2 _ _ _ _)
   | (with_reducible exact ih3 _ _ _ _)
   | (with_reducible exact ih4 _ _ _ _)
   | (with_reducible exact zB0.mono _ _ _)
   | (with_reducible exact zAi.mono _ _ _)
   | (with_reducible exact zBg.mono _ _)
   | (with_reducible exact zAo.mono _ _ _)
   | (with_reducible exact zAe.mono _ _ _)
   | (with_reducible exact LeO.refl _)
   | (with_reducible exact LeO.none _)
   | (with_reducible refine LeO.ite ?_ ?_)
   | (with_reducible refine LeO.bind ?_ (fun _ => ?_))
theorem zA5.mono : ∀ a0 a1 k, LeO (zA5.f k a0 a1) (zA5.f (k + 1) a0 a1) := by
 intro a0 a1 k
 obtain ⟨ih0, ih1, ih2, ih3, ih4⟩ := zA5.zBq k
 unfold zA5.f
 repeat' first
   | (with_reducible exact ih0 _ _ _)
   | (with_reducible exact ih1 _ _ _)
   | (with_reducible exact ih2 _ _ _ _)
   | (with_reducible exact ih3 _ _ _ _)
   | (with_reducible exact ih4 _ _ _ _)
   | (with_reducible exact zB0.mono _ _ _)
   | (with_reducible exact zAi.mono _ _ _)
   | (with_reducible exact zBg.mono _ _)
   | (with_reducible exact zAo.mono _ _ _)
   | (with_reducible exact zAe.mono _ _ _)
   | (with_reducible exact LeO.refl _)
   | (with_reducible exact LeO.none _)
   | (with_reducible refine LeO.ite ?_ ?_)
   | (with_reducible refine LeO.bind ?_ (fun _ => ?_))
set_option maxHeartbeats 8000000 in
set_option maxRecDepth 100000 in
theorem zA5.calls (k : Nat) (A0 : Option Addr) (c0 : Nat) (l0 : List (S57)) (a1 : Int) (r : Int) (w : World) (hr0 : Kd.C k57 w A0 l0.length l0) (hc0 : l0.length ≤ c0) (h : zA5.f k l0 a1 = some r) :
  Calls Tryd.prog 25 #[.slice A0 l0.length c0, .int .i64 a1] w fun e w' => e = .returned (.int .i64 r) ∧ zAr w w' := by
 have HR0 := zA1.mk hr0
 have HC0 := zA1.mk hc0
 clear hr0 hc0
 have H : (if a1 < 0 then (zA5.j0 k l0 a1 true) else (zA5.j0 k l0 a1 (decide (a1 > 12)))) = some r := h
 clear h
 have HC3 := zA1.mk H
 clear H
 go_enter Tryd.func25, Tryd.ntmps25
 go_upto_region 1 with (fail)
 go_cut [17] (fun v17 wc => ∃ (kq : Nat) (x17_2 : Bool), v17 = .bool x17_2 ∧ zA1 (zA5.j0 kq l0 a1 x17_2 = some r) ∧ zA1 (kq ≤ k) ∧ zAr w wc)
 case first =>
  have H := HC3.out
  clear HC3
  by_cases c4 : a1 < 0
  ·rw [if_pos c4] at H
   have c4b0 : decide (a1 < 0) = true := decide_eq_true c4
   clear c4
   (first | rw [c4b0] | (simp only [i64_w, i32_w]; rw [c4b0]) | skip)
   have H' := zA1.mk H
   clear H
   go_wp2
   go_meet
   case rel => exact ⟨_, (true), (by first | rfl | (simp; done) | (simp [*]; done)), H', ⟨by first | omega | exact Nat.le_refl _⟩, by repeat (first | exact zAr.refl _ | apply zAr.step)⟩
  ·rw [if_neg c4] at H
   have c4b0 : decide (a1 < 0) = false := decide_eq_false c4
   clear c4
   (first | rw [c4b0] | (simp only [i64_w, i32_w]; rw [c4b0]) | skip)
   have H' := zA1.mk H
   clear H
   go_wp2
   go_meet
   case rel => exact ⟨_, (decide (a1 > 12)), (by first | rfl | (simp; done) | (simp [*]; done)), H', ⟨by first | omega | exact Nat.le_refl _⟩, by repeat (first | exact zAr.refl _ | apply zAr.step)⟩
 case rest =>
  clear HC3
  try clear c2
  try clear p2
  try clear c4
  try clear c4b0
  obtain ⟨kq, x17_2, rfl, HA, HJ2, ⟨mc2, rfl⟩⟩ := hcut
  cases kq with
  | zero => exact absurd HA.out (by simp [zA5.j0])
  | succ kj2 =>
   have H := HA.out
   clear HA
   simp only [zA5.j0] at H
   by_cases c5 : x17_2 = true
   ·subst c5
    have H1 : (some 2) = some r := by rw [if_pos rfl] at H; exact H
    clear H
    have H := H1
    clear H1
    obtain rfl := Option.some.inj H
    go_wp2
    go_ret
    exact ⟨by first | rfl | (simp; done) | (simp [*]; done), by repeat (first | exact zAr.refl _ | apply zAr.step)⟩
   ·replace c5 := Bool.eq_false_iff.mpr c5
    subst c5
    have H1 : (if (l0.length : Int) > 32 then (some 6) else (zA5.l0 kj2 l0 a1 0)) = some r := by rw [if_neg (show ¬ (false = true) by decide)] at H; exact H
    clear H
    have H := H1
    clear H1
    by_cases c6 : (l0.length : Int) > 32
    ·rw [if_pos c6] at H
     have c6b0 : decide (32 < (l0.length : Int)) = true := decide_eq_true c6
     have c6b1 : decide (32 < l0.length) = true := decide_eq_true (by omega)
     clear c6
     obtain rfl := Option.some.inj H
     go_wp2
     go_ret
     exact ⟨by first | rfl | (simp; done) | (simp [*]; done), by repeat (first | exact zAr.refl _ | apply zAr.step)⟩
    ·rw [if_neg c6] at H
     have c6b0 : decide (32 < (l0.length : Int)) = false := decide_eq_false c6
     have c6b1 : decide (32 < l0.length) = false := decide_eq_false (by omega)
     clear c6
     have H' := zA1.mk H
     clear H
     go_wp2
     go_loopg [5] kj2 (fun kq v5 w' => ∃ (x5_2 : Int), v5 = .int .i64 x5_2 ∧ zA1 (zA5.l0 kq l0 a1 x5_2 = some r) ∧ zA1 (kq ≤ kj2) ∧ zAr w w')
     case atStart => exact ⟨(0), (by first | rfl | (simp; done) | (simp [*]; done)), H', ⟨Nat.le_refl _⟩, by repeat (first | exact zAr.refl _ | apply zAr.step)⟩
     case round =>
      clear H'
      try clear c2
      try clear p2
      try clear c4
      try clear c4b0
      try clear c5
      try clear c6
      try clear c6b0
      try clear c6b1
      try clear p2
      obtain ⟨x5_2, rfl, HA, HK2, ⟨m2, rfl⟩⟩ := hrel
      cases gk with
      | zero => exact absurd HA.out (by simp [zA5.l0])
      | succ k2 =>
       have H := HA.out
       clear HA
       simp only [zA5.l0] at H
       by_cases c7 : x5_2 < (l0.length : Int)
       ·rw [if_pos c7] at H
        have c7b0 : decide (x5_2 < (l0.length : Int)) = true := decide_eq_true c7
        clear c7
        by_cases c8 : 0 ≤ x5_2
        rotate_left
        ·rw [if_neg c8] at H
         exact absurd H (by simp)
        rw [if_pos c8] at H
        have c8b0 : decide (0 ≤ x5_2) = true := decide_eq_true c8
        clear c8
        replace H := Option.bind_eq_some_iff.mp H
        obtain ⟨t446, A90, H⟩ := H
        replace H : (if t446 = true then (zA5.l1 k2 l0 a1 x5_2 0) else (some 11)) = some r := H
        have A9 := zA1.mk A90
        clear A90
        by_cases c10 : t446 = true
        ·subst c10
         have H1 : (zA5.l1 k2 l0 a1 x5_2 0) = some r := by rw [if_pos rfl] at H; exact H
         clear H
         have H := H1
         clear H1
         have H' := zA1.mk H
         clear H
         have p445 : 0 ≤ (x5_2 : Int) := of_decide_eq_true (by first | (with_reducible assumption) | assumption)
         have q445 : x5_2 < (l0.length : Int) := of_decide_eq_true (by first | (with_reducible assumption) | assumption)
         obtain ⟨ad445, A445_1, c445_1, e445, hx445_0, hx445_1, hl445_1, hi445_1⟩ := zC5 HR0.out x5_2 p445 q445
         cases e445
         have HR445_1 := zA1.mk hi445_1
         have HC445_1 := zA1.mk hl445_1
         clear hi445_1 hl445_1
         replace p445 := eq_true p445
         replace q445 := eq_true q445
         go_wp2_with (first | (go_at_call 48; (with_reducible refine (zBg.calls k2 ((zA6 l0 x5_2).f0) true _ A9.out).mono ?_); rintro e w' ⟨rfl, ⟨nd, rfl⟩⟩; (try first | exact ⟨rfl, _, World.drewN_drewN _ _ _⟩ | exact ⟨rfl, _, Eq.trans (World.drewN_drewN _ _ _) (congrArg (World.drewN _) (Nat.add_assoc _ _ _))⟩)))
         go_loopg [6] k2 (fun kq v6 w' => ∃ (x6_3 : Int), v6 = .int .i64 x6_3 ∧ zA1 (zA5.l1 kq l0 a1 x5_2 x6_3 = some r) ∧ zA1 (kq ≤ k2) ∧ zAr w w')
         case atStart => exact ⟨(0), (by first | rfl | (simp; done) | (simp [*]; done)), H', ⟨Nat.le_refl _⟩, by repeat (first | exact zAr.refl _ | apply zAr.step)⟩
         case round =>
          clear H'
          try clear c1
          try clear c2
          try clear p2
          try clear c4
          try clear c4b0
          try clear p4
          try clear q4
          try clear hx4
          try clear c5
          try clear c6
          try clear c6b0
          try clear c6b1
          try clear c7
          try clear c7b0
          try clear c8
          try clear c8b0
          try clear c10
          try clear hx445_0
          try clear hx445_1
          try clear p2
          try clear p445
          try clear q445
          obtain ⟨x6_3, rfl, HA, HK3, ⟨m3, rfl⟩⟩ := hrel
          cases gk with
          | zero => exact absurd HA.out (by simp [zA5.l1])
          | succ k3 =>
           have H := HA.out
           clear HA
           simp only [zA5.l1] at H
           by_cases c11 : x6_3 < x5_2
           ·rw [if_pos c11] at H
            have c11b0 : decide (x6_3 < x5_2) = true := decide_eq_true c11
            clear c11
            by_cases c12 : 0 ≤ x6_3
            rotate_left
            ·rw [if_neg c12] at H
             exact absurd H (by simp)
            rw [if_pos c12] at H
            have c12b0 : decide (0 ≤ x6_3) = true := decide_eq_true c12
            clear c12
            by_cases c13 : x6_3 < (l0.length : Int)
            rotate_left
            ·rw [if_neg c13] at H
             exact absurd H (by simp)
            rw [if_pos c13] at H
            have c13b0 : decide (x6_3 < (l0.length : Int)) = true := decide_eq_true c13
            clear c13
            by_cases c14 : 0 ≤ x5_2
            rotate_left
            ·rw [if_neg c14] at H
             exact absurd H (by simp)
            rw [if_pos c14] at H
            have c14b0 : decide (0 ≤ x5_2) = true := decide_eq_true c14
            clear c14
            by_cases c15 : x5_2 < (l0.length : Int)
            rotate_left
            ·rw [if_neg c15] at H
             exact absurd H (by simp)
            rw [if_pos c15] at H
            have c15b0 : decide (x5_2 < (l0.length : Int)) = true := decide_eq_true c15
            clear c15
            by_cases c16 : ((zA6 l0 x6_3).f0).toList = ((zA6 l0 x5_2).f0).toList
            ·rw [if_pos c16] at H
             have c16b0 : (((zA6 l0 x6_3).f0).toList == ((zA6 l0 x5_2).f0).toList) = true := beq_iff_eq.mpr c16
             have c16b1 : (((zA6 l0 x6_3).f0).toList != ((zA6 l0 x5_2).f0).toList) = false := bne_eq_false_iff_eq.mpr c16
             clear c16
             obtain rfl := Option.some.inj H
             have p447 : 0 ≤ (x6_3 : Int) := of_decide_eq_true (by first | (with_reducible assumption) | assumption)
             have q447 : x6_3 < (l0.length : Int) := of_decide_eq_true (by first | (with_reducible assumption) | assumption)
             obtain ⟨ad447, A447_1, c447_1, e447, hx447_0, hx447_1, hl447_1, hi447_1⟩ := zC5 HR0.out x6_3 p447 q447
             obtain rfl : ad445 = ad447 := (by injection e447)
             have HR447_1 := zA1.mk hi447_1
             have HC447_1 := zA1.mk hl447_1
             clear hi447_1 hl447_1
             replace p447 := eq_true p447
             replace q447 := eq_true q447
             have p448 : 0 ≤ (x5_2 : Int) := of_decide_eq_true (by first | (with_reducible assumption) | assumption)
             have q448 : x5_2 < (l0.length : Int) := of_decide_eq_true (by first | (with_reducible assumption) | assumption)
             obtain ⟨ad448, A448_1, c448_1, e448, hx448_0, hx448_1, hl448_1, hi448_1⟩ := zC5 HR0.out x5_2 p448 q448
             obtain rfl : ad445 = ad448 := (by injection e448)
             have HR448_1 := zA1.mk hi448_1
             have HC448_1 := zA1.mk hl448_1
             clear hi448_1 hl448_1
             replace p448 := eq_true p448
             replace q448 := eq_true q448
             go_wp2
             repeat (go_quiet (fail); try go_wp2)
             go_ret
             exact ⟨by first | rfl | (simp; done) | (simp [*]; done), by repeat (first | exact zAr.refl _ | apply zAr.step)⟩
            ·rw [if_neg c16] at H
             have c16b0 : (((zA6 l0 x6_3).f0).toList == ((zA6 l0 x5_2).f0).toList) = false := beq_eq_false_iff_ne.mpr c16
             have c16b1 : (((zA6 l0 x6_3).f0).toList != ((zA6 l0 x5_2).f0).toList) = true := bne_iff_ne.mpr c16
             have H' := zA1.mk H
             clear H
             have p447 : 0 ≤ (x6_3 : Int) := of_decide_eq_true (by first | (with_reducible assumption) | assumption)
             have q447 : x6_3 < (l0.length : Int) := of_decide_eq_true (by first | (with_reducible assumption) | assumption)
             obtain ⟨ad447, A447_1, c447_1, e447, hx447_0, hx447_1, hl447_1, hi447_1⟩ := zC5 HR0.out x6_3 p447 q447
             obtain rfl : ad445 = ad447 := (by injection e447)
             have HR447_1 := zA1.mk hi447_1
             have HC447_1 := zA1.mk hl447_1
             clear hi447_1 hl447_1
             replace p447 := eq_true p447
             replace q447 := eq_true q447
             have p448 : 0 ≤ (x5_2 : Int) := of_decide_eq_true (by first | (with_reducible assumption) | assumption)
             have q448 : x5_2 < (l0.length : Int) := of_decide_eq_true (by first | (with_reducible assumption) | assumption)
             obtain ⟨ad448, A448_1, c448_1, e448, hx448_0, hx448_1, hl448_1, hi448_1⟩ := zC5 HR0.out x5_2 p448 q448
             obtain rfl : ad445 = ad448 := (by injection e448)
             have HR448_1 := zA1.mk hi448_1
             have HC448_1 := zA1.mk hl448_1
             clear hi448_1 hl448_1
             replace p448 := eq_true p448
             replace q448 := eq_true q448
             go_wp2
             repeat (go_quiet (fail); try go_wp2)
             go_roundg k3
             case measure => have := HJ2.out; have := HK2.out; have := HK3.out; omega
             case rel => exact ⟨(wrap64 (x6_3 + 1)), (by first | rfl | (simp; done) | (simp [*]; done)), H', ⟨by have := HJ2.out; have := HK2.out; have := HK3.out; omega⟩, by repeat (first | exact zAr.refl _ | apply zAr.step)⟩
           ·rw [if_neg c11] at H
            have c11b0 : decide (x6_3 < x5_2) = false := decide_eq_false c11
            clear c11
            by_cases c17 : 0 ≤ x5_2
            rotate_left
            ·rw [if_neg c17] at H
             exact absurd H (by simp)
            rw [if_pos c17] at H
            have c17b0 : decide (0 ≤ x5_2) = true := decide_eq_true c17
            clear c17
            by_cases c18 : x5_2 < (l0.length : Int)
            rotate_left
            ·rw [if_neg c18] at H
             exact absurd H (by simp)
            rw [if_pos c18] at H
            have c18b0 : decide (x5_2 < (l0.length : Int)) = true := decide_eq_true c18
            clear c18
            by_cases c19 : (((zA6 l0 x5_2).f1).length : Int) < 2
            ·rw [if_pos c19] at H
             have c19b0 : decide ((((zA6 l0 x5_2).f1).length : Int) < 2) = true := decide_eq_true c19
             have c19b1 : decide (((zA6 l0 x5_2).f1).length < 2) = true := decide_eq_true (by omega)
             clear c19
             obtain rfl := Option.some.inj H
             have p449 : 0 ≤ (x5_2 : Int) := of_decide_eq_true (by first | (with_reducible assumption) | assumption)
             have q449 : x5_2 < (l0.length : Int) := of_decide_eq_true (by first | (with_reducible assumption) | assumption)
             obtain ⟨ad449, A449_1, c449_1, e449, hx449_0, hx449_1, hl449_1, hi449_1⟩ := zC5 HR0.out x5_2 p449 q449
             obtain rfl : ad445 = ad449 := (by injection e449)
             have HR449_1 := zA1.mk hi449_1
             have HC449_1 := zA1.mk hl449_1
             clear hi449_1 hl449_1
             replace p449 := eq_true p449
             replace q449 := eq_true q449
             go_wp2
             go_ret
             exact ⟨by first | rfl | (simp; done) | (simp [*]; done), by repeat (first | exact zAr.refl _ | apply zAr.step)⟩
            ·rw [if_neg c19] at H
             have c19b0 : decide ((((zA6 l0 x5_2).f1).length : Int) < 2) = false := decide_eq_false c19
             have c19b1 : decide (((zA6 l0 x5_2).f1).length < 2) = false := decide_eq_false (by omega)
             clear c19
             replace H := Option.bind_eq_some_iff.mp H
             obtain ⟨t451, A200, H⟩ := H
             replace H : (if t451 = 0 then (zA5.l2 k3 l0 a1 x5_2 0) else (some t451)) = some r := H
             have A20 := zA1.mk A200
             clear A200
             by_cases c21 : t451 = 0
             ·rw [if_pos c21] at H
              have c21b0 : (t451 == 0) = true := beq_iff_eq.mpr c21
              have c21b1 : (t451 != 0) = false := bne_eq_false_iff_eq.mpr c21
              clear c21
              have H' := zA1.mk H
              clear H
              have p449 : 0 ≤ (x5_2 : Int) := of_decide_eq_true (by first | (with_reducible assumption) | assumption)
              have q449 : x5_2 < (l0.length : Int) := of_decide_eq_true (by first | (with_reducible assumption) | assumption)
              obtain ⟨ad449, A449_1, c449_1, e449, hx449_0, hx449_1, hl449_1, hi449_1⟩ := zC5 HR0.out x5_2 p449 q449
              obtain rfl : ad445 = ad449 := (by injection e449)
              have HR449_1 := zA1.mk hi449_1
              have HC449_1 := zA1.mk hl449_1
              clear hi449_1 hl449_1
              replace p449 := eq_true p449
              replace q449 := eq_true q449
              have p450 : 0 ≤ (x5_2 : Int) := of_decide_eq_true (by first | (with_reducible assumption) | assumption)
              have q450 : x5_2 < (l0.length : Int) := of_decide_eq_true (by first | (with_reducible assumption) | assumption)
              obtain ⟨ad450, A450_1, c450_1, e450, hx450_0, hx450_1, hl450_1, hi450_1⟩ := zC5 HR0.out x5_2 p450 q450
              obtain rfl : ad445 = ad450 := (by injection e450)
              have HR450_1 := zA1.mk hi450_1
              have HC450_1 := zA1.mk hl450_1
              clear hi450_1 hl450_1
              replace p450 := eq_true p450
              replace q450 := eq_true q450
              have ea_ := Option.some.inj (hx449_1.symm.trans hx450_1)
              injection ea_ with ea_ en_ ec_
              subst ea_
              subst ec_
              clear en_
              go_wp2_with (first | (go_at_call 49; (with_reducible refine (zAi.calls k3 _ _ ((zA6 l0 x5_2).f1) a1 t451 _ ?side1 ?side2 A20.out).mono ?_); (case side1 => repeat (first | exact HR450_1.out | (with_reducible refine Kd.zA8 ?_ _) | (with_reducible refine Kd.zAd ?_ _) | (with_reducible refine Kd.zAp ?_))); (case side2 => exact HC450_1.out); rintro e w' ⟨rfl, ⟨nd, rfl⟩⟩; (try first | exact ⟨rfl, _, World.drewN_drewN _ _ _⟩ | exact ⟨rfl, _, Eq.trans (World.drewN_drewN _ _ _) (congrArg (World.drewN _) (Nat.add_assoc _ _ _))⟩)))
              go_loopg [8] k3 (fun kq v8 w' => ∃ (x8_4 : Int), v8 = .int .i64 x8_4 ∧ zA1 (zA5.l2 kq l0 a1 x5_2 x8_4 = some r) ∧ zA1 (kq ≤ k3) ∧ zAr w w')
              case atStart => exact ⟨(0), (by first | rfl | (simp; done) | (simp [*]; done)), H', ⟨Nat.le_refl _⟩, by repeat (first | exact zAr.refl _ | apply zAr.step)⟩
              case round =>
               clear H'
               try clear c1
               try clear c2
               try clear p2
               try clear c4
               try clear c4b0
               try clear p4
               try clear q4
               try clear hx4
               try clear c5
               try clear c6
               try clear c6b0
               try clear c6b1
               try clear p6
               try clear c7
               try clear c7b0
               try clear c8
               try clear c8b0
               try clear c10
               try clear c11
               try clear c11b0
               try clear c12
               try clear c12b0
               try clear c13
               try clear c13b0
               try clear c14
               try clear c14b0
               try clear c15
               try clear c15b0
               try clear c16
               try clear c16b0
               try clear c16b1
               try clear c17
               try clear c17b0
               try clear c18
               try clear c18b0
               try clear c19
               try clear c19b0
               try clear c19b1
               try clear c21
               try clear c21b0
               try clear c21b1
               try clear hx445_0
               try clear hx445_1
               try clear hx447_0
               try clear hx447_1
               try clear hx448_0
               try clear hx448_1
               try clear hx449_0
               try clear hx449_1
               try clear hx450_0
               try clear hx450_1
               try clear p2
               try clear p4
               try clear p445
               try clear p447
               try clear p448
               try clear p449
               try clear p450
               try clear q4
               try clear q445
               try clear q447
               try clear q448
               try clear q449
               try clear q450
               obtain ⟨x8_4, rfl, HA, HK4, ⟨m4, rfl⟩⟩ := hrel
               cases gk with
               | zero => exact absurd HA.out (by simp [zA5.l2])
               | succ k4 =>
                have H := HA.out
                clear HA
                simp only [zA5.l2] at H
                by_cases c22 : x8_4 < x5_2
                ·rw [if_pos c22] at H
                 have c22b0 : decide (x8_4 < x5_2) = true := decide_eq_true c22
                 clear c22
                 by_cases c23 : 0 ≤ x8_4
                 rotate_left
                 ·rw [if_neg c23] at H
                  exact absurd H (by simp)
                 rw [if_pos c23] at H
                 have c23b0 : decide (0 ≤ x8_4) = true := decide_eq_true c23
                 clear c23
                 by_cases c24 : x8_4 < (l0.length : Int)
                 rotate_left
                 ·rw [if_neg c24] at H
                  exact absurd H (by simp)
                 rw [if_pos c24] at H
                 have c24b0 : decide (x8_4 < (l0.length : Int)) = true := decide_eq_true c24
                 clear c24
                 by_cases c25 : 0 ≤ x5_2
                 rotate_left
                 ·rw [if_neg c25] at H
                  exact absurd H (by simp)
                 rw [if_pos c25] at H
                 have c25b0 : decide (0 ≤ x5_2) = true := decide_eq_true c25
                 clear c25
                 by_cases c26 : x5_2 < (l0.length : Int)
                 rotate_left
                 ·rw [if_neg c26] at H
                  exact absurd H (by simp)
                 rw [if_pos c26] at H
                 have c26b0 : decide (x5_2 < (l0.length : Int)) = true := decide_eq_true c26
                 clear c26
                 replace H := Option.bind_eq_some_iff.mp H
                 obtain ⟨t454, A270, H⟩ := H
                 replace H : (if t454 = true then (some 9) else (zA5.l2 k4 l0 a1 x5_2 (wrap64 (x8_4 + 1)))) = some r := H
                 have A27 := zA1.mk A270
                 clear A270
                 by_cases c28 : t454 = true
                 ·subst c28
                  have H1 : (some 9) = some r := by rw [if_pos rfl] at H; exact H
                  clear H
                  have H := H1
                  clear H1
                  obtain rfl := Option.some.inj H
                  have p452 : 0 ≤ (x8_4 : Int) := of_decide_eq_true (by first | (with_reducible assumption) | assumption)
                  have q452 : x8_4 < (l0.length : Int) := of_decide_eq_true (by first | (with_reducible assumption) | assumption)
                  obtain ⟨ad452, A452_1, c452_1, e452, hx452_0, hx452_1, hl452_1, hi452_1⟩ := zC5 HR0.out x8_4 p452 q452
                  obtain rfl : ad445 = ad452 := (by injection e452)
                  have HR452_1 := zA1.mk hi452_1
                  have HC452_1 := zA1.mk hl452_1
                  clear hi452_1 hl452_1
                  replace p452 := eq_true p452
                  replace q452 := eq_true q452
                  have p453 : 0 ≤ (x5_2 : Int) := of_decide_eq_true (by first | (with_reducible assumption) | assumption)
                  have q453 : x5_2 < (l0.length : Int) := of_decide_eq_true (by first | (with_reducible assumption) | assumption)
                  obtain ⟨ad453, A453_1, c453_1, e453, hx453_0, hx453_1, hl453_1, hi453_1⟩ := zC5 HR0.out x5_2 p453 q453
                  obtain rfl : ad445 = ad453 := (by injection e453)
                  have HR453_1 := zA1.mk hi453_1
                  have HC453_1 := zA1.mk hl453_1
                  clear hi453_1 hl453_1
                  replace p453 := eq_true p453
                  replace q453 := eq_true q453
                  go_wp2_with (first | (go_at_call 14; (with_reducible refine (zAo.calls k4 _ _ ((zA6 l0 x8_4).f1) _ _ ((zA6 l0 x5_2).f1) true _ ?side1 ?side2 ?side3 ?side4 A27.out).mono ?_); (case side1 => repeat (first | exact HR452_1.out | (with_reducible refine Kd.zA8 ?_ _) | (with_reducible refine Kd.zAd ?_ _) | (with_reducible refine Kd.zAp ?_))); (case side2 => exact HC452_1.out); (case side3 => repeat (first | exact HR453_1.out | (with_reducible refine Kd.zA8 ?_ _) | (with_reducible refine Kd.zAd ?_ _) | (with_reducible refine Kd.zAp ?_))); (case side4 => exact HC453_1.out); rintro e w' ⟨rfl, ⟨nd, rfl⟩⟩; (try first | exact ⟨rfl, _, World.drewN_drewN _ _ _⟩ | exact ⟨rfl, _, Eq.trans (World.drewN_drewN _ _ _) (congrArg (World.drewN _) (Nat.add_assoc _ _ _))⟩)))
                  repeat (go_quiet (first | (go_at_call 14; (with_reducible refine (zAo.calls k4 _ _ ((zA6 l0 x8_4).f1) _ _ ((zA6 l0 x5_2).f1) true _ ?side1 ?side2 ?side3 ?side4 A27.out).mono ?_); (case side1 => repeat (first | exact HR452_1.out | (with_reducible refine Kd.zA8 ?_ _) | (with_reducible refine Kd.zAd ?_ _) | (with_reducible refine Kd.zAp ?_))); (case side2 => exact HC452_1.out); (case side3 => repeat (first | exact HR453_1.out | (with_reducible refine Kd.zA8 ?_ _) | (with_reducible refine Kd.zAd ?_ _) | (with_reducible refine Kd.zAp ?_))); (case side4 => exact HC453_1.out); rintro e w' ⟨rfl, ⟨nd, rfl⟩⟩; (try first | exact ⟨rfl, _, World.drewN_drewN _ _ _⟩ | exact ⟨rfl, _, Eq.trans (World.drewN_drewN _ _ _) (congrArg (World.drewN _) (Nat.add_assoc _ _ _))⟩))); try go_wp2_with (first | (go_at_call 14; (with_reducible refine (zAo.calls k4 _ _ ((zA6 l0 x8_4).f1) _ _ ((zA6 l0 x5_2).f1) true _ ?side1 ?side2 ?side3 ?side4 A27.out).mono ?_); (case side1 => repeat (first | exact HR452_1.out | (with_reducible refine Kd.zA8 ?_ _) | (with_reducible refine Kd.zAd ?_ _) | (with_reducible refine Kd.zAp ?_))); (case side2 => exact HC452_1.out); (case side3 => repeat (first | exact HR453_1.out | (with_reducible refine Kd.zA8 ?_ _) | (with_reducible refine Kd.zAd ?_ _) | (with_reducible refine Kd.zAp ?_))); (case side4 => exact HC453_1.out); rintro e w' ⟨rfl, ⟨nd, rfl⟩⟩; (try first | exact ⟨rfl, _, World.drewN_drewN _ _ _⟩ | exact ⟨rfl, _, Eq.trans (World.drewN_drewN _ _ _) (congrArg (World.drewN _) (Nat.add_assoc _ _ _))⟩))))
                  go_ret
                  exact ⟨by first | rfl | (simp; done) | (simp [*]; done), by repeat (first | exact zAr.refl _ | apply zAr.step)⟩
                 ·replace c28 := Bool.eq_false_iff.mpr c28
                  subst c28
                  have H1 : (zA5.l2 k4 l0 a1 x5_2 (wrap64 (x8_4 + 1))) = some r := by rw [if_neg (show ¬ (false = true) by decide)] at H; exact H
                  clear H
                  have H := H1
                  clear H1
                  have H' := zA1.mk H
                  clear H
                  have p452 : 0 ≤ (x8_4 : Int) := of_decide_eq_true (by first | (with_reducible assumption) | assumption)
                  have q452 : x8_4 < (l0.length : Int) := of_decide_eq_true (by first | (with_reducible assumption) | assumption)
                  obtain ⟨ad452, A452_1, c452_1, e452, hx452_0, hx452_1, hl452_1, hi452_1⟩ := zC5 HR0.out x8_4 p452 q452
                  obtain rfl : ad445 = ad452 := (by injection e452)
                  have HR452_1 := zA1.mk hi452_1
                  have HC452_1 := zA1.mk hl452_1
                  clear hi452_1 hl452_1
                  replace p452 := eq_true p452
                  replace q452 := eq_true q452
                  have p453 : 0 ≤ (x5_2 : Int) := of_decide_eq_true (by first | (with_reducible assumption) | assumption)
                  have q453 : x5_2 < (l0.length : Int) := of_decide_eq_true (by first | (with_reducible assumption) | assumption)
                  obtain ⟨ad453, A453_1, c453_1, e453, hx453_0, hx453_1, hl453_1, hi453_1⟩ := zC5 HR0.out x5_2 p453 q453
                  obtain rfl : ad445 = ad453 := (by injection e453)
                  have HR453_1 := zA1.mk hi453_1
                  have HC453_1 := zA1.mk hl453_1
                  clear hi453_1 hl453_1
                  replace p453 := eq_true p453
                  replace q453 := eq_true q453
                  go_wp2_with (first | (go_at_call 14; (with_reducible refine (zAo.calls k4 _ _ ((zA6 l0 x8_4).f1) _ _ ((zA6 l0 x5_2).f1) false _ ?side1 ?side2 ?side3 ?side4 A27.out).mono ?_); (case side1 => repeat (first | exact HR452_1.out | (with_reducible refine Kd.zA8 ?_ _) | (with_reducible refine Kd.zAd ?_ _) | (with_reducible refine Kd.zAp ?_))); (case side2 => exact HC452_1.out); (case side3 => repeat (first | exact HR453_1.out | (with_reducible refine Kd.zA8 ?_ _) | (with_reducible refine Kd.zAd ?_ _) | (with_reducible refine Kd.zAp ?_))); (case side4 => exact HC453_1.out); rintro e w' ⟨rfl, ⟨nd, rfl⟩⟩; (try first | exact ⟨rfl, _, World.drewN_drewN _ _ _⟩ | exact ⟨rfl, _, Eq.trans (World.drewN_drewN _ _ _) (congrArg (World.drewN _) (Nat.add_assoc _ _ _))⟩)))
                  repeat (go_quiet (first | (go_at_call 14; (with_reducible refine (zAo.calls k4 _ _ ((zA6 l0 x8_4).f1) _ _ ((zA6 l0 x5_2).f1) false _ ?side1 ?side2 ?side3 ?side4 A27.out).mono ?_); (case side1 => repeat (first | exact HR452_1.out | (with_reducible refine Kd.zA8 ?_ _) | (with_reducible refine Kd.zAd ?_ _) | (with_reducible refine Kd.zAp ?_))); (case side2 => exact HC452_1.out); (case side3 => repeat (first | exact HR453_1.out | (with_reducible refine Kd.zA8 ?_ _) | (with_reducible refine Kd.zAd ?_ _) | (with_reducible refine Kd.zAp ?_))); (case side4 => exact HC453_1.out); rintro e w' ⟨rfl, ⟨nd, rfl⟩⟩; (try first | exact ⟨rfl, _, World.drewN_drewN _ _ _⟩ | exact ⟨rfl, _, Eq.trans (World.drewN_drewN _ _ _) (congrArg (World.drewN _) (Nat.add_assoc _ _ _))⟩))); try go_wp2_with (first | (go_at_call 14; (with_reducible refine (zAo.calls k4 _ _ ((zA6 l0 x8_4).f1) _ _ ((zA6 l0 x5_2).f1) false _ ?side1 ?side2 ?side3 ?side4 A27.out).mono ?_); (case side1 => repeat (first | exact HR452_1.out | (with_reducible refine Kd.zA8 ?_ _) | (with_reducible refine Kd.zAd ?_ _) | (with_reducible refine Kd.zAp ?_))); (case side2 => exact HC452_1.out); (case side3 => repeat (first | exact HR453_1.out | (with_reducible refine Kd.zA8 ?_ _) | (with_reducible refine Kd.zAd ?_ _) | (with_reducible refine Kd.zAp ?_))); (case side4 => exact HC453_1.out); rintro e w' ⟨rfl, ⟨nd, rfl⟩⟩; (try first | exact ⟨rfl, _, World.drewN_drewN _ _ _⟩ | exact ⟨rfl, _, Eq.trans (World.drewN_drewN _ _ _) (congrArg (World.drewN _) (Nat.add_assoc _ _ _))⟩))))
                  go_roundg k4
                  case measure => have := HJ2.out; have := HK2.out; have := HK3.out; have := HK4.out; omega
                  case rel => exact ⟨(wrap64 (x8_4 + 1)), (by first | rfl | (simp; done) | (simp [*]; done)), H', ⟨by have := HJ2.out; have := HK2.out; have := HK3.out; have := HK4.out; omega⟩, by repeat (first | exact zAr.refl _ | apply zAr.step)⟩
                ·rw [if_neg c22] at H
                 have c22b0 : decide (x8_4 < x5_2) = false := decide_eq_false c22
                 clear c22
                 have H' := zA1.mk H
                 clear H
                 go_wp2
                 go_loopg [9] k4 (fun kq v9 w' => ∃ (x9_5 : Int), v9 = .int .i64 x9_5 ∧ zA1 (zA5.l3 kq l0 a1 x5_2 x9_5 = some r) ∧ zA1 (kq ≤ k4) ∧ zAr w w')
                 case atStart => exact ⟨(0), (by first | rfl | (simp; done) | (simp [*]; done)), H', ⟨Nat.le_refl _⟩, by repeat (first | exact zAr.refl _ | apply zAr.step)⟩
                 case round =>
                  clear H'
                  try clear c1
                  try clear c2
                  try clear p2
                  try clear c4
                  try clear c4b0
                  try clear p4
                  try clear q4
                  try clear hx4
                  try clear c5
                  try clear c6
                  try clear c6b0
                  try clear c6b1
                  try clear p6
                  try clear c7
                  try clear c7b0
                  try clear c8
                  try clear c8b0
                  try clear c10
                  try clear c11
                  try clear c11b0
                  try clear c12
                  try clear c12b0
                  try clear c13
                  try clear c13b0
                  try clear c14
                  try clear c14b0
                  try clear c15
                  try clear c15b0
                  try clear c16
                  try clear c16b0
                  try clear c16b1
                  try clear c17
                  try clear c17b0
                  try clear c18
                  try clear c18b0
                  try clear c19
                  try clear c19b0
                  try clear c19b1
                  try clear c21
                  try clear c21b0
                  try clear c21b1
                  try clear c22
                  try clear c22b0
                  try clear c23
                  try clear c23b0
                  try clear c24
                  try clear c24b0
                  try clear c25
                  try clear c25b0
                  try clear c26
                  try clear c26b0
                  try clear c28
                  try clear hx445_0
                  try clear hx445_1
                  try clear hx447_0
                  try clear hx447_1
                  try clear hx448_0
                  try clear hx448_1
                  try clear hx449_0
                  try clear hx449_1
                  try clear hx450_0
                  try clear hx450_1
                  try clear hx452_0
                  try clear hx452_1
                  try clear hx453_0
                  try clear hx453_1
                  try clear p2
                  try clear p4
                  try clear p445
                  try clear p447
                  try clear p448
                  try clear p449
                  try clear p450
                  try clear p452
                  try clear p453
                  try clear p6
                  try clear q4
                  try clear q445
                  try clear q447
                  try clear q448
                  try clear q449
                  try clear q450
                  try clear q452
                  try clear q453
                  obtain ⟨x9_5, rfl, HA, HK5, ⟨m5, rfl⟩⟩ := hrel
                  cases gk with
                  | zero => exact absurd HA.out (by simp [zA5.l3])
                  | succ k5 =>
                   have H := HA.out
                   clear HA
                   simp only [zA5.l3] at H
                   by_cases c29 : x9_5 < x5_2
                   ·rw [if_pos c29] at H
                    have c29b0 : decide (x9_5 < x5_2) = true := decide_eq_true c29
                    clear c29
                    by_cases c30 : 0 ≤ x5_2
                    rotate_left
                    ·rw [if_neg c30] at H
                     exact absurd H (by simp)
                    rw [if_pos c30] at H
                    have c30b0 : decide (0 ≤ x5_2) = true := decide_eq_true c30
                    clear c30
                    by_cases c31 : x5_2 < (l0.length : Int)
                    rotate_left
                    ·rw [if_neg c31] at H
                     exact absurd H (by simp)
                    rw [if_pos c31] at H
                    have c31b0 : decide (x5_2 < (l0.length : Int)) = true := decide_eq_true c31
                    clear c31
                    by_cases c32 : 0 ≤ x9_5
                    rotate_left
                    ·rw [if_neg c32] at H
                     exact absurd H (by simp)
                    rw [if_pos c32] at H
                    have c32b0 : decide (0 ≤ x9_5) = true := decide_eq_true c32
                    clear c32
                    by_cases c33 : x9_5 < (l0.length : Int)
                    rotate_left
                    ·rw [if_neg c33] at H
                     exact absurd H (by simp)
                    rw [if_pos c33] at H
                    have c33b0 : decide (x9_5 < (l0.length : Int)) = true := decide_eq_true c33
                    clear c33
                    replace H := Option.bind_eq_some_iff.mp H
                    obtain ⟨t457, A340, H⟩ := H
                    replace H : (if t457 = true then (zA5.l3 k5 l0 a1 x5_2 (wrap64 (x9_5 + 1))) else ((zAe.f k5 ((zA6 l0 x5_2).f1) ((zA6 l0 x9_5).f1)).bind fun t458 => (if t458 = true then (zA5.l3 k5 l0 a1 x5_2 (wrap64 (x9_5 + 1))) else ((zAe.f k5 ((zA6 l0 x9_5).f1) ((zA6 l0 x5_2).f1)).bind fun t459 => (if t459 = true then (zA5.l3 k5 l0 a1 x5_2 (wrap64 (x9_5 + 1))) else (some 17)))))) = some r := H
                    have A34 := zA1.mk A340
                    clear A340
                    by_cases c35 : t457 = true
                    ·subst c35
                     have H1 : (zA5.l3 k5 l0 a1 x5_2 (wrap64 (x9_5 + 1))) = some r := by rw [if_pos rfl] at H; exact H
                     clear H
                     have H := H1
                     clear H1
                     have H' := zA1.mk H
                     clear H
                     have p455 : 0 ≤ (x5_2 : Int) := of_decide_eq_true (by first | (with_reducible assumption) | assumption)
                     have q455 : x5_2 < (l0.length : Int) := of_decide_eq_true (by first | (with_reducible assumption) | assumption)
                     obtain ⟨ad455, A455_1, c455_1, e455, hx455_0, hx455_1, hl455_1, hi455_1⟩ := zC5 HR0.out x5_2 p455 q455
                     obtain rfl : ad445 = ad455 := (by injection e455)
                     have HR455_1 := zA1.mk hi455_1
                     have HC455_1 := zA1.mk hl455_1
                     clear hi455_1 hl455_1
                     replace p455 := eq_true p455
                     replace q455 := eq_true q455
                     have p456 : 0 ≤ (x9_5 : Int) := of_decide_eq_true (by first | (with_reducible assumption) | assumption)
                     have q456 : x9_5 < (l0.length : Int) := of_decide_eq_true (by first | (with_reducible assumption) | assumption)
                     obtain ⟨ad456, A456_1, c456_1, e456, hx456_0, hx456_1, hl456_1, hi456_1⟩ := zC5 HR0.out x9_5 p456 q456
                     obtain rfl : ad445 = ad456 := (by injection e456)
                     have HR456_1 := zA1.mk hi456_1
                     have HC456_1 := zA1.mk hl456_1
                     clear hi456_1 hl456_1
                     replace p456 := eq_true p456
                     replace q456 := eq_true q456
                     go_wp2_with (first | (go_at_call 50; (with_reducible refine (zB0.calls k5 _ _ ((zA6 l0 x5_2).f1) _ _ ((zA6 l0 x9_5).f1) true _ ?side1 ?side2 ?side3 ?side4 A34.out).mono ?_); (case side1 => repeat (first | exact HR455_1.out | (with_reducible refine Kd.zA8 ?_ _) | (with_reducible refine Kd.zAd ?_ _) | (with_reducible refine Kd.zAp ?_))); (case side2 => exact HC455_1.out); (case side3 => repeat (first | exact HR456_1.out | (with_reducible refine Kd.zA8 ?_ _) | (with_reducible refine Kd.zAd ?_ _) | (with_reducible refine Kd.zAp ?_))); (case side4 => exact HC456_1.out); rintro e w' ⟨rfl, ⟨nd, rfl⟩⟩; (try first | exact ⟨rfl, _, World.drewN_drewN _ _ _⟩ | exact ⟨rfl, _, Eq.trans (World.drewN_drewN _ _ _) (congrArg (World.drewN _) (Nat.add_assoc _ _ _))⟩)))
                     repeat (go_quiet (first | (go_at_call 50; (with_reducible refine (zB0.calls k5 _ _ ((zA6 l0 x5_2).f1) _ _ ((zA6 l0 x9_5).f1) true _ ?side1 ?side2 ?side3 ?side4 A34.out).mono ?_); (case side1 => repeat (first | exact HR455_1.out | (with_reducible refine Kd.zA8 ?_ _) | (with_reducible refine Kd.zAd ?_ _) | (with_reducible refine Kd.zAp ?_))); (case side2 => exact HC455_1.out); (case side3 => repeat (first | exact HR456_1.out | (with_reducible refine Kd.zA8 ?_ _) | (with_reducible refine Kd.zAd ?_ _) | (with_reducible refine Kd.zAp ?_))); (case side4 => exact HC456_1.out); rintro e w' ⟨rfl, ⟨nd, rfl⟩⟩; (try first | exact ⟨rfl, _, World.drewN_drewN _ _ _⟩ | exact ⟨rfl, _, Eq.trans (World.drewN_drewN _ _ _) (congrArg (World.drewN _) (Nat.add_assoc _ _ _))⟩))); try go_wp2_with (first | (go_at_call 50; (with_reducible refine (zB0.calls k5 _ _ ((zA6 l0 x5_2).f1) _ _ ((zA6 l0 x9_5).f1) true _ ?side1 ?side2 ?side3 ?side4 A34.out).mono ?_); (case side1 => repeat (first | exact HR455_1.out | (with_reducible refine Kd.zA8 ?_ _) | (with_reducible refine Kd.zAd ?_ _) | (with_reducible refine Kd.zAp ?_))); (case side2 => exact HC455_1.out); (case side3 => repeat (first | exact HR456_1.out | (with_reducible refine Kd.zA8 ?_ _) | (with_reducible refine Kd.zAd ?_ _) | (with_reducible refine Kd.zAp ?_))); (case side4 => exact HC456_1.out); rintro e w' ⟨rfl, ⟨nd, rfl⟩⟩; (try first | exact ⟨rfl, _, World.drewN_drewN _ _ _⟩ | exact ⟨rfl, _, Eq.trans (World.drewN_drewN _ _ _) (congrArg (World.drewN _) (Nat.add_assoc _ _ _))⟩))))
                     go_roundg k5
                     case measure => have := HJ2.out; have := HK2.out; have := HK3.out; have := HK4.out; have := HK5.out; omega
                     case rel => exact ⟨(wrap64 (x9_5 + 1)), (by first | rfl | (simp; done) | (simp [*]; done)), H', ⟨by have := HJ2.out; have := HK2.out; have := HK3.out; have := HK4.out; have := HK5.out; omega⟩, by repeat (first | exact zAr.refl _ | apply zAr.step)⟩
                    ·replace c35 := Bool.eq_false_iff.mpr c35
                     subst c35
                     have H1 : ((zAe.f k5 ((zA6 l0 x5_2).f1) ((zA6 l0 x9_5).f1)).bind fun t458 => (if t458 = true then (zA5.l3 k5 l0 a1 x5_2 (wrap64 (x9_5 + 1))) else ((zAe.f k5 ((zA6 l0 x9_5).f1) ((zA6 l0 x5_2).f1)).bind fun t459 => (if t459 = true then (zA5.l3 k5 l0 a1 x5_2 (wrap64 (x9_5 + 1))) else (some 17))))) = some r := by rw [if_neg (show ¬ (false = true) by decide)] at H; exact H
                     clear H
                     have H := H1
                     clear H1
                     replace H := Option.bind_eq_some_iff.mp H
                     obtain ⟨t458, A360, H⟩ := H
                     replace H : (if t458 = true then (zA5.l3 k5 l0 a1 x5_2 (wrap64 (x9_5 + 1))) else ((zAe.f k5 ((zA6 l0 x9_5).f1) ((zA6 l0 x5_2).f1)).bind fun t459 => (if t459 = true then (zA5.l3 k5 l0 a1 x5_2 (wrap64 (x9_5 + 1))) else (some 17)))) = some r := H
                     have A36 := zA1.mk A360
                     clear A360
                     by_cases c37 : t458 = true
                     ·subst c37
                      have H1 : (zA5.l3 k5 l0 a1 x5_2 (wrap64 (x9_5 + 1))) = some r := by rw [if_pos rfl] at H; exact H
                      clear H
                      have H := H1
                      clear H1
                      have H' := zA1.mk H
                      clear H
                      have p455 : 0 ≤ (x5_2 : Int) := of_decide_eq_true (by first | (with_reducible assumption) | assumption)
                      have q455 : x5_2 < (l0.length : Int) := of_decide_eq_true (by first | (with_reducible assumption) | assumption)
                      obtain ⟨ad455, A455_1, c455_1, e455, hx455_0, hx455_1, hl455_1, hi455_1⟩ := zC5 HR0.out x5_2 p455 q455
                      obtain rfl : ad445 = ad455 := (by injection e455)
                      have HR455_1 := zA1.mk hi455_1
                      have HC455_1 := zA1.mk hl455_1
                      clear hi455_1 hl455_1
                      replace p455 := eq_true p455
                      replace q455 := eq_true q455
                      have p456 : 0 ≤ (x9_5 : Int) := of_decide_eq_true (by first | (with_reducible assumption) | assumption)
                      have q456 : x9_5 < (l0.length : Int) := of_decide_eq_true (by first | (with_reducible assumption) | assumption)
                      obtain ⟨ad456, A456_1, c456_1, e456, hx456_0, hx456_1, hl456_1, hi456_1⟩ := zC5 HR0.out x9_5 p456 q456
                      obtain rfl : ad445 = ad456 := (by injection e456)
                      have HR456_1 := zA1.mk hi456_1
                      have HC456_1 := zA1.mk hl456_1
                      clear hi456_1 hl456_1
                      replace p456 := eq_true p456
                      replace q456 := eq_true q456
                      go_wp2_with (first | (go_at_call 50; (with_reducible refine (zB0.calls k5 _ _ ((zA6 l0 x5_2).f1) _ _ ((zA6 l0 x9_5).f1) false _ ?side1 ?side2 ?side3 ?side4 A34.out).mono ?_); (case side1 => repeat (first | exact HR455_1.out | (with_reducible refine Kd.zA8 ?_ _) | (with_reducible refine Kd.zAd ?_ _) | (with_reducible refine Kd.zAp ?_))); (case side2 => exact HC455_1.out); (case side3 => repeat (first | exact HR456_1.out | (with_reducible refine Kd.zA8 ?_ _) | (with_reducible refine Kd.zAd ?_ _) | (with_reducible refine Kd.zAp ?_))); (case side4 => exact HC456_1.out); rintro e w' ⟨rfl, ⟨nd, rfl⟩⟩; (try first | exact ⟨rfl, _, World.drewN_drewN _ _ _⟩ | exact ⟨rfl, _, Eq.trans (World.drewN_drewN _ _ _) (congrArg (World.drewN _) (Nat.add_assoc _ _ _))⟩)) | (go_at_call 51; (with_reducible refine (zAe.calls k5 _ _ ((zA6 l0 x5_2).f1) _ _ ((zA6 l0 x9_5).f1) true _ ?side1 ?side2 ?side3 ?side4 A36.out).mono ?_); (case side1 => repeat (first | exact HR455_1.out | (with_reducible refine Kd.zA8 ?_ _) | (with_reducible refine Kd.zAd ?_ _) | (with_reducible refine Kd.zAp ?_))); (case side2 => exact HC455_1.out); (case side3 => repeat (first | exact HR456_1.out | (with_reducible refine Kd.zA8 ?_ _) | (with_reducible refine Kd.zAd ?_ _) | (with_reducible refine Kd.zAp ?_))); (case side4 => exact HC456_1.out); rintro e w' ⟨rfl, ⟨nd, rfl⟩⟩; (try first | exact ⟨rfl, _, World.drewN_drewN _ _ _⟩ | exact ⟨rfl, _, Eq.trans (World.drewN_drewN _ _ _) (congrArg (World.drewN _) (Nat.add_assoc _ _ _))⟩)))
                      repeat (go_quiet (first | (go_at_call 50; (with_reducible refine (zB0.calls k5 _ _ ((zA6 l0 x5_2).f1) _ _ ((zA6 l0 x9_5).f1) false _ ?side1 ?side2 ?side3 ?side4 A34.out).mono ?_); (case side1 => repeat (first | exact HR455_1.out | (with_reducible refine Kd.zA8 ?_ _) | (with_reducible refine Kd.zAd ?_ _) | (with_reducible refine Kd.zAp ?_))); (case side2 => exact HC455_1.out); (case side3 => repeat (first | exact HR456_1.out | (with_reducible refine Kd.zA8 ?_ _) | (with_reducible refine Kd.zAd ?_ _) | (with_reducible refine Kd.zAp ?_))); (case side4 => exact HC456_1.out); rintro e w' ⟨rfl, ⟨nd, rfl⟩⟩; (try first | exact ⟨rfl, _, World.drewN_drewN _ _ _⟩ | exact ⟨rfl, _, Eq.trans (World.drewN_drewN _ _ _) (congrArg (World.drewN _) (Nat.add_assoc _ _ _))⟩)) | (go_at_call 51; (with_reducible refine (zAe.calls k5 _ _ ((zA6 l0 x5_2).f1) _ _ ((zA6 l0 x9_5).f1) true _ ?side1 ?side2 ?side3 ?side4 A36.out).mono ?_); (case side1 => repeat (first | exact HR455_1.out | (with_reducible refine Kd.zA8 ?_ _) | (with_reducible refine Kd.zAd ?_ _) | (with_reducible refine Kd.zAp ?_))); (case side2 => exact HC455_1.out); (case side3 => repeat (first | exact HR456_1.out | (with_reducible refine Kd.zA8 ?_ _) | (with_reducible refine Kd.zAd ?_ _) | (with_reducible refine Kd.zAp ?_))); (case side4 => exact HC456_1.out); rintro e w' ⟨rfl, ⟨nd, rfl⟩⟩; (try first | exact ⟨rfl, _, World.drewN_drewN _ _ _⟩ | exact ⟨rfl, _, Eq.trans (World.drewN_drewN _ _ _) (congrArg (World.drewN _) (Nat.add_assoc _ _ _))⟩))); try go_wp2_with (first | (go_at_call 50; (with_reducible refine (zB0.calls k5 _ _ ((zA6 l0 x5_2).f1) _ _ ((zA6 l0 x9_5).f1) false _ ?side1 ?side2 ?side3 ?side4 A34.out).mono ?_); (case side1 => repeat (first | exact HR455_1.out | (with_reducible refine Kd.zA8 ?_ _) | (with_reducible refine Kd.zAd ?_ _) | (with_reducible refine Kd.zAp ?_))); (case side2 => exact HC455_1.out); (case side3 => repeat (first | exact HR456_1.out | (with_reducible refine Kd.zA8 ?_ _) | (with_reducible refine Kd.zAd ?_ _) | (with_reducible refine Kd.zAp ?_))); (case side4 => exact HC456_1.out); rintro e w' ⟨rfl, ⟨nd, rfl⟩⟩; (try first | exact ⟨rfl, _, World.drewN_drewN _ _ _⟩ | exact ⟨rfl, _, Eq.trans (World.drewN_drewN _ _ _) (congrArg (World.drewN _) (Nat.add_assoc _ _ _))⟩)) | (go_at_call 51; (with_reducible refine (zAe.calls k5 _ _ ((zA6 l0 x5_2).f1) _ _ ((zA6 l0 x9_5).f1) true _ ?side1 ?side2 ?side3 ?side4 A36.out).mono ?_); (case side1 => repeat (first | exact HR455_1.out | (with_reducible refine Kd.zA8 ?_ _) | (with_reducible refine Kd.zAd ?_ _) | (with_reducible refine Kd.zAp ?_))); (case side2 => exact HC455_1.out); (case side3 => repeat (first | exact HR456_1.out | (with_reducible refine Kd.zA8 ?_ _) | (with_reducible refine Kd.zAd ?_ _) | (with_reducible refine Kd.zAp ?_))); (case side4 => exact HC456_1.out); rintro e w' ⟨rfl, ⟨nd, rfl⟩⟩; (try first | exact ⟨rfl, _, World.drewN_drewN _ _ _⟩ | exact ⟨rfl, _, Eq.trans (World.drewN_drewN _ _ _) (congrArg (World.drewN _) (Nat.add_assoc _ _ _))⟩))))
                      go_roundg k5
                      case measure => have := HJ2.out; have := HK2.out; have := HK3.out; have := HK4.out; have := HK5.out; omega
                      case rel => exact ⟨(wrap64 (x9_5 + 1)), (by first | rfl | (simp; done) | (simp [*]; done)), H', ⟨by have := HJ2.out; have := HK2.out; have := HK3.out; have := HK4.out; have := HK5.out; omega⟩, by repeat (first | exact zAr.refl _ | apply zAr.step)⟩
                     ·replace c37 := Bool.eq_false_iff.mpr c37
                      subst c37
                      have H1 : ((zAe.f k5 ((zA6 l0 x9_5).f1) ((zA6 l0 x5_2).f1)).bind fun t459 => (if t459 = true then (zA5.l3 k5 l0 a1 x5_2 (wrap64 (x9_5 + 1))) else (some 17))) = some r := by rw [if_neg (show ¬ (false = true) by decide)] at H; exact H
                      clear H
                      have H := H1
                      clear H1
                      replace H := Option.bind_eq_some_iff.mp H
                      obtain ⟨t459, A380, H⟩ := H
                      replace H : (if t459 = true then (zA5.l3 k5 l0 a1 x5_2 (wrap64 (x9_5 + 1))) else (some 17)) = some r := H
                      have A38 := zA1.mk A380
                      clear A380
                      by_cases c39 : t459 = true
                      ·subst c39
                       have H1 : (zA5.l3 k5 l0 a1 x5_2 (wrap64 (x9_5 + 1))) = some r := by rw [if_pos rfl] at H; exact H
                       clear H
                       have H := H1
                       clear H1
                       have H' := zA1.mk H
                       clear H
                       have p455 : 0 ≤ (x5_2 : Int) := of_decide_eq_true (by first | (with_reducible assumption) | assumption)
                       have q455 : x5_2 < (l0.length : Int) := of_decide_eq_true (by first | (with_reducible assumption) | assumption)
                       obtain ⟨ad455, A455_1, c455_1, e455, hx455_0, hx455_1, hl455_1, hi455_1⟩ := zC5 HR0.out x5_2 p455 q455
                       obtain rfl : ad445 = ad455 := (by injection e455)
                       have HR455_1 := zA1.mk hi455_1
                       have HC455_1 := zA1.mk hl455_1
                       clear hi455_1 hl455_1
                       replace p455 := eq_true p455
                       replace q455 := eq_true q455
                       have p456 : 0 ≤ (x9_5 : Int) := of_decide_eq_true (by first | (with_reducible assumption) | assumption)
                       have q456 : x9_5 < (l0.length : Int) := of_decide_eq_true (by first | (with_reducible assumption) | assumption)
                       obtain ⟨ad456, A456_1, c456_1, e456, hx456_0, hx456_1, hl456_1, hi456_1⟩ := zC5 HR0.out x9_5 p456 q456
                       obtain rfl : ad445 = ad456 := (by injection e456)
                       have HR456_1 := zA1.mk hi456_1
                       have HC456_1 := zA1.mk hl456_1
                       clear hi456_1 hl456_1
                       replace p456 := eq_true p456
                       replace q456 := eq_true q456
                       go_wp2_with (first | (go_at_call 50; (with_reducible refine (zB0.calls k5 _ _ ((zA6 l0 x5_2).f1) _ _ ((zA6 l0 x9_5).f1) false _ ?side1 ?side2 ?side3 ?side4 A34.out).mono ?_); (case side1 => repeat (first | exact HR455_1.out | (with_reducible refine Kd.zA8 ?_ _) | (with_reducible refine Kd.zAd ?_ _) | (with_reducible refine Kd.zAp ?_))); (case side2 => exact HC455_1.out); (case side3 => repeat (first | exact HR456_1.out | (with_reducible refine Kd.zA8 ?_ _) | (with_reducible refine Kd.zAd ?_ _) | (with_reducible refine Kd.zAp ?_))); (case side4 => exact HC456_1.out); rintro e w' ⟨rfl, ⟨nd, rfl⟩⟩; (try first | exact ⟨rfl, _, World.drewN_drewN _ _ _⟩ | exact ⟨rfl, _, Eq.trans (World.drewN_drewN _ _ _) (congrArg (World.drewN _) (Nat.add_assoc _ _ _))⟩)) | (go_at_call 51; (with_reducible refine (zAe.calls k5 _ _ ((zA6 l0 x5_2).f1) _ _ ((zA6 l0 x9_5).f1) false _ ?side1 ?side2 ?side3 ?side4 A36.out).mono ?_); (case side1 => repeat (first | exact HR455_1.out | (with_reducible refine Kd.zA8 ?_ _) | (with_reducible refine Kd.zAd ?_ _) | (with_reducible refine Kd.zAp ?_))); (case side2 => exact HC455_1.out); (case side3 => repeat (first | exact HR456_1.out | (with_reducible refine Kd.zA8 ?_ _) | (with_reducible refine Kd.zAd ?_ _) | (with_reducible refine Kd.zAp ?_))); (case side4 => exact HC456_1.out); rintro e w' ⟨rfl, ⟨nd, rfl⟩⟩; (try first | exact ⟨rfl, _, World.drewN_drewN _ _ _⟩ | exact ⟨rfl, _, Eq.trans (World.drewN_drewN _ _ _) (congrArg (World.drewN _) (Nat.add_assoc _ _ _))⟩)) | (go_at_call 51; (with_reducible refine (zAe.calls k5 _ _ ((zA6 l0 x9_5).f1) _ _ ((zA6 l0 x5_2).f1) true _ ?side1 ?side2 ?side3 ?side4 A38.out).mono ?_); (case side1 => repeat (first | exact HR456_1.out | (with_reducible refine Kd.zA8 ?_ _) | (with_reducible refine Kd.zAd ?_ _) | (with_reducible refine Kd.zAp ?_))); (case side2 => exact HC456_1.out); (case side3 => repeat (first | exact HR455_1.out | (with_reducible refine Kd.zA8 ?_ _) | (with_reducible refine Kd.zAd ?_ _) | (with_reducible refine Kd.zAp ?_))); (case side4 => exact HC455_1.out); rintro e w' ⟨rfl, ⟨nd, rfl⟩⟩; (try first | exact ⟨rfl, _, World.drewN_drewN _ _ _⟩ | exact ⟨rfl, _, Eq.trans (World.drewN_drewN _ _ _) (congrArg (World.drewN _) (Nat.add_assoc _ _ _))⟩)))
                       repeat (go_quiet (first | (go_at_call 50; (with_reducible refine (zB0.calls k5 _ _ ((zA6 l0 x5_2).f1) _ _ ((zA6 l0 x9_5).f1) false _ ?side1 ?side2 ?side3 ?side4 A34.out).mono ?_); (case side1 => repeat (first | exact HR455_1.out | (with_reducible refine Kd.zA8 ?_ _) | (with_reducible refine Kd.zAd ?_ _) | (with_reducible refine Kd.zAp ?_))); (case side2 => exact HC455_1.out); (case side3 => repeat (first | exact HR456_1.out | (with_reducible refine Kd.zA8 ?_ _) | (with_reducible refine Kd.zAd ?_ _) | (with_reducible refine Kd.zAp ?_))); (case side4 => exact HC456_1.out); rintro e w' ⟨rfl, ⟨nd, rfl⟩⟩; (try first | exact ⟨rfl, _, World.drewN_drewN _ _ _⟩ | exact ⟨rfl, _, Eq.trans (World.drewN_drewN _ _ _) (congrArg (World.drewN _) (Nat.add_assoc _ _ _))⟩)) | (go_at_call 51; (with_reducible refine (zAe.calls k5 _ _ ((zA6 l0 x5_2).f1) _ _ ((zA6 l0 x9_5).f1) false _ ?side1 ?side2 ?side3 ?side4 A36.out).mono ?_); (case side1 => repeat (first | exact HR455_1.out | (with_reducible refine Kd.zA8 ?_ _) | (with_reducible refine Kd.zAd ?_ _) | (with_reducible refine Kd.zAp ?_))); (case side2 => exact HC455_1.out); (case side3 => repeat (first | exact HR456_1.out | (with_reducible refine Kd.zA8 ?_ _) | (with_reducible refine Kd.zAd ?_ _) | (with_reducible refine Kd.zAp ?_))); (case side4 => exact HC456_1.out); rintro e w' ⟨rfl, ⟨nd, rfl⟩⟩; (try first | exact ⟨rfl, _, World.drewN_drewN _ _ _⟩ | exact ⟨rfl, _, Eq.trans (World.drewN_drewN _ _ _) (congrArg (World.drewN _) (Nat.add_assoc _ _ _))⟩)) | (go_at_call 51; (with_reducible refine (zAe.calls k5 _ _ ((zA6 l0 x9_5).f1) _ _ ((zA6 l0 x5_2).f1) true _ ?side1 ?side2 ?side3 ?side4 A38.out).mono ?_); (case side1 => repeat (first | exact HR456_1.out | (with_reducible refine Kd.zA8 ?_ _) | (with_reducible refine Kd.zAd ?_ _) | (with_reducible refine Kd.zAp ?_))); (case side2 => exact HC456_1.out); (case side3 => repeat (first | exact HR455_1.out | (with_reducible refine Kd.zA8 ?_ _) | (with_reducible refine Kd.zAd ?_ _) | (with_reducible refine Kd.zAp ?_))); (case side4 => exact HC455_1.out); rintro e w' ⟨rfl, ⟨nd, rfl⟩⟩; (try first | exact ⟨rfl, _, World.drewN_drewN _ _ _⟩ | exact ⟨rfl, _, Eq.trans (World.drewN_drewN _ _ _) (congrArg (World.drewN _) (Nat.add_assoc _ _ _))⟩))); try go_wp2_with (first | (go_at_call 50; (with_reducible refine (zB0.calls k5 _ _ ((zA6 l0 x5_2).f1) _ _ ((zA6 l0 x9_5).f1) false _ ?side1 ?side2 ?side3 ?side4 A34.out).mono ?_); (case side1 => repeat (first | exact HR455_1.out | (with_reducible refine Kd.zA8 ?_ _) | (with_reducible refine Kd.zAd ?_ _) | (with_reducible refine Kd.zAp ?_))); (case side2 => exact HC455_1.out); (case side3 => repeat (first | exact HR456_1.out | (with_reducible refine Kd.zA8 ?_ _) | (with_reducible refine Kd.zAd ?_ _) | (with_reducible refine Kd.zAp ?_))); (case side4 => exact HC456_1.out); rintro e w' ⟨rfl, ⟨nd, rfl⟩⟩; (try first | exact ⟨rfl, _, World.drewN_drewN _ _ _⟩ | exact ⟨rfl, _, Eq.trans (World.drewN_drewN _ _ _) (congrArg (World.drewN _) (Nat.add_assoc _ _ _))⟩)) | (go_at_call 51; (with_reducible refine (zAe.calls k5 _ _ ((zA6 l0 x5_2).f1) _ _ ((zA6 l0 x9_5).f1) false _ ?side1 ?side2 ?side3 ?side4 A36.out).mono ?_); (case side1 => repeat (first | exact HR455_1.out | (with_reducible refine Kd.zA8 ?_ _) | (with_reducible refine Kd.zAd ?_ _) | (with_reducible refine Kd.zAp ?_))); (case side2 => exact HC455_1.out); (case side3 => repeat (first | exact HR456_1.out | (with_reducible refine Kd.zA8 ?_ _) | (with_reducible refine Kd.zAd ?_ _) | (with_reducible refine Kd.zAp ?_))); (case side4 => exact HC456_1.out); rintro e w' ⟨rfl, ⟨nd, rfl⟩⟩; (try first | exact ⟨rfl, _, World.drewN_drewN _ _ _⟩ | exact ⟨rfl, _, Eq.trans (World.drewN_drewN _ _ _) (congrArg (World.drewN _) (Nat.add_assoc _ _ _))⟩)) | (go_at_call 51; (with_reducible refine (zAe.calls k5 _ _ ((zA6 l0 x9_5).f1) _ _ ((zA6 l0 x5_2).f1) true _ ?side1 ?side2 ?side3 ?side4 A38.out).mono ?_); (case side1 => repeat (first | exact HR456_1.out | (with_reducible refine Kd.zA8 ?_ _) | (with_reducible refine Kd.zAd ?_ _) | (with_reducible refine Kd.zAp ?_))); (case side2 => exact HC456_1.out); (case side3 => repeat (first | exact HR455_1.out | (with_reducible refine Kd.zA8 ?_ _) | (with_reducible refine Kd.zAd ?_ _) | (with_reducible refine Kd.zAp ?_))); (case side4 => exact HC455_1.out); rintro e w' ⟨rfl, ⟨nd, rfl⟩⟩; (try first | exact ⟨rfl, _, World.drewN_drewN _ _ _⟩ | exact ⟨rfl, _, Eq.trans (World.drewN_drewN _ _ _) (congrArg (World.drewN _) (Nat.add_assoc _ _ _))⟩))))
                       go_roundg k5
                       case measure => have := HJ2.out; have := HK2.out; have := HK3.out; have := HK4.out; have := HK5.out; omega
                       case rel => exact ⟨(wrap64 (x9_5 + 1)), (by first | rfl | (simp; done) | (simp [*]; done)), H', ⟨by have := HJ2.out; have := HK2.out; have := HK3.out; have := HK4.out; have := HK5.out; omega⟩, by repeat (first | exact zAr.refl _ | apply zAr.step)⟩
                      ·replace c39 := Bool.eq_false_iff.mpr c39
                       subst c39
                       have H1 : (some 17) = some r := by rw [if_neg (show ¬ (false = true) by decide)] at H; exact H
                       clear H
                       have H := H1
                       clear H1
                       obtain rfl := Option.some.inj H
                       have p455 : 0 ≤ (x5_2 : Int) := of_decide_eq_true (by first | (with_reducible assumption) | assumption)
                       have q455 : x5_2 < (l0.length : Int) := of_decide_eq_true (by first | (with_reducible assumption) | assumption)
                       obtain ⟨ad455, A455_1, c455_1, e455, hx455_0, hx455_1, hl455_1, hi455_1⟩ := zC5 HR0.out x5_2 p455 q455
                       obtain rfl : ad445 = ad455 := (by injection e455)
                       have HR455_1 := zA1.mk hi455_1
                       have HC455_1 := zA1.mk hl455_1
                       clear hi455_1 hl455_1
                       replace p455 := eq_true p455
                       replace q455 := eq_true q455
                       have p456 : 0 ≤ (x9_5 : Int) := of_decide_eq_true (by first | (with_reducible assumption) | assumption)
                       have q456 : x9_5 < (l0.length : Int) := of_decide_eq_true (by first | (with_reducible assumption) | assumption)
                       obtain ⟨ad456, A456_1, c456_1, e456, hx456_0, hx456_1, hl456_1, hi456_1⟩ := zC5 HR0.out x9_5 p456 q456
                       obtain rfl : ad445 = ad456 := (by injection e456)
                       have HR456_1 := zA1.mk hi456_1
                       have HC456_1 := zA1.mk hl456_1
                       clear hi456_1 hl456_1
                       replace p456 := eq_true p456
                       replace q456 := eq_true q456
                       go_wp2_with (first | (go_at_call 50; (with_reducible refine (zB0.calls k5 _ _ ((zA6 l0 x5_2).f1) _ _ ((zA6 l0 x9_5).f1) false _ ?side1 ?side2 ?side3 ?side4 A34.out).mono ?_); (case side1 => repeat (first | exact HR455_1.out | (with_reducible refine Kd.zA8 ?_ _) | (with_reducible refine Kd.zAd ?_ _) | (with_reducible refine Kd.zAp ?_))); (case side2 => exact HC455_1.out); (case side3 => repeat (first | exact HR456_1.out | (with_reducible refine Kd.zA8 ?_ _) | (with_reducible refine Kd.zAd ?_ _) | (with_reducible refine Kd.zAp ?_))); (case side4 => exact HC456_1.out); rintro e w' ⟨rfl, ⟨nd, rfl⟩⟩; (try first | exact ⟨rfl, _, World.drewN_drewN _ _ _⟩ | exact ⟨rfl, _, Eq.trans (World.drewN_drewN _ _ _) (congrArg (World.drewN _) (Nat.add_assoc _ _ _))⟩)) | (go_at_call 51; (with_reducible refine (zAe.calls k5 _ _ ((zA6 l0 x5_2).f1) _ _ ((zA6 l0 x9_5).f1) false _ ?side1 ?side2 ?side3 ?side4 A36.out).mono ?_); (case side1 => repeat (first | exact HR455_1.out | (with_reducible refine Kd.zA8 ?_ _) | (with_reducible refine Kd.zAd ?_ _) | (with_reducible refine Kd.zAp ?_))); (case side2 => exact HC455_1.out); (case side3 => repeat (first | exact HR456_1.out | (with_reducible refine Kd.zA8 ?_ _) | (with_reducible refine Kd.zAd ?_ _) | (with_reducible refine Kd.zAp ?_))); (case side4 => exact HC456_1.out); rintro e w' ⟨rfl, ⟨nd, rfl⟩⟩; (try first | exact ⟨rfl, _, World.drewN_drewN _ _ _⟩ | exact ⟨rfl, _, Eq.trans (World.drewN_drewN _ _ _) (congrArg (World.drewN _) (Nat.add_assoc _ _ _))⟩)) | (go_at_call 51; (with_reducible refine (zAe.calls k5 _ _ ((zA6 l0 x9_5).f1) _ _ ((zA6 l0 x5_2).f1) false _ ?side1 ?side2 ?side3 ?side4 A38.out).mono ?_); (case side1 => repeat (first | exact HR456_1.out | (with_reducible refine Kd.zA8 ?_ _) | (with_reducible refine Kd.zAd ?_ _) | (with_reducible refine Kd.zAp ?_))); (case side2 => exact HC456_1.out); (case side3 => repeat (first | exact HR455_1.out | (with_reducible refine Kd.zA8 ?_ _) | (with_reducible refine Kd.zAd ?_ _) | (with_reducible refine Kd.zAp ?_))); (case side4 => exact HC455_1.out); rintro e w' ⟨rfl, ⟨nd, rfl⟩⟩; (try first | exact ⟨rfl, _, World.drewN_drewN _ _ _⟩ | exact ⟨rfl, _, Eq.trans (World.drewN_drewN _ _ _) (congrArg (World.drewN _) (Nat.add_assoc _ _ _))⟩)))
                       repeat (go_quiet (first | (go_at_call 50; (with_reducible refine (zB0.calls k5 _ _ ((zA6 l0 x5_2).f1) _ _ ((zA6 l0 x9_5).f1) false _ ?side1 ?side2 ?side3 ?side4 A34.out).mono ?_); (case side1 => repeat (first | exact HR455_1.out | (with_reducible refine Kd.zA8 ?_ _) | (with_reducible refine Kd.zAd ?_ _) | (with_reducible refine Kd.zAp ?_))); (case side2 => exact HC455_1.out); (case side3 => repeat (first | exact HR456_1.out | (with_reducible refine Kd.zA8 ?_ _) | (with_reducible refine Kd.zAd ?_ _) | (with_reducible refine Kd.zAp ?_))); (case side4 => exact HC456_1.out); rintro e w' ⟨rfl, ⟨nd, rfl⟩⟩; (try first | exact ⟨rfl, _, World.drewN_drewN _ _ _⟩ | exact ⟨rfl, _, Eq.trans (World.drewN_drewN _ _ _) (congrArg (World.drewN _) (Nat.add_assoc _ _ _))⟩)) | (go_at_call 51; (with_reducible refine (zAe.calls k5 _ _ ((zA6 l0 x5_2).f1) _ _ ((zA6 l0 x9_5).f1) false _ ?side1 ?side2 ?side3 ?side4 A36.out).mono ?_); (case side1 => repeat (first | exact HR455_1.out | (with_reducible refine Kd.zA8 ?_ _) | (with_reducible refine Kd.zAd ?_ _) | (with_reducible refine Kd.zAp ?_))); (case side2 => exact HC455_1.out); (case side3 => repeat (first | exact HR456_1.out | (with_reducible refine Kd.zA8 ?_ _) | (with_reducible refine Kd.zAd ?_ _) | (with_reducible refine Kd.zAp ?_))); (case side4 => exact HC456_1.out); rintro e w' ⟨rfl, ⟨nd, rfl⟩⟩; (try first | exact ⟨rfl, _, World.drewN_drewN _ _ _⟩ | exact ⟨rfl, _, Eq.trans (World.drewN_drewN _ _ _) (congrArg (World.drewN _) (Nat.add_assoc _ _ _))⟩)) | (go_at_call 51; (with_reducible refine (zAe.calls k5 _ _ ((zA6 l0 x9_5).f1) _ _ ((zA6 l0 x5_2).f1) false _ ?side1 ?side2 ?side3 ?side4 A38.out).mono ?_); (case side1 => repeat (first | exact HR456_1.out | (with_reducible refine Kd.zA8 ?_ _) | (with_reducible refine Kd.zAd ?_ _) | (with_reducible refine Kd.zAp ?_))); (case side2 => exact HC456_1.out); (case side3 => repeat (first | exact HR455_1.out | (with_reducible refine Kd.zA8 ?_ _) | (with_reducible refine Kd.zAd ?_ _) | (with_reducible refine Kd.zAp ?_))); (case side4 => exact HC455_1.out); rintro e w' ⟨rfl, ⟨nd, rfl⟩⟩; (try first | exact ⟨rfl, _, World.drewN_drewN _ _ _⟩ | exact ⟨rfl, _, Eq.trans (World.drewN_drewN _ _ _) (congrArg (World.drewN _) (Nat.add_assoc _ _ _))⟩))); try go_wp2_with (first | (go_at_call 50; (with_reducible refine (zB0.calls k5 _ _ ((zA6 l0 x5_2).f1) _ _ ((zA6 l0 x9_5).f1) false _ ?side1 ?side2 ?side3 ?side4 A34.out).mono ?_); (case side1 => repeat (first | exact HR455_1.out | (with_reducible refine Kd.zA8 ?_ _) | (with_reducible refine Kd.zAd ?_ _) | (with_reducible refine Kd.zAp ?_))); (case side2 => exact HC455_1.out); (case side3 => repeat (first | exact HR456_1.out | (with_reducible refine Kd.zA8 ?_ _) | (with_reducible refine Kd.zAd ?_ _) | (with_reducible refine Kd.zAp ?_))); (case side4 => exact HC456_1.out); rintro e w' ⟨rfl, ⟨nd, rfl⟩⟩; (try first | exact ⟨rfl, _, World.drewN_drewN _ _ _⟩ | exact ⟨rfl, _, Eq.trans (World.drewN_drewN _ _ _) (congrArg (World.drewN _) (Nat.add_assoc _ _ _))⟩)) | (go_at_call 51; (with_reducible refine (zAe.calls k5 _ _ ((zA6 l0 x5_2).f1) _ _ ((zA6 l0 x9_5).f1) false _ ?side1 ?side2 ?side3 ?side4 A36.out).mono ?_); (case side1 => repeat (first | exact HR455_1.out | (with_reducible refine Kd.zA8 ?_ _) | (with_reducible refine Kd.zAd ?_ _) | (with_reducible refine Kd.zAp ?_))); (case side2 => exact HC455_1.out); (case side3 => repeat (first | exact HR456_1.out | (with_reducible refine Kd.zA8 ?_ _) | (with_reducible refine Kd.zAd ?_ _) | (with_reducible refine Kd.zAp ?_))); (case side4 => exact HC456_1.out); rintro e w' ⟨rfl, ⟨nd, rfl⟩⟩; (try first | exact ⟨rfl, _, World.drewN_drewN _ _ _⟩ | exact ⟨rfl, _, Eq.trans (World.drewN_drewN _ _ _) (congrArg (World.drewN _) (Nat.add_assoc _ _ _))⟩)) | (go_at_call 51; (with_reducible refine (zAe.calls k5 _ _ ((zA6 l0 x9_5).f1) _ _ ((zA6 l0 x5_2).f1) false _ ?side1 ?side2 ?side3 ?side4 A38.out).mono ?_); (case side1 => repeat (first | exact HR456_1.out | (with_reducible refine Kd.zA8 ?_ _) | (with_reducible refine Kd.zAd ?_ _) | (with_reducible refine Kd.zAp ?_))); (case side2 => exact HC456_1.out); (case side3 => repeat (first | exact HR455_1.out | (with_reducible refine Kd.zA8 ?_ _) | (with_reducible refine Kd.zAd ?_ _) | (with_reducible refine Kd.zAp ?_))); (case side4 => exact HC455_1.out); rintro e w' ⟨rfl, ⟨nd, rfl⟩⟩; (try first | exact ⟨rfl, _, World.drewN_drewN _ _ _⟩ | exact ⟨rfl, _, Eq.trans (World.drewN_drewN _ _ _) (congrArg (World.drewN _) (Nat.add_assoc _ _ _))⟩))))
                       go_ret
                       exact ⟨by first | rfl | (simp; done) | (simp [*]; done), by repeat (first | exact zAr.refl _ | apply zAr.step)⟩
                   ·rw [if_neg c29] at H
                    have c29b0 : decide (x9_5 < x5_2) = false := decide_eq_false c29
                    clear c29
                    have H' := zA1.mk H
                    clear H
                    go_wp2
                    go_roundg k5
                    case measure => have := HJ2.out; have := HK2.out; have := HK3.out; have := HK4.out; have := HK5.out; omega
                    case rel => exact ⟨(wrap64 (x5_2 + 1)), (by first | rfl | (simp; done) | (simp [*]; done)), H', ⟨by have := HJ2.out; have := HK2.out; have := HK3.out; have := HK4.out; have := HK5.out; omega⟩, by repeat (first | exact zAr.refl _ | apply zAr.step)⟩
             ·rw [if_neg c21] at H
              have c21b0 : (t451 == 0) = false := beq_eq_false_iff_ne.mpr c21
              have c21b1 : (t451 != 0) = true := bne_iff_ne.mpr c21
              obtain rfl := Option.some.inj H
              have p449 : 0 ≤ (x5_2 : Int) := of_decide_eq_true (by first | (with_reducible assumption) | assumption)
              have q449 : x5_2 < (l0.length : Int) := of_decide_eq_true (by first | (with_reducible assumption) | assumption)
              obtain ⟨ad449, A449_1, c449_1, e449, hx449_0, hx449_1, hl449_1, hi449_1⟩ := zC5 HR0.out x5_2 p449 q449
              obtain rfl : ad445 = ad449 := (by injection e449)
              have HR449_1 := zA1.mk hi449_1
              have HC449_1 := zA1.mk hl449_1
              clear hi449_1 hl449_1
              replace p449 := eq_true p449
              replace q449 := eq_true q449
              have p450 : 0 ≤ (x5_2 : Int) := of_decide_eq_true (by first | (with_reducible assumption) | assumption)
              have q450 : x5_2 < (l0.length : Int) := of_decide_eq_true (by first | (with_reducible assumption) | assumption)
              obtain ⟨ad450, A450_1, c450_1, e450, hx450_0, hx450_1, hl450_1, hi450_1⟩ := zC5 HR0.out x5_2 p450 q450
              obtain rfl : ad445 = ad450 := (by injection e450)
              have HR450_1 := zA1.mk hi450_1
              have HC450_1 := zA1.mk hl450_1
              clear hi450_1 hl450_1
              replace p450 := eq_true p450
              replace q450 := eq_true q450
              have ea_ := Option.some.inj (hx449_1.symm.trans hx450_1)
              injection ea_ with ea_ en_ ec_
              subst ea_
              subst ec_
              clear en_
              go_wp2_with (first | (go_at_call 49; (with_reducible refine (zAi.calls k3 _ _ ((zA6 l0 x5_2).f1) a1 t451 _ ?side1 ?side2 A20.out).mono ?_); (case side1 => repeat (first | exact HR450_1.out | (with_reducible refine Kd.zA8 ?_ _) | (with_reducible refine Kd.zAd ?_ _) | (with_reducible refine Kd.zAp ?_))); (case side2 => exact HC450_1.out); rintro e w' ⟨rfl, ⟨nd, rfl⟩⟩; (try first | exact ⟨rfl, _, World.drewN_drewN _ _ _⟩ | exact ⟨rfl, _, Eq.trans (World.drewN_drewN _ _ _) (congrArg (World.drewN _) (Nat.add_assoc _ _ _))⟩)))
              go_ret
              exact ⟨by first | rfl | (simp; done) | (simp [*]; done), by repeat (first | exact zAr.refl _ | apply zAr.step)⟩
        ·replace c10 := Bool.eq_false_iff.mpr c10
         subst c10
         have H1 : (some 11) = some r := by rw [if_neg (show ¬ (false = true) by decide)] at H; exact H
         clear H
         have H := H1
         clear H1
         obtain rfl := Option.some.inj H
         have p445 : 0 ≤ (x5_2 : Int) := of_decide_eq_true (by first | (with_reducible assumption) | assumption)
         have q445 : x5_2 < (l0.length : Int) := of_decide_eq_true (by first | (with_reducible assumption) | assumption)
         obtain ⟨ad445, A445_1, c445_1, e445, hx445_0, hx445_1, hl445_1, hi445_1⟩ := zC5 HR0.out x5_2 p445 q445
         cases e445
         have HR445_1 := zA1.mk hi445_1
         have HC445_1 := zA1.mk hl445_1
         clear hi445_1 hl445_1
         replace p445 := eq_true p445
         replace q445 := eq_true q445
         go_wp2_with (first | (go_at_call 48; (with_reducible refine (zBg.calls k2 ((zA6 l0 x5_2).f0) false _ A9.out).mono ?_); rintro e w' ⟨rfl, ⟨nd, rfl⟩⟩; (try first | exact ⟨rfl, _, World.drewN_drewN _ _ _⟩ | exact ⟨rfl, _, Eq.trans (World.drewN_drewN _ _ _) (congrArg (World.drewN _) (Nat.add_assoc _ _ _))⟩)))
         go_ret
         exact ⟨by first | rfl | (simp; done) | (simp [*]; done), by repeat (first | exact zAr.refl _ | apply zAr.step)⟩
       ·rw [if_neg c7] at H
        have c7b0 : decide (x5_2 < (l0.length : Int)) = false := decide_eq_false c7
        clear c7
        obtain rfl := Option.some.inj H
        go_wp2
        go_ret
        exact ⟨by first | rfl | (simp; done) | (simp [*]; done), by repeat (first | exact zAr.refl _ | apply zAr.step)⟩
end
end Go.Proofs.YtbghfbhlbfcloaaDoor.PL
namespace Go.Proofs.YtbghfbhlbfcloaaDoor.PL
section
open Go.RowKit Go.Proofs.YtbghfbhlbfcloaaDoorW.PrintWords Go.Proofs.YtbghfbhlbfcloaaDoorW.PrintLast Go.Proofs.YtbghfbhlbfcloaaDoorW.PrintMore
attribute [local go_sem] zBw zBu zC7 zC6 zBo zBn zBv zBt   -- for this text's walks alone
set_option linter.unusedVariables false
set_option linter.unusedSimpArgs false
mutual
def zB3.l0 : Nat → List (S57) → Int → Option (Bool)
 | 0, _, _ => none
 | k + 1, x0, x3 => if x3 < (x0.length : Int) then (zB3.j1 k x0 x3 (decide (x3 < 9))) else (zB3.j1 k x0 x3 false)
def zB3.j1 : Nat → List (S57) → Int → Bool → Option (Bool)
 | 0, _, _, _ => none
 | k + 1, x0, x3, x11 => if x11 = true then (if 0 ≤ x3 then (if x3 < (x0.length : Int) then (if (((zA6 x0 x3).f1).length : Int) > 10 then (some false) else (if (((zA6 x0 x3).f0).size : Int) > 50 then (some false) else (zB3.l0 k x0 (wrap64 (x3 + 1))))) else (none)) else (none)) else (some (decide ((x0.length : Int) ≤ 8)))
end
def zB3.f (k : Nat) (l0 : List (S57)) : Option (Bool) := zB3.l0 k l0 0
theorem zB3.zBq : ∀ k, (∀ y0 y1, LeO (zB3.l0 k y0 y1) (zB3.l0 (k + 1) y0 y1)) ∧ (∀ y0 y1 y2, LeO (zB3.j1 k y0 y1 y2) (zB3.j1 (k + 1) y0 y1 y2))
 | 0 => ⟨fun _ _ r h => by simp [zB3.l0] at h, fun _ _ _ r h => by simp [zB3.j1] at h⟩
 | k + 1 => by
  obtain ⟨ih0, ih1⟩ := zB3.zBq k
  refine ⟨?_, ?_⟩
  ·intro y0 y1
   unfold zB3.l0
   repeat' first
   | (with_reducible exact ih0 _ _)
   | (with_reducible exact ih1 _ _ _)
   | (with_reducible exact LeO.refl _)
   | (with_reducible exact LeO.none _)
   | (with_reducible refine LeO.ite ?_ ?_)
   | (with_reducible refine LeO.bind ?_ (fun _ => ?_))
  ·intro y0 y1 y2
   unfold zB3.j1
   repeat' first
   | (with_reducible exact ih0 _ _)
   | (with_reducible exact ih1 _ _ _)
   | (with_reducible exact LeO.refl _)
   | (with_reducible exact LeO.none _)
   | (with_reducible refine LeO.ite ?_ ?_)
   | (with_reducible refine LeO.bind ?_ (fun _ => ?_))
theorem zB3.mono : ∀ a0 k, LeO (zB3.f k a0) (zB3.f (k + 1) a0) := by
 intro a0 k
 obtain ⟨ih0, ih1⟩ := zB3.zBq k
 unfold zB3.f
 repeat' first
   | (with_reducible exact ih0 _ _)
   | (with_reducible exact ih1 _ _ _)
   | (with_reducible exact LeO.refl _)
   | (with_reducible exact LeO.none _)
   | (with_reducible refine LeO.ite ?_ ?_)
   | (with_reducible refine LeO.bind ?_ (fun _ => ?_))
set_option maxHeartbeats 8000000 in
set_option maxRecDepth 100000 in
theorem zB3.calls (k : Nat) (A0 : Option Addr) (c0 : Nat) (l0 : List (S57)) (r : Bool) (w : World) (hr0 : Kd.C k57 w A0 l0.length l0) (hc0 : l0.length ≤ c0) (h : zB3.f k l0 = some r) :
  Calls Tryd.prog 23 #[.slice A0 l0.length c0] w fun e w' => e = .returned (.bool r) ∧ zAr w w' := by
 have HR0 := zA1.mk hr0
 have HC0 := zA1.mk hc0
 clear hr0 hc0
 have H : (zB3.l0 k l0 0) = some r := h
 clear h
 have H' := zA1.mk H
 clear H
 go_enter Tryd.func23, Tryd.ntmps23
 go_wp2
 go_loopg [3] k (fun kq v3 w' => ∃ (x3_1 : Int), v3 = .int .i64 x3_1 ∧ zA1 (zB3.l0 kq l0 x3_1 = some r) ∧ zA1 (kq ≤ k) ∧ zAr w w')
 case atStart => exact ⟨(0), (by first | rfl | (simp; done) | (simp [*]; done)), H', ⟨Nat.le_refl _⟩, by repeat (first | exact zAr.refl _ | apply zAr.step)⟩
 case round =>
  clear H'
  obtain ⟨x3_1, rfl, HA, HK1, ⟨m1, rfl⟩⟩ := hrel
  cases gk with
  | zero => exact absurd HA.out (by simp [zB3.l0])
  | succ k1 =>
   have H := HA.out
   clear HA
   simp only [zB3.l0] at H
   have HC2 := zA1.mk H
   clear H
   go_upto_region 2 with (fail)
   go_cut [11] (fun v11 wc => ∃ (kq : Nat) (x11_1 : Bool), v11 = .bool x11_1 ∧ zA1 (zB3.j1 kq l0 x3_1 x11_1 = some r) ∧ zA1 (kq ≤ k1) ∧ zAr w wc)
   case first =>
    have H := HC2.out
    clear HC2
    by_cases c3 : x3_1 < (l0.length : Int)
    ·rw [if_pos c3] at H
     have c3b0 : decide (x3_1 < (l0.length : Int)) = true := decide_eq_true c3
     clear c3
     (first | rw [c3b0] | (simp only [i64_w, i32_w]; rw [c3b0]) | skip)
     have H' := zA1.mk H
     clear H
     go_wp2
     go_meet
     case rel => exact ⟨_, (decide (x3_1 < 9)), (by first | rfl | (simp; done) | (simp [*]; done)), H', ⟨by have := HK1.out; first | omega | exact Nat.le_refl _⟩, by repeat (first | exact zAr.refl _ | apply zAr.step)⟩
    ·rw [if_neg c3] at H
     have c3b0 : decide (x3_1 < (l0.length : Int)) = false := decide_eq_false c3
     clear c3
     (first | rw [c3b0] | (simp only [i64_w, i32_w]; rw [c3b0]) | skip)
     have H' := zA1.mk H
     clear H
     go_wp2
     go_meet
     case rel => exact ⟨_, (false), (by first | rfl | (simp; done) | (simp [*]; done)), H', ⟨by have := HK1.out; first | omega | exact Nat.le_refl _⟩, by repeat (first | exact zAr.refl _ | apply zAr.step)⟩
   case rest =>
    clear HC2
    try clear c2
    try clear p2
    try clear c3
    try clear c3b0
    obtain ⟨kq, x11_1, rfl, HA, HJ1, ⟨mc1, rfl⟩⟩ := hcut
    cases kq with
    | zero => exact absurd HA.out (by simp [zB3.j1])
    | succ kj1 =>
     have H := HA.out
     clear HA
     simp only [zB3.j1] at H
     by_cases c4 : x11_1 = true
     ·subst c4
      have H1 : (if 0 ≤ x3_1 then (if x3_1 < (l0.length : Int) then (if (((zA6 l0 x3_1).f1).length : Int) > 10 then (some false) else (if (((zA6 l0 x3_1).f0).size : Int) > 50 then (some false) else (zB3.l0 kj1 l0 (wrap64 (x3_1 + 1))))) else (none)) else (none)) = some r := by rw [if_pos rfl] at H; exact H
      clear H
      have H := H1
      clear H1
      by_cases c5 : 0 ≤ x3_1
      rotate_left
      ·rw [if_neg c5] at H
       exact absurd H (by simp)
      rw [if_pos c5] at H
      have c5b0 : decide (0 ≤ x3_1) = true := decide_eq_true c5
      clear c5
      by_cases c6 : x3_1 < (l0.length : Int)
      rotate_left
      ·rw [if_neg c6] at H
       exact absurd H (by simp)
      rw [if_pos c6] at H
      have c6b0 : decide (x3_1 < (l0.length : Int)) = true := decide_eq_true c6
      clear c6
      by_cases c7 : (((zA6 l0 x3_1).f1).length : Int) > 10
      ·rw [if_pos c7] at H
       have c7b0 : decide (10 < (((zA6 l0 x3_1).f1).length : Int)) = true := decide_eq_true c7
       have c7b1 : decide (10 < ((zA6 l0 x3_1).f1).length) = true := decide_eq_true (by omega)
       clear c7
       obtain rfl := Option.some.inj H
       have p420 : 0 ≤ (x3_1 : Int) := of_decide_eq_true (by first | (with_reducible assumption) | assumption)
       have q420 : x3_1 < (l0.length : Int) := of_decide_eq_true (by first | (with_reducible assumption) | assumption)
       obtain ⟨ad420, A420_1, c420_1, e420, hx420_0, hx420_1, hl420_1, hi420_1⟩ := zC5 HR0.out x3_1 p420 q420
       cases e420
       have HR420_1 := zA1.mk hi420_1
       have HC420_1 := zA1.mk hl420_1
       clear hi420_1 hl420_1
       replace p420 := eq_true p420
       replace q420 := eq_true q420
       go_wp2
       go_ret
       exact ⟨by first | rfl | (simp; done) | (simp [*]; done), by repeat (first | exact zAr.refl _ | apply zAr.step)⟩
      ·rw [if_neg c7] at H
       have c7b0 : decide (10 < (((zA6 l0 x3_1).f1).length : Int)) = false := decide_eq_false c7
       have c7b1 : decide (10 < ((zA6 l0 x3_1).f1).length) = false := decide_eq_false (by omega)
       clear c7
       by_cases c8 : (((zA6 l0 x3_1).f0).size : Int) > 50
       ·rw [if_pos c8] at H
        have c8b0 : decide (50 < (((zA6 l0 x3_1).f0).size : Int)) = true := decide_eq_true c8
        have c8b1 : decide (50 < ((zA6 l0 x3_1).f0).size) = true := decide_eq_true (by omega)
        clear c8
        obtain rfl := Option.some.inj H
        have p420 : 0 ≤ (x3_1 : Int) := of_decide_eq_true (by first | (with_reducible assumption) | assumption)
        have q420 : x3_1 < (l0.length : Int) := of_decide_eq_true (by first | (with_reducible assumption) | assumption)
        obtain ⟨ad420, A420_1, c420_1, e420, hx420_0, hx420_1, hl420_1, hi420_1⟩ := zC5 HR0.out x3_1 p420 q420
        cases e420
        have HR420_1 := zA1.mk hi420_1
        have HC420_1 := zA1.mk hl420_1
        clear hi420_1 hl420_1
        replace p420 := eq_true p420
        replace q420 := eq_true q420
        have p421 : 0 ≤ (x3_1 : Int) := of_decide_eq_true (by first | (with_reducible assumption) | assumption)
        have q421 : x3_1 < (l0.length : Int) := of_decide_eq_true (by first | (with_reducible assumption) | assumption)
        obtain ⟨ad421, A421_1, c421_1, e421, hx421_0, hx421_1, hl421_1, hi421_1⟩ := zC5 HR0.out x3_1 p421 q421
        obtain rfl : ad420 = ad421 := (by injection e421)
        have HR421_1 := zA1.mk hi421_1
        have HC421_1 := zA1.mk hl421_1
        clear hi421_1 hl421_1
        replace p421 := eq_true p421
        replace q421 := eq_true q421
        have ea_ := Option.some.inj (hx420_1.symm.trans hx421_1)
        injection ea_ with ea_ en_ ec_
        subst ea_
        subst ec_
        clear en_
        go_wp2
        go_ret
        exact ⟨by first | rfl | (simp; done) | (simp [*]; done), by repeat (first | exact zAr.refl _ | apply zAr.step)⟩
       ·rw [if_neg c8] at H
        have c8b0 : decide (50 < (((zA6 l0 x3_1).f0).size : Int)) = false := decide_eq_false c8
        have c8b1 : decide (50 < ((zA6 l0 x3_1).f0).size) = false := decide_eq_false (by omega)
        clear c8
        have H' := zA1.mk H
        clear H
        have p420 : 0 ≤ (x3_1 : Int) := of_decide_eq_true (by first | (with_reducible assumption) | assumption)
        have q420 : x3_1 < (l0.length : Int) := of_decide_eq_true (by first | (with_reducible assumption) | assumption)
        obtain ⟨ad420, A420_1, c420_1, e420, hx420_0, hx420_1, hl420_1, hi420_1⟩ := zC5 HR0.out x3_1 p420 q420
        cases e420
        have HR420_1 := zA1.mk hi420_1
        have HC420_1 := zA1.mk hl420_1
        clear hi420_1 hl420_1
        replace p420 := eq_true p420
        replace q420 := eq_true q420
        have p421 : 0 ≤ (x3_1 : Int) := of_decide_eq_true (by first | (with_reducible assumption) | assumption)
        have q421 : x3_1 < (l0.length : Int) := of_decide_eq_true (by first | (with_reducible assumption) | assumption)
        obtain ⟨ad421, A421_1, c421_1, e421, hx421_0, hx421_1, hl421_1, hi421_1⟩ := zC5 HR0.out x3_1 p421 q421
        obtain rfl : ad420 = ad421 := (by injection e421)
        have HR421_1 := zA1.mk hi421_1
        have HC421_1 := zA1.mk hl421_1
        clear hi421_1 hl421_1
        replace p421 := eq_true p421
        replace q421 := eq_true q421
        have ea_ := Option.some.inj (hx420_1.symm.trans hx421_1)
        injection ea_ with ea_ en_ ec_
        subst ea_
        subst ec_
        clear en_
        go_wp2
        go_roundg kj1
        case measure => have := HK1.out; have := HJ1.out; omega
        case rel => exact ⟨(wrap64 (x3_1 + 1)), (by first | rfl | (simp; done) | (simp [*]; done)), H', ⟨by have := HK1.out; have := HJ1.out; omega⟩, by repeat (first | exact zAr.refl _ | apply zAr.step)⟩
     ·replace c4 := Bool.eq_false_iff.mpr c4
      subst c4
      have H1 : (some (decide ((l0.length : Int) ≤ 8))) = some r := by rw [if_neg (show ¬ (false = true) by decide)] at H; exact H
      clear H
      have H := H1
      clear H1
      obtain rfl := Option.some.inj H
      go_wp2
      go_ret
      exact ⟨by first | rfl | (simp; done) | (simp [*]; done), by repeat (first | exact zAr.refl _ | apply zAr.step)⟩
end
end Go.Proofs.YtbghfbhlbfcloaaDoor.PL
