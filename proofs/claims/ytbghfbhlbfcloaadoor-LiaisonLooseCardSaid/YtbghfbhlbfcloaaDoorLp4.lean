/- Put together by this session's program pack.py. -/
import Derived.Below
import Derived.Deep.Draws
import Derived.Deep.AppendLies
import Derived.Maps.AppendAt
import Derived.OwnWalk
import Derived.Laws.BytesArg
import Derived.Laws.MakeOwn
import Derived.Laws.OwnMore
import Derived.Deep.OwnRows
import Derived.Tactics
import Derived.Lib.ConvBytes
import Derived.Laws.Slices
import Derived.WalkKit
import Derived.KernelRfl
import Derived.RowKit3
import Derived.Deep.LoopGhost
import Derived.Deep.QuietTactic
import Derived.BigQuiet
import Derived.WideLaws
import Derived.Deep.DeepCutAuto
import Derived.Deep.CutBlock
import Derived.Deep.RegionHeld3
import Derived.Laws.Rows
import Derived.Lib.AppendStr
import Derived.ArgAppend
import Derived.Laws.IdiomCopy
import Derived.OrdersHeld
import Derived.Laws.BitsLemmas
import Derived.RowKit
import Derived.Sort.Grow
import Derived.Shelf.SlSortCmp.InsertionK
import Derived.WalkSpells
import Derived.Shelf.SlSortCmp.NoneTotal
import Derived.Shelf.SlGeneric
import Derived.Ground.SlsfProg
import Derived.RangeFuncNested
import Derived.RangeFuncBound
import Derived.RangeFuncCalls
import Derived.RangeFuncLeaves
import Derived.Shelf.Abstract
import Derived.Shelf.RegionOpen
import Derived.OwnWalkIn
import Derived.TacticsInMore
import Derived.LoopNIn
import Derived.LoopIn
import Derived.OrdersIn
import Derived.RangeFuncKeeps
import Derived.RangeFuncWrites
import Derived.Shelf.SlicesQ.IndexFunc
import Derived.Shelf.GgClosure.StringsIndexFuncTop
import Derived.Ground.SlgfProg
import Derived.Ground.GgwProg
import Derived.Laws.RangeAny
import Derived.Laws.RangeString
import Derived.Test.YtbghfbhlbfcloaaDoorLw0
import Derived.Test.YtbghfbhlbfcloaaDoorLp0
import Derived.Test.YtbghfbhlbfcloaaDoorLp1
import Derived.Test.YtbghfbhlbfcloaaDoorLp2
import Derived.Test.YtbghfbhlbfcloaaDoorLp3
namespace Go.Proofs.YtbghfbhlbfcloaaDoor.PL
section
open Go.RowKit Go.Proofs.YtbghfbhlbfcloaaDoorW.PrintWords Go.Proofs.YtbghfbhlbfcloaaDoorW.PrintLast Go.Proofs.YtbghfbhlbfcloaaDoorW.PrintMore
set_option linter.unusedVariables false
set_option linter.unusedSimpArgs false

theorem flat_get {sz : Nat} : ∀ (cs : List (List Value)) (_ : ∀ c ∈ cs, c.length = sz) (j i : Nat) (c : List Value), cs[j]? = some c → i < sz → cs.flatten[j * sz + i]? = c[i]?
 | [], _, j, i, c, h, _ => by simp at h
 | a :: r, hl, j, i, c, h, hi => by
  have ha := hl a (by simp)
  cases j with
  | zero =>
   simp at h
   subst h
   rw [List.flatten_cons, Nat.zero_mul, Nat.zero_add, List.getElem?_append_left (by omega)]
  | succ j =>
   simp at h
   rw [List.flatten_cons, List.getElem?_append_right (by rw [ha, Nat.add_mul]; omega), ha]
   rw [show (j + 1) * sz + i - sz = j * sz + i by rw [Nat.add_mul]; omega]
   exact flat_get r (fun q hq => hl q (by simp [hq])) j i c h hi
/-- A literal row, read. -/
theorem litC {α : Type} (d : Kd α) (W : World) (e : Nat) (xs : List α) (cs : List (List Value)) (inner : Array Value) (hin : inner = cs.flatten.toArray) (hl : cs.length = xs.length) (hm : xs.length ≤ 1000)
  (hsz : ∀ c ∈ cs, c.length = d.sz) (hK : ∀ (j : Nat) (x : α) (c : List Value), xs[j]? = some x → cs[j]? = some c → d.K (W.alloc (.cells inner e)) x c) :
  Kd.C d (W.alloc (.cells inner e)) (some ⟨W.heap.size, 0, none⟩) xs.length xs := by
 refine ⟨rfl, by omega, fun _ => ⟨_, rfl, fun j x hj => ?_⟩⟩
 have hjl := (List.getElem?_eq_some_iff.1 hj).1
 have hc : cs[j]? = some cs[j] := List.getElem?_eq_getElem (by omega)
 refine ⟨cs[j], hsz _ (List.getElem_mem _), hK j x _ hj hc, fun i u hu => ?_⟩
 have hi : i < d.sz := by rw [← hsz cs[j] (List.getElem_mem _)]; exact (List.getElem?_eq_some_iff.1 hu).1
 have h1 := flat_get cs hsz j i _ hc hi
 have h2 := blk_cell (blk_new W (.cells inner e)) (j * d.sz + i)
 rw [hin] at h2 ⊢
 rw [List.getElem?_toArray, h1, hu] at h2
 rw [show (⟨W.heap.size, 0, none⟩ : Addr).add (j * d.sz + i) = ⟨W.heap.size, j * d.sz + i, none⟩ by simp [Addr.add]; omega]
 exact h2
theorem flat_one (f : Int → Value) : ∀ xs : List Int, (xs.map fun x => [f x]).flatten = xs.map f
 | [] => rfl
 | a :: r => by rw [List.map_cons, List.flatten_cons, flat_one f r]; rfl
theorem litI (W : World) (xs : List Int) (inner : Array Value) (hin : inner = (xs.map fun x => Value.int .i64 x).toArray) (hm : xs.length ≤ 1000) : Kd.C (Kd.int .i64) (W.alloc (.cells inner 3)) (some ⟨W.heap.size, 0, none⟩) xs.length xs := by
 refine litC (Kd.int .i64) W 3 xs (xs.map fun x => [Value.int .i64 x]) inner ?_ (by simp) hm ?_ ?_
 ·rw [hin, flat_one]
 ·intro c hc
  obtain ⟨x, _, rfl⟩ := List.mem_map.1 hc
  rfl
 ·intro j x c hx hc
  rw [List.getElem?_map, hx] at hc
  cases hc
  rfl

def KE : List S68 := [⟨0, 1⟩, ⟨1, 0⟩, ⟨1, 2⟩, ⟨2, 1⟩, ⟨2, 3⟩, ⟨3, 2⟩]
def KG : List S57 := [⟨⟨#[97]⟩, [0, 1]⟩, ⟨⟨#[98]⟩, [0, 1, 2]⟩, ⟨⟨#[99]⟩, [3, 4]⟩]
def KC : List S41 := [⟨[0], [1, 2, 3]⟩, ⟨[0, 1], [2, 3]⟩, ⟨[0, 1, 2], [3]⟩]
theorem kn_make : graph_Make.f 4 KE = some (4, KE, 0) := by kernel_rfl
theorem kn_pieces : liaison_Pieces.f 100 4 KE [0, 1, 3] = some ([[0, 1], [3]], 0) := by kernel_rfl
theorem kn_cuts : liaison_Cuts.f 4 KE [0, 1, 2, 3] = some (KC, 0) := by kernel_rfl
theorem kn_joints : liaison_Joints.f 100 4 KE [0, 1, 2, 3] = some ([1, 2], 0) := by kernel_rfl
theorem kn_parents : liaison_Parents.f 100 KG 5 = some ([1, -1, -1], 0) := by kernel_rfl
theorem kn_same1 : dowellaw29_sameLists.f 100 [[0, 1], [3]] [[0, 1], [3]] = some true := by kernel_rfl
theorem kn_same2 : dowellaw29_same.f 100 [0, 1] [0, 1] = some true := by kernel_rfl
theorem kn_same3 : dowellaw29_same.f 100 [2, 3] [2, 3] = some true := by kernel_rfl
theorem kn_same4 : dowellaw29_same.f 100 [1, 2] [1, 2] = some true := by kernel_rfl
theorem kn_same5 : dowellaw29_same.f 100 [1, -1, -1] [1, -1, -1] = some true := by kernel_rfl

def oneE (e : S68) : List Value := [.int .i64 e.f0, .int .i64 e.f1]
theorem litE (W : World) : Kd.C k68 (W.alloc (.cells #[.int .i64 0, .int .i64 1, .int .i64 1, .int .i64 0, .int .i64 1, .int .i64 2, .int .i64 2, .int .i64 1, .int .i64 2, .int .i64 3, .int .i64 3, .int .i64 2] 68)) (some ⟨W.heap.size, 0, none⟩) KE.length KE := by
 refine litC k68 W 68 KE (KE.map oneE) _ rfl rfl (by decide) (fun c hc => ?_) (fun j x c hx hc => ?_)
 ·obtain ⟨x, _, rfl⟩ := List.mem_map.1 hc
  rfl
 ·rw [List.getElem?_map, hx] at hc
  cases hc
  exact k68_mk _ x
theorem litG (W : World) : Kd.C k57 ((((W.alloc (.cells #[.int .i64 0, .int .i64 1] 3)).alloc (.cells #[.int .i64 0, .int .i64 1, .int .i64 2] 3)).alloc (.cells #[.int .i64 3, .int .i64 4] 3)).alloc (.cells #[.string ⟨#[97]⟩, .slice (some ⟨W.heap.size, 0, none⟩) 2 2, .string ⟨#[98]⟩, .slice (some ⟨W.heap.size + 1, 0, none⟩) 3 3, .string ⟨#[99]⟩, .slice (some ⟨W.heap.size + 1 + 1, 0, none⟩) 2 2] 57)) (some ⟨W.heap.size + 1 + 1 + 1, 0, none⟩) KG.length KG := by
 have h1 : Kd.C (Kd.int .i64) (W.alloc (.cells #[.int .i64 0, .int .i64 1] 3)) (some ⟨W.heap.size, 0, none⟩) 2 [0, 1] := litI W [0, 1] _ rfl (by decide)
 have h2 := litI (W.alloc (.cells #[.int .i64 0, .int .i64 1] 3)) [0, 1, 2] _ rfl (by decide)
 have h3 := litI ((W.alloc (.cells #[.int .i64 0, .int .i64 1] 3)).alloc (.cells #[.int .i64 0, .int .i64 1, .int .i64 2] 3)) [3, 4] _ rfl (by decide)
 have h4 := litC k57 (((W.alloc (.cells #[.int .i64 0, .int .i64 1] 3)).alloc (.cells #[.int .i64 0, .int .i64 1, .int .i64 2] 3)).alloc (.cells #[.int .i64 3, .int .i64 4] 3)) 57 KG [[.string ⟨#[97]⟩, .slice (some ⟨W.heap.size, 0, none⟩) 2 2], [.string ⟨#[98]⟩, .slice (some ⟨W.heap.size + 1, 0, none⟩) 3 3], [.string ⟨#[99]⟩, .slice (some ⟨W.heap.size + 1 + 1, 0, none⟩) 2 2]] #[.string ⟨#[97]⟩, .slice (some ⟨W.heap.size, 0, none⟩) 2 2, .string ⟨#[98]⟩, .slice (some ⟨W.heap.size + 1, 0, none⟩) 3 3, .string ⟨#[99]⟩, .slice (some ⟨W.heap.size + 1 + 1, 0, none⟩) 2 2] rfl rfl (by decide) (fun c hc => ?_) (fun j x c hx hc => ?_)
 ·simp only [World.size_alloc] at h4
  exact h4
 ·simp only [List.mem_cons, List.not_mem_nil, or_false] at hc
  rcases hc with rfl | rfl | rfl <;> rfl
 ·rw [World.size_alloc] at h2
  rw [World.size_alloc, World.size_alloc] at h3
  rcases j with _ | _ | _ | j
  ·cases hx; cases hc
   exact k57_mk _ ⟨⟨#[97]⟩, [0, 1]⟩ (Nat.le_refl _) (Kd.C_alloc (Kd.C_alloc (Kd.C_alloc h1 _) _) _)
  ·cases hx; cases hc
   exact k57_mk _ ⟨⟨#[98]⟩, [0, 1, 2]⟩ (Nat.le_refl _) (Kd.C_alloc (Kd.C_alloc h2 _) _)
  ·cases hx; cases hc
   exact k57_mk _ ⟨⟨#[99]⟩, [3, 4]⟩ (Nat.le_refl _) (Kd.C_alloc h3 _)
  ·simp [KG] at hx

theorem kn33 (W : World) : Calls Tryd.prog 33 #[.int .i64 4, .slice (some ⟨W.heap.size, 0, none⟩) 6 6] (W.alloc (.cells #[.int .i64 0, .int .i64 1, .int .i64 1, .int .i64 0, .int .i64 1, .int .i64 2, .int .i64 2, .int .i64 1, .int .i64 2, .int .i64 3, .int .i64 3, .int .i64 2] 68)) fun e w' => ∃ A1 c1, e = .returned (.tuple #[.agg #[.int .i64 4, .slice A1 6 c1], .int .i64 0]) ∧ (6 ≤ c1 ∧ Kd.C k68 w' A1 6 KE) ∧ Below W.heap.size W w' := by
 refine (graph_Make.calls 4 _ _ KE 4 KE 0 _ (litE W) (Nat.le_refl _) kn_make).mono ?_
 rintro e w1 ⟨v1, rfl, hR1, hb1⟩
 obtain ⟨A1, c1, rfl⟩ := Kd.R_slice hR1
 have h := Kd.R_reads' hR1
 exact ⟨A1, c1, rfl, ⟨h.2.1, h.2.2⟩, (below_alloc (Below.refl W.heap.size W) _).trans (hb1.mono (by simp))⟩
theorem kn17 (W : World) (A1 : Option Addr) (c1 : Nat) (h1 : Kd.C k68 W A1 6 KE) (hc : 6 ≤ c1) (hG : Kd.C (Kd.int .u8) W (some tabA) tabL.length tabL) : Calls Tryd.prog 17 #[.agg #[.int .i64 4, .slice A1 6 c1], .slice (some ⟨W.heap.size + 1, 0, none⟩) 3 3] ((W.alloc (.cells #[.int .i64 4, .slice A1 6 c1] 28)).alloc (.cells #[.int .i64 0, .int .i64 1, .int .i64 3] 3)) fun e w' => ∃ A2 c2, e = .returned (.tuple #[.slice A2 2 c2, .int .i64 0]) ∧ (2 ≤ c2 ∧ Kd.C (Kd.slice 3 (Kd.int .i64)) w' A2 2 [[0, 1], [3]]) ∧ Below W.heap.size W w' ∧ w'.heap[W.heap.size]? = some (.cells #[.int .i64 4, .slice A1 6 c1] 28 (0, 0)) := by
 have hl := litI (W.alloc (.cells #[.int .i64 4, .slice A1 6 c1] 28)) [0, 1, 3] _ rfl (by decide)
 rw [World.size_alloc] at hl
 refine (liaison_Pieces.calls 100 4 A1 c1 KE _ 3 [0, 1, 3] [[0, 1], [3]] 0 _ (Kd.C_alloc (Kd.C_alloc h1 _) _) hc hl (Nat.le_refl _) (Kd.C_alloc (Kd.C_alloc hG _) _) kn_pieces).mono ?_
 rintro e w2 ⟨v2, rfl, hS2, hb2⟩
 obtain ⟨A2, c2, rfl⟩ := Kd.S_slice hS2
 have h := Kd.S_reads' hS2
 exact ⟨A2, c2, rfl, ⟨h.2.1, h.2.2⟩, (below_alloc (below_alloc (Below.refl W.heap.size W) _) _).trans (hb2.mono (by simp; omega)), blk_below (blk_alloc (blk_new W _) _) hb2⟩
theorem kn10 (W : World) (A1 : Option Addr) (c1 : Nat) (h1 : Kd.C k68 W A1 6 KE) (hc : 6 ≤ c1) (hG : Kd.C (Kd.int .u8) W (some tabA) tabL.length tabL) : Calls Tryd.prog 10 #[.agg #[.int .i64 4, .slice A1 6 c1], .slice (some ⟨W.heap.size, 0, none⟩) 4 4] (W.alloc (.cells #[.int .i64 0, .int .i64 1, .int .i64 2, .int .i64 3] 3)) fun e w' => ∃ A2 c2, e = .returned (.tuple #[.slice A2 3 c2, .int .i64 0]) ∧ (3 ≤ c2 ∧ Kd.C k41 w' A2 3 KC) ∧ Below W.heap.size W w' := by
 have hl := litI W [0, 1, 2, 3] _ rfl (by decide)
 refine (liaison_Cuts.calls 4 A1 c1 KE _ 4 [0, 1, 2, 3] KC 0 _ (Kd.C_alloc h1 _) hc hl (Nat.le_refl _) (Kd.C_alloc hG _) kn_cuts).mono ?_
 rintro e w2 ⟨v2, rfl, hS2, hb2⟩
 obtain ⟨A2, c2, rfl⟩ := Kd.S_slice hS2
 have h := Kd.S_reads' hS2
 exact ⟨A2, c2, rfl, ⟨h.2.1, h.2.2⟩, (below_alloc (Below.refl W.heap.size W) _).trans (hb2.mono (by simp))⟩
theorem kn11 (W : World) (A1 : Option Addr) (c1 : Nat) (h1 : Kd.C k68 W A1 6 KE) (hc : 6 ≤ c1) (hG : Kd.C (Kd.int .u8) W (some tabA) tabL.length tabL) : Calls Tryd.prog 11 #[.agg #[.int .i64 4, .slice A1 6 c1], .slice (some ⟨W.heap.size, 0, none⟩) 4 4] (W.alloc (.cells #[.int .i64 0, .int .i64 1, .int .i64 2, .int .i64 3] 3)) fun e w' => ∃ A2 c2, e = .returned (.tuple #[.slice A2 2 c2, .int .i64 0]) ∧ (2 ≤ c2 ∧ Kd.C (Kd.int .i64) w' A2 2 [1, 2]) ∧ Below W.heap.size W w' := by
 have hl := litI W [0, 1, 2, 3] _ rfl (by decide)
 refine (liaison_Joints.calls 100 4 A1 c1 KE _ 4 [0, 1, 2, 3] [1, 2] 0 _ (Kd.C_alloc h1 _) hc hl (Nat.le_refl _) (Kd.C_alloc hG _) kn_joints).mono ?_
 rintro e w2 ⟨v2, rfl, hS2, hb2⟩
 obtain ⟨A2, c2, rfl⟩ := Kd.R_slice hS2
 have h := Kd.R_reads' hS2
 exact ⟨A2, c2, rfl, ⟨h.2.1, h.2.2⟩, (below_alloc (Below.refl W.heap.size W) _).trans (hb2.mono (by simp))⟩
theorem kn26 (W : World) : Calls Tryd.prog 26 #[.slice (some ⟨W.heap.size + 1 + 1 + 1, 0, none⟩) 3 3, .int .i64 5] ((((W.alloc (.cells #[.int .i64 0, .int .i64 1] 3)).alloc (.cells #[.int .i64 0, .int .i64 1, .int .i64 2] 3)).alloc (.cells #[.int .i64 3, .int .i64 4] 3)).alloc (.cells #[.string ⟨#[97]⟩, .slice (some ⟨W.heap.size, 0, none⟩) 2 2, .string ⟨#[98]⟩, .slice (some ⟨W.heap.size + 1, 0, none⟩) 3 3, .string ⟨#[99]⟩, .slice (some ⟨W.heap.size + 1 + 1, 0, none⟩) 2 2] 57)) fun e w' => ∃ A2 c2, e = .returned (.tuple #[.slice A2 3 c2, .int .i64 0]) ∧ (3 ≤ c2 ∧ Kd.C (Kd.int .i64) w' A2 3 [1, -1, -1]) ∧ Below W.heap.size W w' := by
 refine (liaison_Parents.calls 100 _ _ KG 5 [1, -1, -1] 0 _ (litG W) (Nat.le_refl _) kn_parents).mono ?_
 rintro e w2 ⟨v2, rfl, hS2, hb2⟩
 obtain ⟨A2, c2, rfl⟩ := Kd.R_slice hS2
 have h := Kd.R_reads' hS2
 exact ⟨A2, c2, rfl, ⟨h.2.1, h.2.2⟩, (below_alloc (below_alloc (below_alloc (below_alloc (Below.refl W.heap.size W) _) _) _) _).trans (hb2.mono (by simp; omega))⟩

theorem kn21 (W : World) (A2 : Option Addr) (c2 : Nat) (h : Kd.C (Kd.slice 3 (Kd.int .i64)) W A2 2 [[0, 1], [3]]) (hc : 2 ≤ c2) : Calls Tryd.prog 21 #[.slice A2 2 c2, .slice (some ⟨W.heap.size + 1 + 1, 0, none⟩) 2 2] (((W.alloc (.cells #[.int .i64 0, .int .i64 1] 3)).alloc (.cells #[.int .i64 3] 3)).alloc (.cells #[.slice (some ⟨W.heap.size, 0, none⟩) 2 2, .slice (some ⟨W.heap.size + 1, 0, none⟩) 1 1] 23)) fun e w' => e = .returned (.bool true) ∧ Below W.heap.size W w' := by
 have h1 : Kd.C (Kd.int .i64) (W.alloc (.cells #[.int .i64 0, .int .i64 1] 3)) (some ⟨W.heap.size, 0, none⟩) 2 [0, 1] := litI W [0, 1] _ rfl (by decide)
 have h2 := litI (W.alloc (.cells #[.int .i64 0, .int .i64 1] 3)) [3] _ rfl (by decide)
 rw [World.size_alloc] at h2
 have h4 := litC (Kd.slice 3 (Kd.int .i64)) ((W.alloc (.cells #[.int .i64 0, .int .i64 1] 3)).alloc (.cells #[.int .i64 3] 3)) 23 [[0, 1], [3]] [[.slice (some ⟨W.heap.size, 0, none⟩) 2 2], [.slice (some ⟨W.heap.size + 1, 0, none⟩) 1 1]] #[.slice (some ⟨W.heap.size, 0, none⟩) 2 2, .slice (some ⟨W.heap.size + 1, 0, none⟩) 1 1] rfl rfl (by decide) (fun c hc => by simp only [List.mem_cons, List.not_mem_nil, or_false] at hc; rcases hc with rfl | rfl <;> rfl) (fun j x c hx hc => by
  rcases j with _ | _ | j
  ·cases hx; cases hc
   exact ⟨_, _, rfl, Nat.le_refl _, Kd.C_alloc (Kd.C_alloc h1 _) _⟩
  ·cases hx; cases hc
   exact ⟨_, _, rfl, Nat.le_refl _, Kd.C_alloc h2 _⟩
  ·simp at hx)
 simp only [World.size_alloc] at h4
 refine (dowellaw29_sameLists.calls 100 A2 c2 [[0, 1], [3]] _ 2 [[0, 1], [3]] true _ (Kd.C_alloc (Kd.C_alloc (Kd.C_alloc h _) _) _) hc h4 (Nat.le_refl _) kn_same1).mono ?_
 rintro e w2 ⟨rfl, ⟨n, rfl⟩⟩
 exact ⟨rfl, pw_below_drewN (below_alloc (below_alloc (below_alloc (Below.refl _ _) _) _) _) n⟩
theorem kn14 (W : World) (A : Option Addr) (c : Nat) (a b : Int) (h : Kd.C (Kd.int .i64) W A 2 [a, b]) (hc : 2 ≤ c) (hs : dowellaw29_same.f 100 [a, b] [a, b] = some true) : Calls Tryd.prog 14 #[.slice A 2 c, .slice (some ⟨W.heap.size, 0, none⟩) 2 2] (W.alloc (.cells #[.int .i64 a, .int .i64 b] 3)) fun e w' => e = .returned (.bool true) ∧ Below W.heap.size W w' := by
 have h1 := litI W [a, b] _ rfl (by simp)
 refine (dowellaw29_same.calls 100 A c [a, b] _ 2 [a, b] true _ (Kd.C_alloc h _) hc h1 (Nat.le_refl _) hs).mono ?_
 rintro e w2 ⟨rfl, ⟨n, rfl⟩⟩
 exact ⟨rfl, pw_below_drewN (below_alloc (Below.refl _ _) _) n⟩
theorem kn14c (W : World) (A : Option Addr) (c : Nat) (a b d : Int) (h : Kd.C (Kd.int .i64) W A 3 [a, b, d]) (hc : 3 ≤ c) (hs : dowellaw29_same.f 100 [a, b, d] [a, b, d] = some true) : Calls Tryd.prog 14 #[.slice A 3 c, .slice (some ⟨W.heap.size, 0, none⟩) 3 3] (W.alloc (.cells #[.int .i64 a, .int .i64 b, .int .i64 d] 3)) fun e w' => e = .returned (.bool true) ∧ Below W.heap.size W w' := by
 have h1 := litI W [a, b, d] _ rfl (by simp)
 refine (dowellaw29_same.calls 100 A c [a, b, d] _ 3 [a, b, d] true _ (Kd.C_alloc h _) hc h1 (Nat.le_refl _) hs).mono ?_
 rintro e w2 ⟨rfl, ⟨n, rfl⟩⟩
 exact ⟨rfl, pw_below_drewN (below_alloc (Below.refl _ _) _) n⟩
theorem knRead (W : World) (A : Option Addr) (h : Kd.C k41 W A 3 KC) : ∃ ad B0 d0 B1 d1, A = some ad ∧ W.cell? ⟨ad.block, ad.off + 2, none⟩ = some (.slice B0 2 d0) ∧ W.cell? ⟨ad.block, ad.off + 2 + 1, none⟩ = some (.slice B1 2 d1) ∧ (2 ≤ d0 ∧ Kd.C (Kd.int .i64) W B0 2 [0, 1]) ∧ (2 ≤ d1 ∧ Kd.C (Kd.int .i64) W B1 2 [2, 3]) := by
 obtain ⟨ad, B0, d0, B1, d1, e, h0, h1, h2, h3, h4, h5⟩ := at_T41 h 1 (by decide) (by decide)
 exact ⟨ad, B0, d0, B1, d1, e, h0, h1, ⟨h2, h3⟩, ⟨h4, h5⟩⟩

def KN.f : Option Bool := some true
set_option maxRecDepth 100000 in
set_option maxHeartbeats 600000 in
theorem KN.calls (r : Bool) (w : World) (hG : Kd.C (Kd.int .u8) w (some tabA) tabL.length tabL) (h : KN.f = some r) :
  Calls Tryd.prog 8 #[] w fun e w' => e = .returned (.bool r) ∧ Below w.heap.size w w' := by
 have hu28 := Tryd.underlying28
 have hu41 := Tryd.underlying41
 have hu57 := Tryd.underlying57
 have hu68 := Tryd.underlying68
 obtain rfl : true = r := Option.some.inj h
 have HG := Aside0.mk hG
 clear hG h
 go_enter Tryd.func8, Tryd.ntmps8
 go_wp2_with (first
  | (go_at_call 33; refine (kn33 w).mono ?_; rintro e w1 ⟨A1, c1, rfl, h1, hb1⟩; have H1 := Aside0.mk h1; have HB1 := Aside0.mk hb1; clear h1 hb1)
  | (go_at_call 17; refine (kn17 w1 A1 c1 H1.out.2 H1.out.1 (Kd.C_below HG.out HB1.out)).mono ?_; rintro e w2 ⟨A2, c2, rfl, h2, hb2, hk2⟩; have H2 := Aside0.mk h2; have HB2 := Aside0.mk hb2; have HK2 := Aside0.mk hk2; have hz20 := (blk_cell hk2 0).trans rfl; have hz21 := (blk_cell hk2 1).trans rfl; clear h2 hb2 hk2)
  | (go_at_call 10; refine (kn10 w2 A1 c1 (Kd.C_below H1.out.2 HB2.out) H1.out.1 (Kd.C_below (Kd.C_below HG.out HB1.out) HB2.out)).mono ?_; rintro e w3 ⟨A3, c3, rfl, h3, hb3⟩; have H3 := Aside0.mk h3; have HB3 := Aside0.mk hb3; have hk3 := blk_below HK2.out hb3; have HK3 := Aside0.mk hk3; have hz30 := (blk_cell hk3 0).trans rfl; have hz31 := (blk_cell hk3 1).trans rfl; clear h3 hb3 hk3)
  | (go_at_call 11; refine (kn11 w3 A1 c1 (Kd.C_below (Kd.C_below H1.out.2 HB2.out) HB3.out) H1.out.1 (Kd.C_below (Kd.C_below (Kd.C_below HG.out HB1.out) HB2.out) HB3.out)).mono ?_; rintro e w4 ⟨A4, c4, rfl, h4, hb4⟩; have H4 := Aside0.mk h4; have HB4 := Aside0.mk hb4; clear h4 hb4)
  | (go_at_call 26; refine (kn26 w4).mono ?_; rintro e w5 ⟨A5, c5, rfl, h5, hb5⟩; have H5 := Aside0.mk h5; have HB5 := Aside0.mk hb5; clear h5 hb5)
  | (go_at_call 21; refine (kn21 w5 A2 c2 (Kd.C_below (Kd.C_below (Kd.C_below H2.out.2 HB3.out) HB4.out) HB5.out) H2.out.1).mono ?_; rintro e w6 ⟨rfl, hb6⟩; have HB6 := Aside0.mk hb6; obtain ⟨ad, B0, d0, B1, d1, rfl, hy0, hy1, hL, hR⟩ := knRead w6 A3 (Kd.C_below (Kd.C_below (Kd.C_below H3.out.2 HB4.out) HB5.out) HB6.out); have HLL := Aside0.mk hL; have HRR := Aside0.mk hR; have HY1 := Aside0.mk hy1; clear hb6 hL hR hy1)
  | (go_at_call 14; with_reducible refine (kn14 w6 B0 d0 0 1 HLL.out.2 HLL.out.1 kn_same2).mono ?_; rintro e w7 ⟨rfl, hb7⟩; have hy7 := (hb7.cell (World.block_lt_of_cell? w6 _ HY1.out)).trans HY1.out; have HB7 := Aside0.mk hb7; clear hb7)
  | (go_at_call 14; with_reducible refine (kn14 w7 B1 d1 2 3 (Kd.C_below HRR.out.2 HB7.out) HRR.out.1 kn_same3).mono ?_; rintro e w8 ⟨rfl, hb8⟩; have HB8 := Aside0.mk hb8; clear hb8)
  | (go_at_call 14; with_reducible refine (kn14 w8 A4 c4 1 2 (Kd.C_below (Kd.C_below (Kd.C_below (Kd.C_below H4.out.2 HB5.out) HB6.out) HB7.out) HB8.out) H4.out.1 kn_same4).mono ?_; rintro e w9 ⟨rfl, hb9⟩; have HB9 := Aside0.mk hb9; clear hb9)
  | (go_at_call 14; with_reducible refine (kn14c w9 A5 c5 1 (-1) (-1) (Kd.C_below (Kd.C_below (Kd.C_below (Kd.C_below H5.out.2 HB6.out) HB7.out) HB8.out) HB9.out) H5.out.1 kn_same5).mono ?_; rintro e w10 ⟨rfl, hb10⟩; have HB10 := Aside0.mk hb10; clear hb10))
 go_ret
 exact ⟨rfl, (below_step (below_step (below_step (below_step (below_step (below_step (below_step (below_step (below_step HB1.out HB2.out) HB3.out) HB4.out) HB5.out) HB6.out) HB7.out) HB8.out) HB9.out) HB10.out)⟩
end
end Go.Proofs.YtbghfbhlbfcloaaDoor.PL
namespace Go.Proofs.YtbghfbhlbfcloaaDoor.PL
section
open Go.RowKit Go.Proofs.YtbghfbhlbfcloaaDoorW.PrintWords Go.Proofs.YtbghfbhlbfcloaaDoorW.PrintLast Go.Proofs.YtbghfbhlbfcloaaDoorW.PrintMore
attribute [local go_sem] max2_int min2_int max_two min_two max_three min_three max_four min_four   -- for this text's walks alone
set_option linter.unusedVariables false
set_option linter.unusedSimpArgs false
/-! ### dowellaw29_known: function 8 -/
def dowellaw29_known.f  : Option (Bool) := KN.f 
theorem dowellaw29_known.calls  (r : Bool) (w : World) (hG : Kd.C (Kd.int .u8) w (some tabA) tabL.length tabL) (h : dowellaw29_known.f  = some r) :
  Calls Tryd.prog 8 #[] w fun e w' => e = .returned (.bool r) ∧ Below w.heap.size w w' :=
  KN.calls r w hG h
end
end Go.Proofs.YtbghfbhlbfcloaaDoor.PL
namespace Go.Proofs.YtbghfbhlbfcloaaDoor.PL
section
open Go.RowKit Go.Proofs.YtbghfbhlbfcloaaDoorW.PrintWords Go.Proofs.YtbghfbhlbfcloaaDoorW.PrintLast Go.Proofs.YtbghfbhlbfcloaaDoorW.PrintMore
attribute [local go_sem] max2_int min2_int max_two min_two max_three min_three max_four min_four   -- for this text's walks alone
set_option linter.unusedVariables false
set_option linter.unusedSimpArgs false
/-! ### liaison_Loose: function 24 -/
def liaison_Loose.l0 : Nat → List Int → List Int → List (S57) → Int → Int → Option (List Int × Int)
 | 0, _, _, _, _, _ => none
 | k + 1, x8, x9, x26, x27, x28 => if x28 < x27 then (if 0 ≤ x28 then (if x28 < (x26.length : Int) then ((liaison_masked.f k ((rd_T57 x26 x28).f1)).bind fun t432 => ((liaison_links_connected.f k x8 t432).bind fun t433 => (if t433 = true then (liaison_Loose.l0 k x8 x9 x26 x27 (wrap64 (x28 + 1))) else (if x9.length < 17592186044416 then (liaison_Loose.l0 k x8 (x9 ++ [x28]) x26 x27 (wrap64 (x28 + 1))) else (none))))) else (none)) else (none)) else (some (x9, 0))
def liaison_Loose.f (k : Nat) (a0_0 : Int) (l0_1 : List (S68)) (l1 : List (S57)) : Option (List Int × Int) := (liaison_Check.f k a0_0 l0_1).bind fun t425 => (if t425 = 0 then ((liaison_CheckGroups.f l1 a0_0).bind fun t426 => (if t426 = 0 then ((liaison_linked.f k a0_0 l0_1).bind fun t427 => (liaison_Loose.l0 k t427 ([] : List Int) l1 (l1.length : Int) 0)) else (some (([] : List Int), t426)))) else (some (([] : List Int), t425)))
theorem liaison_Loose.mono_l : ∀ k, (∀ y0 y1 y2 y3 y4, LeO (liaison_Loose.l0 k y0 y1 y2 y3 y4) (liaison_Loose.l0 (k + 1) y0 y1 y2 y3 y4))
 | 0 => fun _ _ _ _ _ r h => by simp [liaison_Loose.l0] at h
 | k + 1 => by
  have ih0 := liaison_Loose.mono_l k
  ·intro y0 y1 y2 y3 y4
   unfold liaison_Loose.l0
   repeat' first
   | (with_reducible exact ih0 _ _ _ _ _)
   | (with_reducible exact liaison_Check.mono _ _ _)
   | (with_reducible exact liaison_linked.mono _ _ _)
   | (with_reducible exact liaison_links_connected.mono _ _ _)
   | (with_reducible exact liaison_masked.mono _ _)
   | (with_reducible exact LeO.refl _)
   | (with_reducible exact LeO.none _)
   | (with_reducible refine LeO.ite ?_ ?_)
   | (with_reducible refine LeO.bind ?_ (fun _ => ?_))
   | exact ih0 _ _ _ _ _
   | exact liaison_Check.mono _ _ _
   | exact liaison_linked.mono _ _ _
   | exact liaison_links_connected.mono _ _ _
   | exact liaison_masked.mono _ _
   | exact LeO.none _
   | refine LeO.ite ?_ ?_
   | refine LeO.bind ?_ (fun _ => ?_)
theorem liaison_Loose.mono : ∀ a0 a1 a2 k, LeO (liaison_Loose.f k a0 a1 a2) (liaison_Loose.f (k + 1) a0 a1 a2) := by
 intro a0 a1 a2 k
 have ih0 := liaison_Loose.mono_l k
 unfold liaison_Loose.f
 repeat' first
   | (with_reducible exact ih0 _ _ _ _ _)
   | (with_reducible exact liaison_Check.mono _ _ _)
   | (with_reducible exact liaison_linked.mono _ _ _)
   | (with_reducible exact liaison_links_connected.mono _ _ _)
   | (with_reducible exact liaison_masked.mono _ _)
   | (with_reducible exact LeO.refl _)
   | (with_reducible exact LeO.none _)
   | (with_reducible refine LeO.ite ?_ ?_)
   | (with_reducible refine LeO.bind ?_ (fun _ => ?_))
   | exact ih0 _ _ _ _ _
   | exact liaison_Check.mono _ _ _
   | exact liaison_linked.mono _ _ _
   | exact liaison_links_connected.mono _ _ _
   | exact liaison_masked.mono _ _
   | exact LeO.none _
   | refine LeO.ite ?_ ?_
   | refine LeO.bind ?_ (fun _ => ?_)
set_option maxHeartbeats 8000000 in
set_option maxRecDepth 100000 in
theorem liaison_Loose.calls (k : Nat) (a0_0 : Int) (A0_1 : Option Addr) (c0_1 : Nat) (l0_1 : List (S68)) (A1 : Option Addr) (c1 : Nat) (l1 : List (S57)) (r1 : List Int) (r2 : Int) (w : World) (hr0_1 : Kd.C k68 w A0_1 l0_1.length l0_1) (hc0_1 : l0_1.length ≤ c0_1) (hr1 : Kd.C k57 w A1 l1.length l1) (hc1 : l1.length ≤ c1) (hG : Kd.C (Kd.int .u8) w (some tabA) tabL.length tabL) (h : liaison_Loose.f k a0_0 l0_1 l1 = some (r1, r2)) :
  Calls Tryd.prog 24 #[.agg #[.int .i64 a0_0, .slice A0_1 l0_1.length c0_1], .slice A1 l1.length c1] w fun e w' => ∃ v0_ : Value, e = .returned (.tuple #[v0_, .int .i64 r2]) ∧ Kd.R (Kd.int .i64) 3 w' w.heap.size (fun _ => True) v0_ r1 ∧ Below w.heap.size w w' := by
 have hu28 := Tryd.underlying28
 have hu57 := Tryd.underlying57
 have HR0_1 := Aside0.mk hr0_1
 have HC0_1 := Aside0.mk hc0_1
 clear hr0_1 hc0_1
 have HR1 := Aside0.mk hr1
 have HC1 := Aside0.mk hc1
 clear hr1 hc1
 have HB := Aside0.mk (Below.refl w.heap.size w)
 have HG := Aside0.mk hG
 clear hG
 have H : ((liaison_Check.f k a0_0 l0_1).bind fun t425 => (if t425 = 0 then ((liaison_CheckGroups.f l1 a0_0).bind fun t426 => (if t426 = 0 then ((liaison_linked.f k a0_0 l0_1).bind fun t427 => (liaison_Loose.l0 k t427 ([] : List Int) l1 (l1.length : Int) 0)) else (some (([] : List Int), t426)))) else (some (([] : List Int), t425)))) = some (r1, r2) := h
 clear h
 replace H := Option.bind_eq_some_iff.mp H
 obtain ⟨t425, A30, H⟩ := H
 replace H : (if t425 = 0 then ((liaison_CheckGroups.f l1 a0_0).bind fun t426 => (if t426 = 0 then ((liaison_linked.f k a0_0 l0_1).bind fun t427 => (liaison_Loose.l0 k t427 ([] : List Int) l1 (l1.length : Int) 0)) else (some (([] : List Int), t426)))) else (some (([] : List Int), t425))) = some (r1, r2) := H
 have A3 := Aside0.mk A30
 clear A30
 by_cases c4 : t425 = 0
 ·rw [if_pos c4] at H
  have c4b0 : (t425 == 0) = true := beq_iff_eq.mpr c4
  have c4b1 : (t425 != 0) = false := bne_eq_false_iff_eq.mpr c4
  clear c4
  replace H := Option.bind_eq_some_iff.mp H
  obtain ⟨t426, A50, H⟩ := H
  replace H : (if t426 = 0 then ((liaison_linked.f k a0_0 l0_1).bind fun t427 => (liaison_Loose.l0 k t427 ([] : List Int) l1 (l1.length : Int) 0)) else (some (([] : List Int), t426))) = some (r1, r2) := H
  have A5 := Aside0.mk A50
  clear A50
  by_cases c6 : t426 = 0
  ·rw [if_pos c6] at H
   have c6b0 : (t426 == 0) = true := beq_iff_eq.mpr c6
   have c6b1 : (t426 != 0) = false := bne_eq_false_iff_eq.mpr c6
   clear c6
   replace H := Option.bind_eq_some_iff.mp H
   obtain ⟨t427, A70, H⟩ := H
   replace H : (liaison_Loose.l0 k t427 ([] : List Int) l1 (l1.length : Int) 0) = some (r1, r2) := H
   have A7 := Aside0.mk A70
   clear A70
   have H' := Aside0.mk H
   clear H
   go_enter Tryd.func24, Tryd.ntmps24
   go_wp2_with (first | ((with_reducible refine gate_dst (N := 2) rfl ?_); refine box_event ?hg (N := 2) ?hd (cs := #[.int .i64 a0_0, .slice A0_1 l0_1.length c0_1]) (t := 28) ?hr ?_; (case hd => rfl); (case hg => rfl); (case hr => first | (go_simp; done) | (go_simp; rfl)); intro gb424 hg w8 hbox hb; have n0_ := Aside0.mk (below_step (by repeat (first | (with_reducible first | exact HB.out | apply below_alloc | apply pw_below_drewN | apply below_drew1) | exact HB.out)) hb); have n1_ := Aside0.mk (hbox); have n2_ := Aside0.mk ((by rw [hg]; exact (below_size (by repeat (first | (with_reducible first | exact HB.out | apply below_alloc | apply pw_below_drewN | apply below_drew1) | exact HB.out))) : w.heap.size ≤ gb424)); have n3_ := Aside0.mk ((by rw [hg]; exact (below_size (by repeat (first | (with_reducible first | exact HB.out | apply below_alloc | apply pw_below_drewN | apply below_drew1) | exact HB.out))) : w.heap.size ≤ gb424)); clear HB; have HB := n0_; have BK424 := n1_; have GW424 := n2_; have GE424 := n3_; clear n0_ n1_ n2_ n3_; clear hb hbox hg; have hcz9_0 : w8.cell? ⟨gb424, 0, none⟩ = some (.int .i64 a0_0) := (blk_cell BK424.out 0).trans rfl; have hcz9_1 : w8.cell? ⟨gb424, 1, none⟩ = some (.slice A0_1 l0_1.length c0_1) := (blk_cell BK424.out 1).trans rfl; have hfz9_0 := blk_frozen BK424.out 0; have hfz9_1 := blk_frozen BK424.out 1) | ((with_reducible refine gate_callee (f := 45) rfl ?_); refine goesL_ (some 13) rfl rfl Tryd.func45 (by kernel_rfl) rfl #[.agg #[.int .i64 a0_0, .slice A0_1 l0_1.length c0_1]] rfl (by (try simp only [List.map_toArray, List.map_cons, List.map_nil]); first | done | rfl | (simp only [List.length_drop, List.length_take]; rfl)) ?_; (with_reducible refine (liaison_Check.calls k a0_0 _ _ l0_1 t425 _ ?side1 ?side2 A3.out).mono ?_); (case side1 => repeat (first | exact (Kd.C_below HR0_1.out HB.out) | (with_reducible refine Kd.C_alloc ?_ _) | (with_reducible refine Kd.C_drewN ?_ _) | (with_reducible refine Kd.C_drew ?_))); (case side2 => exact HC0_1.out); rintro e w10 ⟨rfl, hb⟩; refine ⟨_, rfl, ?_⟩; have n0_ := Aside0.mk (blk_below (g := gb424) (o := .cells #[.int .i64 a0_0, .slice A0_1 l0_1.length c0_1] 28 (0, 0)) (by (with_reducible repeat (first | refine blk_drewN ?_ _ | refine blk_drew ?_ | refine blk_alloc ?_ _)); exact BK424.out) hb); have n1_ := Aside0.mk (below_step (by repeat (first | (with_reducible first | exact HB.out | apply below_alloc | apply pw_below_drewN | apply below_drew1 | refine below_set ?_ GE424.out) | exact HB.out)) hb); clear BK424; clear HB; have BK424 := n0_; have HB := n1_; clear n0_ n1_; (try clear hb); (try clear hb2); (try clear hk); (try clear hi); have hcz11_0 : w10.cell? ⟨gb424, 0, none⟩ = some (.int .i64 a0_0) := (blk_cell BK424.out 0).trans rfl; have hcz11_1 : w10.cell? ⟨gb424, 1, none⟩ = some (.slice A0_1 l0_1.length c0_1) := (blk_cell BK424.out 1).trans rfl; have hfz11_0 := blk_frozen BK424.out 0; have hfz11_1 := blk_frozen BK424.out 1) | ((with_reducible refine gate_callee (f := 29) rfl ?_); refine goesL_ (some 20) rfl rfl Tryd.func29 (by kernel_rfl) rfl #[.slice A1 l1.length c1, .int .i64 a0_0] rfl (by (try simp only [List.map_toArray, List.map_cons, List.map_nil]); first | done | rfl | (simp only [List.length_drop, List.length_take]; rfl)) ?_; (with_reducible refine (liaison_CheckGroups.calls _ _ l1 a0_0 t426 _ ?side1 ?side2 A5.out).mono ?_); (case side1 => repeat (first | exact (Kd.C_below HR1.out HB.out) | (with_reducible refine Kd.C_alloc ?_ _) | (with_reducible refine Kd.C_drewN ?_ _) | (with_reducible refine Kd.C_drew ?_))); (case side2 => exact HC1.out); rintro e w12 ⟨rfl, hb⟩; refine ⟨_, rfl, ?_⟩; have n0_ := Aside0.mk (blk_below (g := gb424) (o := .cells #[.int .i64 a0_0, .slice A0_1 l0_1.length c0_1] 28 (0, 0)) (by (with_reducible repeat (first | refine blk_drewN ?_ _ | refine blk_drew ?_ | refine blk_alloc ?_ _)); exact BK424.out) hb); have n1_ := Aside0.mk (below_step (by repeat (first | (with_reducible first | exact HB.out | apply below_alloc | apply pw_below_drewN | apply below_drew1 | refine below_set ?_ GE424.out) | exact HB.out)) hb); clear BK424; clear HB; have BK424 := n0_; have HB := n1_; clear n0_ n1_; (try clear hb); (try clear hb2); (try clear hk); (try clear hi); have hcz13_0 : w12.cell? ⟨gb424, 0, none⟩ = some (.int .i64 a0_0) := (blk_cell BK424.out 0).trans rfl; have hcz13_1 : w12.cell? ⟨gb424, 1, none⟩ = some (.slice A0_1 l0_1.length c0_1) := (blk_cell BK424.out 1).trans rfl; have hfz13_0 := blk_frozen BK424.out 0; have hfz13_1 := blk_frozen BK424.out 1) | ((with_reducible refine gate_callee (f := 46) rfl ?_); refine goesL_ (some 25) rfl rfl Tryd.func46 (by kernel_rfl) rfl #[.agg #[.int .i64 a0_0, .slice A0_1 l0_1.length c0_1]] rfl (by (try simp only [List.map_toArray, List.map_cons, List.map_nil]); first | done | rfl | (simp only [List.length_drop, List.length_take]; rfl)) ?_; (with_reducible refine (liaison_linked.calls k a0_0 _ _ l0_1 t427 _ ?side1 ?side2 A7.out).mono ?_); (case side1 => repeat (first | exact (Kd.C_below HR0_1.out HB.out) | (with_reducible refine Kd.C_alloc ?_ _) | (with_reducible refine Kd.C_drewN ?_ _) | (with_reducible refine Kd.C_drew ?_))); (case side2 => exact HC0_1.out); rintro e w14 ⟨v428, rfl, ho0, hb⟩; refine ⟨_, rfl, ?_⟩; have n0_ := Aside0.mk (Kd.R_lower ho0 (below_size (by repeat (first | (with_reducible first | exact HB.out | apply below_alloc | apply pw_below_drewN | apply below_drew1 | refine below_set ?_ GE424.out) | exact HB.out)))); have n1_ := Aside0.mk (blk_below (g := gb424) (o := .cells #[.int .i64 a0_0, .slice A0_1 l0_1.length c0_1] 28 (0, 0)) (by (with_reducible repeat (first | refine blk_drewN ?_ _ | refine blk_drew ?_ | refine blk_alloc ?_ _)); exact BK424.out) hb); have n2_ := Aside0.mk (below_step (by repeat (first | (with_reducible first | exact HB.out | apply below_alloc | apply pw_below_drewN | apply below_drew1 | refine below_set ?_ GE424.out) | exact HB.out)) hb); clear BK424; clear HB; have HO429 := n0_; have BK424 := n1_; have HB := n2_; clear n0_ n1_ n2_; (try clear hb); (try clear hb2); (try clear hk); (try clear hi); (try clear ho0)))
   go_loopg [9, 28] k (fun kq v9 v28 w' => ∃ (x9_1 : List Int) (x28_1 : Int), v28 = .int .i64 x28_1 ∧ Aside0 (liaison_Loose.l0 kq t427 x9_1 l1 (l1.length : Int) x28_1 = some (r1, r2)) ∧ Aside0 (kq ≤ k) ∧ Aside0 (Kd.R (Kd.int .u64) 71 w' w.heap.size (fun _ => True) v428 t427) ∧ Aside0 (Kd.R (Kd.int .i64) 3 w' w.heap.size (fun _ => True) v9 x9_1) ∧ Aside0 (w'.heap[gb424]? = some (.cells #[.int .i64 a0_0, (.slice A0_1 l0_1.length c0_1)] 28 (0, 0))) ∧ Aside0 (Below w.heap.size w w'))
   case atStart => exact ⟨(([] : List Int)), (0), (by first | rfl | (simp; done) | (simp [*]; done)), H', ⟨Nat.le_refl _⟩, ⟨by (with_reducible repeat (first | apply Kd.R_alloc | apply Kd.R_drewN | apply Kd.R_drew)); exact HO429.out⟩, ⟨by first | exact Kd.R_nil _ _ _ _ _ | exact Kd.N_nil _ _ _ _ _ | exact Kd.V_nil _ _ _ _ _ | exact Kd.Q_nil _ _ _ _ _ | exact Kd.S_nil _ _ _ _ _⟩, ⟨by (with_reducible repeat (first | refine blk_drewN ?_ _ | refine blk_drew ?_ | refine blk_alloc ?_ _)); exact BK424.out⟩, ⟨by repeat (first | (with_reducible first | exact HB.out | apply below_alloc | apply pw_below_drewN | apply below_drew1 | refine below_set ?_ GE424.out) | exact HB.out)⟩⟩
   case round =>
    clear H'
    try clear c1
    try clear c2
    try clear p2
    try clear c4
    try clear c4b0
    try clear c4b1
    try clear c6
    try clear c6b0
    try clear c6b1
    try clear hcz11_0
    try clear hcz11_1
    try clear hcz13_0
    try clear hcz13_1
    try clear hcz9_0
    try clear hcz9_1
    try clear hfz11_0
    try clear hfz11_1
    try clear hfz13_0
    try clear hfz13_1
    try clear hfz9_0
    try clear hfz9_1
    obtain ⟨x9_1, x28_1, rfl, HA, HK1, HO_8, HO_9, BK424, HB⟩ := hrel
    cases gk with
    | zero => exact absurd HA.out (by simp [liaison_Loose.l0])
    | succ k1 =>
     have H := HA.out
     clear HA
     simp only [liaison_Loose.l0] at H
     by_cases c15 : x28_1 < (l1.length : Int)
     ·rw [if_pos c15] at H
      have c15b0 : decide (x28_1 < (l1.length : Int)) = true := decide_eq_true c15
      clear c15
      by_cases c16 : 0 ≤ x28_1
      ·rw [if_pos c16] at H
       have c16b0 : decide (0 ≤ x28_1) = true := decide_eq_true c16
       clear c16
       by_cases c17 : x28_1 < (l1.length : Int)
       ·rw [if_pos c17] at H
        have c17b0 : decide (x28_1 < (l1.length : Int)) = true := decide_eq_true c17
        clear c17
        replace H := Option.bind_eq_some_iff.mp H
        obtain ⟨t432, A180, H⟩ := H
        replace H : ((liaison_links_connected.f k1 t427 t432).bind fun t433 => (if t433 = true then (liaison_Loose.l0 k1 t427 x9_1 l1 (l1.length : Int) (wrap64 (x28_1 + 1))) else (if x9_1.length < 17592186044416 then (liaison_Loose.l0 k1 t427 (x9_1 ++ [x28_1]) l1 (l1.length : Int) (wrap64 (x28_1 + 1))) else (none)))) = some (r1, r2) := H
        have A18 := Aside0.mk A180
        clear A180
        replace H := Option.bind_eq_some_iff.mp H
        obtain ⟨t433, A190, H⟩ := H
        replace H : (if t433 = true then (liaison_Loose.l0 k1 t427 x9_1 l1 (l1.length : Int) (wrap64 (x28_1 + 1))) else (if x9_1.length < 17592186044416 then (liaison_Loose.l0 k1 t427 (x9_1 ++ [x28_1]) l1 (l1.length : Int) (wrap64 (x28_1 + 1))) else (none))) = some (r1, r2) := H
        have A19 := Aside0.mk A190
        clear A190
        by_cases c20 : t433 = true
        ·subst c20
         have H1 : (liaison_Loose.l0 k1 t427 x9_1 l1 (l1.length : Int) (wrap64 (x28_1 + 1))) = some (r1, r2) := by rw [if_pos rfl] at H; exact H
         clear H
         have H := H1
         clear H1
         have H' := Aside0.mk H
         clear H
         have p430 : 0 ≤ (x28_1 : Int) := of_decide_eq_true (by first | (with_reducible assumption) | assumption)
         have q430 : x28_1 < (l1.length : Int) := of_decide_eq_true (by first | (with_reducible assumption) | assumption)
         obtain ⟨ad430, A430_1, c430_1, e430, hx430_0, hx430_1, hl430_1, hi430_1⟩ := at_T57 HR1.out x28_1 p430 q430
         cases e430
         replace hx430_0 := (HB.out.cell (World.block_lt_of_cell? w _ hx430_0)).trans hx430_0
         replace hx430_1 := (HB.out.cell (World.block_lt_of_cell? w _ hx430_1)).trans hx430_1
         have HR430_1 := Aside0.mk hi430_1
         have HC430_1 := Aside0.mk hl430_1
         clear hi430_1 hl430_1
         replace p430 := eq_true p430
         replace q430 := eq_true q430
         go_wp2_with (first | ((with_reducible refine gate_dst (N := 11) rfl ?_); refine box_event ?hg (N := 11) ?hd (cs := #[.string (⟨#[]⟩ : ByteArray), .slice none 0 0]) (t := 57) ?hr ?_; (case hd => rfl); (case hg => rfl); (case hr => first | (go_simp; done) | (go_simp; rfl)); intro gb431 hg w21 hbox hb; have n0_ := Aside0.mk (Kd.R_below (by (with_reducible repeat (first | apply Kd.R_alloc | apply Kd.R_drewN | apply Kd.R_drew)); exact HO_8.out) hb); have n1_ := Aside0.mk (Kd.R_below (by (with_reducible repeat (first | apply Kd.R_alloc | apply Kd.R_drewN | apply Kd.R_drew)); exact HO_9.out) hb); have n2_ := Aside0.mk (blk_below (g := gb424) (o := .cells #[.int .i64 a0_0, .slice A0_1 l0_1.length c0_1] 28 (0, 0)) (by (with_reducible repeat (first | refine blk_drewN ?_ _ | refine blk_drew ?_ | refine blk_alloc ?_ _)); exact BK424.out) hb); have n3_ := Aside0.mk (below_step (by repeat (first | (with_reducible first | exact HB.out | apply below_alloc | apply pw_below_drewN | apply below_drew1 | refine below_set ?_ GE424.out) | exact HB.out)) hb); have n4_ := Aside0.mk (hbox); have n5_ := Aside0.mk ((by rw [hg]; exact (below_size (by repeat (first | (with_reducible first | exact HB.out | apply below_alloc | apply pw_below_drewN | apply below_drew1 | refine below_set ?_ GE424.out) | exact HB.out))) : w.heap.size ≤ gb431)); have n6_ := Aside0.mk ((by rw [hg]; exact (below_size (by repeat (first | (with_reducible first | exact HB.out | apply below_alloc | apply pw_below_drewN | apply below_drew1 | refine below_set ?_ GE424.out) | exact HB.out))) : w.heap.size ≤ gb431)); have n7_ := Aside0.mk ((by rw [hg]; exact Nat.ne_of_lt (blk_lt (g := gb424) (o := .cells #[.int .i64 a0_0, .slice A0_1 l0_1.length c0_1] 28 (0, 0)) (by (with_reducible repeat (first | refine blk_drewN ?_ _ | refine blk_drew ?_ | refine blk_alloc ?_ _)); exact BK424.out)) : gb424 ≠ gb431)); have n8_ := Aside0.mk ((by rw [hg]; exact Nat.ne_of_gt (blk_lt (g := gb424) (o := .cells #[.int .i64 a0_0, .slice A0_1 l0_1.length c0_1] 28 (0, 0)) (by (with_reducible repeat (first | refine blk_drewN ?_ _ | refine blk_drew ?_ | refine blk_alloc ?_ _)); exact BK424.out)) : gb431 ≠ gb424)); clear HO_8; clear HO_9; clear BK424; clear HB; have HO_8 := n0_; have HO_9 := n1_; have BK424 := n2_; have HB := n3_; have BK431 := n4_; have GW431 := n5_; have GE431 := n6_; have NB424_431 := n7_; have NB431_424 := n8_; clear n0_ n1_ n2_ n3_ n4_ n5_ n6_ n7_ n8_; clear hb hbox hg; have hnb22 := NB431_424.out; have hnc22 := NB424_431.out; have hcz23_0 : w21.cell? ⟨gb431, 0, none⟩ = some (.string (⟨#[]⟩ : ByteArray)) := (blk_cell BK431.out 0).trans rfl; have hcz23_1 : w21.cell? ⟨gb431, 1, none⟩ = some (.slice none 0 0) := (blk_cell BK431.out 1).trans rfl; have hfz23_0 := blk_frozen BK431.out 0; have hfz23_1 := blk_frozen BK431.out 1) | ((with_reducible refine gate_callee (f := 47) rfl ?_); refine goesL_ (some 36) rfl rfl Tryd.func47 (by kernel_rfl) rfl #[.slice A430_1 ((rd_T57 l1 x28_1).f1).length c430_1] rfl (by (try simp only [List.map_toArray, List.map_cons, List.map_nil]); first | done | rfl | (simp only [List.length_drop, List.length_take]; rfl)) ?_; (with_reducible refine (liaison_masked.calls k1 _ _ ((rd_T57 l1 x28_1).f1) t432 _ ?side1 ?side2 A18.out).mono ?_); (case side1 => exact Kd.C_below HR430_1.out (by repeat (first | (with_reducible first | exact HB.out | apply below_alloc | apply pw_below_drewN | apply below_drew1 | refine below_set ?_ GE424.out | refine below_set ?_ GE431.out) | exact HB.out))); (case side2 => exact HC430_1.out); rintro e w' ⟨rfl, ⟨nd, rfl⟩⟩; refine ⟨_, rfl, ?_⟩; obtain ⟨Ao24, co24, eo24⟩ := Kd.R_slice HO_8.out; subst eo24) | ((with_reducible refine gate_callee (f := 35) rfl ?_); refine goesL_ (some 37) rfl rfl Tryd.func35 (by kernel_rfl) rfl #[.slice Ao24 t427.length co24, .int .u64 t432] rfl (by (try simp only [List.map_toArray, List.map_cons, List.map_nil]); first | done | rfl | (simp only [List.length_drop, List.length_take]; rfl)) ?_; (with_reducible refine (liaison_links_connected.calls k1 _ _ t427 t432 true _ ?side1 ?side2 ?side3 A19.out).mono ?_); (case side1 => refine (Kd.R_reads' (e := 71) (base := w.heap.size) (ok := fun k_ => True) (n := t427.length) (c := co24) ?_).2.2; exact (by (with_reducible repeat (first | apply Kd.R_alloc | apply Kd.R_drewN | apply Kd.R_drew)); exact (Kd.R_mono (Kd.R_far (p := ⟨gb431, 1, none⟩) (Kd.R_far (p := ⟨gb431, 0, none⟩) (Kd.R_types HO_8.out BK431.out (by decide)) (fun _ hk => hk.2) (.string ((rd_T57 l1 x28_1).f0))) (fun _ hk => hk.2) (.slice A430_1 ((rd_T57 l1 x28_1).f1).length c430_1)) (fun _ h_ => h_.1)))); (case side2 => exact (Kd.R_reads' HO_8.out).2.1); (case side3 => exact Kd.C_below HG.out (by repeat (first | (with_reducible first | exact HB.out | apply below_alloc | apply pw_below_drewN | apply below_drew1 | refine below_set ?_ GE424.out | refine below_set ?_ GE431.out) | exact HB.out))); rintro e w25 ⟨rfl, hb⟩; refine ⟨_, rfl, ?_⟩; have n0_ := Aside0.mk (Kd.R_below (by (with_reducible repeat (first | apply Kd.R_alloc | apply Kd.R_drewN | apply Kd.R_drew)); exact (Kd.R_mono (Kd.R_far (p := ⟨gb431, 1, none⟩) (Kd.R_far (p := ⟨gb431, 0, none⟩) (Kd.R_types HO_8.out BK431.out (by decide)) (fun _ hk => hk.2) (.string ((rd_T57 l1 x28_1).f0))) (fun _ hk => hk.2) (.slice A430_1 ((rd_T57 l1 x28_1).f1).length c430_1)) (fun _ h_ => h_.1))) hb); have n1_ := Aside0.mk (Kd.R_below (by (with_reducible repeat (first | apply Kd.R_alloc | apply Kd.R_drewN | apply Kd.R_drew)); exact (Kd.R_mono (Kd.R_far (p := ⟨gb431, 1, none⟩) (Kd.R_far (p := ⟨gb431, 0, none⟩) (Kd.R_types HO_9.out BK431.out (by decide)) (fun _ hk => hk.2) (.string ((rd_T57 l1 x28_1).f0))) (fun _ hk => hk.2) (.slice A430_1 ((rd_T57 l1 x28_1).f1).length c430_1)) (fun _ h_ => h_.1))) hb); have n2_ := Aside0.mk (blk_below (g := gb424) (o := .cells #[.int .i64 a0_0, .slice A0_1 l0_1.length c0_1] 28 (0, 0)) (by (with_reducible repeat (first | refine blk_drewN ?_ _ | refine blk_drew ?_ | refine blk_alloc ?_ _)); refine blk_far ?_ NB424_431.out _; (with_reducible repeat (first | refine blk_drewN ?_ _ | refine blk_drew ?_ | refine blk_alloc ?_ _)); refine blk_far ?_ NB424_431.out _; (with_reducible repeat (first | refine blk_drewN ?_ _ | refine blk_drew ?_ | refine blk_alloc ?_ _)); exact BK424.out) hb); have n3_ := Aside0.mk (blk_below (g := gb431) (o := .cells #[.string ((rd_T57 l1 x28_1).f0), .slice A430_1 ((rd_T57 l1 x28_1).f1).length c430_1] 57 (0, 0)) (by (with_reducible repeat (first | refine blk_drewN ?_ _ | refine blk_drew ?_ | refine blk_alloc ?_ _)); refine blk_put (cs := #[.string ((rd_T57 l1 x28_1).f0), .slice none 0 0]) ?_ 1 _ rfl; (with_reducible repeat (first | refine blk_drewN ?_ _ | refine blk_drew ?_ | refine blk_alloc ?_ _)); refine blk_put (cs := #[.string (⟨#[]⟩ : ByteArray), .slice none 0 0]) ?_ 0 _ rfl; (with_reducible repeat (first | refine blk_drewN ?_ _ | refine blk_drew ?_ | refine blk_alloc ?_ _)); exact BK431.out) hb); have n4_ := Aside0.mk (below_step (by repeat (first | (with_reducible first | exact HB.out | apply below_alloc | apply pw_below_drewN | apply below_drew1 | refine below_set ?_ GE424.out | refine below_set ?_ GE431.out) | exact HB.out)) hb); clear HO_8; clear HO_9; clear BK424; clear BK431; clear HB; have HO_8 := n0_; have HO_9 := n1_; have BK424 := n2_; have BK431 := n3_; have HB := n4_; clear n0_ n1_ n2_ n3_ n4_; (try clear hb); (try clear hb2); (try clear hk); (try clear hi)))
         go_roundg k1
         case measure => have := HK1.out; omega
         case rel => exact ⟨(x9_1), (wrap64 (x28_1 + 1)), (by first | rfl | (simp; done) | (simp [*]; done)), H', ⟨by have := HK1.out; omega⟩, ⟨by (with_reducible repeat (first | apply Kd.R_alloc | apply Kd.R_drewN | apply Kd.R_drew)); exact HO_8.out⟩, ⟨by (with_reducible repeat (first | apply Kd.R_alloc | apply Kd.R_drewN | apply Kd.R_drew)); exact HO_9.out⟩, ⟨by (with_reducible repeat (first | refine blk_drewN ?_ _ | refine blk_drew ?_ | refine blk_alloc ?_ _)); exact BK424.out⟩, ⟨by repeat (first | (with_reducible first | exact HB.out | apply below_alloc | apply pw_below_drewN | apply below_drew1 | refine below_set ?_ GE424.out | refine below_set ?_ GE431.out) | exact HB.out)⟩⟩
        ·replace c20 := Bool.eq_false_iff.mpr c20
         subst c20
         have H1 : (if x9_1.length < 17592186044416 then (liaison_Loose.l0 k1 t427 (x9_1 ++ [x28_1]) l1 (l1.length : Int) (wrap64 (x28_1 + 1))) else (none)) = some (r1, r2) := by rw [if_neg (show ¬ (false = true) by decide)] at H; exact H
         clear H
         have H := H1
         clear H1
         by_cases c26 : x9_1.length < 17592186044416
         ·rw [if_pos c26] at H
          have LMc26 := Aside0.mk c26
          clear c26
          obtain ⟨y434, hy434⟩ : ∃ y_ : List Int, y_ = (x9_1 ++ [x28_1]) := ⟨_, rfl⟩
          replace H : (liaison_Loose.l0 k1 t427 y434 l1 (l1.length : Int) (wrap64 (x28_1 + 1))) = some (r1, r2) := by first | (rw [hy434]; with_reducible exact H) | (have H2_ := (Option.bind_some _ _).symm.trans H; rw [hy434]; with_reducible exact H2_) | (have H2_ := (Option.bind_some _ _).symm.trans H; with_reducible exact H2_) | with_reducible exact H | (rw [hy434]; exact H) | exact H
          have Ny434 := Aside0.mk hy434
          clear hy434
          have H' := Aside0.mk H
          clear H
          have p430 : 0 ≤ (x28_1 : Int) := of_decide_eq_true (by first | (with_reducible assumption) | assumption)
          have q430 : x28_1 < (l1.length : Int) := of_decide_eq_true (by first | (with_reducible assumption) | assumption)
          obtain ⟨ad430, A430_1, c430_1, e430, hx430_0, hx430_1, hl430_1, hi430_1⟩ := at_T57 HR1.out x28_1 p430 q430
          cases e430
          replace hx430_0 := (HB.out.cell (World.block_lt_of_cell? w _ hx430_0)).trans hx430_0
          replace hx430_1 := (HB.out.cell (World.block_lt_of_cell? w _ hx430_1)).trans hx430_1
          have HR430_1 := Aside0.mk hi430_1
          have HC430_1 := Aside0.mk hl430_1
          clear hi430_1 hl430_1
          replace p430 := eq_true p430
          replace q430 := eq_true q430
          go_wp2_with (first | ((with_reducible refine gate_dst (N := 11) rfl ?_); refine box_event ?hg (N := 11) ?hd (cs := #[.string (⟨#[]⟩ : ByteArray), .slice none 0 0]) (t := 57) ?hr ?_; (case hd => rfl); (case hg => rfl); (case hr => first | (go_simp; done) | (go_simp; rfl)); intro gb431 hg w27 hbox hb; have n0_ := Aside0.mk (Kd.R_below (by (with_reducible repeat (first | apply Kd.R_alloc | apply Kd.R_drewN | apply Kd.R_drew)); exact HO_8.out) hb); have n1_ := Aside0.mk (Kd.R_below (by (with_reducible repeat (first | apply Kd.R_alloc | apply Kd.R_drewN | apply Kd.R_drew)); exact HO_9.out) hb); have n2_ := Aside0.mk (blk_below (g := gb424) (o := .cells #[.int .i64 a0_0, .slice A0_1 l0_1.length c0_1] 28 (0, 0)) (by (with_reducible repeat (first | refine blk_drewN ?_ _ | refine blk_drew ?_ | refine blk_alloc ?_ _)); exact BK424.out) hb); have n3_ := Aside0.mk (below_step (by repeat (first | (with_reducible first | exact HB.out | apply below_alloc | apply pw_below_drewN | apply below_drew1 | refine below_set ?_ GE424.out) | exact HB.out)) hb); have n4_ := Aside0.mk (hbox); have n5_ := Aside0.mk ((by rw [hg]; exact (below_size (by repeat (first | (with_reducible first | exact HB.out | apply below_alloc | apply pw_below_drewN | apply below_drew1 | refine below_set ?_ GE424.out) | exact HB.out))) : w.heap.size ≤ gb431)); have n6_ := Aside0.mk ((by rw [hg]; exact (below_size (by repeat (first | (with_reducible first | exact HB.out | apply below_alloc | apply pw_below_drewN | apply below_drew1 | refine below_set ?_ GE424.out) | exact HB.out))) : w.heap.size ≤ gb431)); have n7_ := Aside0.mk ((by rw [hg]; exact Nat.ne_of_lt (blk_lt (g := gb424) (o := .cells #[.int .i64 a0_0, .slice A0_1 l0_1.length c0_1] 28 (0, 0)) (by (with_reducible repeat (first | refine blk_drewN ?_ _ | refine blk_drew ?_ | refine blk_alloc ?_ _)); exact BK424.out)) : gb424 ≠ gb431)); have n8_ := Aside0.mk ((by rw [hg]; exact Nat.ne_of_gt (blk_lt (g := gb424) (o := .cells #[.int .i64 a0_0, .slice A0_1 l0_1.length c0_1] 28 (0, 0)) (by (with_reducible repeat (first | refine blk_drewN ?_ _ | refine blk_drew ?_ | refine blk_alloc ?_ _)); exact BK424.out)) : gb431 ≠ gb424)); clear HO_8; clear HO_9; clear BK424; clear HB; have HO_8 := n0_; have HO_9 := n1_; have BK424 := n2_; have HB := n3_; have BK431 := n4_; have GW431 := n5_; have GE431 := n6_; have NB424_431 := n7_; have NB431_424 := n8_; clear n0_ n1_ n2_ n3_ n4_ n5_ n6_ n7_ n8_; clear hb hbox hg; have hnb28 := NB431_424.out; have hnc28 := NB424_431.out; have hcz29_0 : w27.cell? ⟨gb431, 0, none⟩ = some (.string (⟨#[]⟩ : ByteArray)) := (blk_cell BK431.out 0).trans rfl; have hcz29_1 : w27.cell? ⟨gb431, 1, none⟩ = some (.slice none 0 0) := (blk_cell BK431.out 1).trans rfl; have hfz29_0 := blk_frozen BK431.out 0; have hfz29_1 := blk_frozen BK431.out 1) | ((with_reducible refine gate_callee (f := 47) rfl ?_); refine goesL_ (some 36) rfl rfl Tryd.func47 (by kernel_rfl) rfl #[.slice A430_1 ((rd_T57 l1 x28_1).f1).length c430_1] rfl (by (try simp only [List.map_toArray, List.map_cons, List.map_nil]); first | done | rfl | (simp only [List.length_drop, List.length_take]; rfl)) ?_; (with_reducible refine (liaison_masked.calls k1 _ _ ((rd_T57 l1 x28_1).f1) t432 _ ?side1 ?side2 A18.out).mono ?_); (case side1 => exact Kd.C_below HR430_1.out (by repeat (first | (with_reducible first | exact HB.out | apply below_alloc | apply pw_below_drewN | apply below_drew1 | refine below_set ?_ GE424.out | refine below_set ?_ GE431.out) | exact HB.out))); (case side2 => exact HC430_1.out); rintro e w' ⟨rfl, ⟨nd, rfl⟩⟩; refine ⟨_, rfl, ?_⟩; obtain ⟨Ao30, co30, eo30⟩ := Kd.R_slice HO_8.out; subst eo30) | ((with_reducible refine gate_callee (f := 35) rfl ?_); refine goesL_ (some 37) rfl rfl Tryd.func35 (by kernel_rfl) rfl #[.slice Ao30 t427.length co30, .int .u64 t432] rfl (by (try simp only [List.map_toArray, List.map_cons, List.map_nil]); first | done | rfl | (simp only [List.length_drop, List.length_take]; rfl)) ?_; (with_reducible refine (liaison_links_connected.calls k1 _ _ t427 t432 false _ ?side1 ?side2 ?side3 A19.out).mono ?_); (case side1 => refine (Kd.R_reads' (e := 71) (base := w.heap.size) (ok := fun k_ => True) (n := t427.length) (c := co30) ?_).2.2; exact (by (with_reducible repeat (first | apply Kd.R_alloc | apply Kd.R_drewN | apply Kd.R_drew)); exact (Kd.R_mono (Kd.R_far (p := ⟨gb431, 1, none⟩) (Kd.R_far (p := ⟨gb431, 0, none⟩) (Kd.R_types HO_8.out BK431.out (by decide)) (fun _ hk => hk.2) (.string ((rd_T57 l1 x28_1).f0))) (fun _ hk => hk.2) (.slice A430_1 ((rd_T57 l1 x28_1).f1).length c430_1)) (fun _ h_ => h_.1)))); (case side2 => exact (Kd.R_reads' HO_8.out).2.1); (case side3 => exact Kd.C_below HG.out (by repeat (first | (with_reducible first | exact HB.out | apply below_alloc | apply pw_below_drewN | apply below_drew1 | refine below_set ?_ GE424.out | refine below_set ?_ GE431.out) | exact HB.out))); rintro e w31 ⟨rfl, hb⟩; refine ⟨_, rfl, ?_⟩; have n0_ := Aside0.mk (Kd.R_below (by (with_reducible repeat (first | apply Kd.R_alloc | apply Kd.R_drewN | apply Kd.R_drew)); exact (Kd.R_mono (Kd.R_far (p := ⟨gb431, 1, none⟩) (Kd.R_far (p := ⟨gb431, 0, none⟩) (Kd.R_types HO_8.out BK431.out (by decide)) (fun _ hk => hk.2) (.string ((rd_T57 l1 x28_1).f0))) (fun _ hk => hk.2) (.slice A430_1 ((rd_T57 l1 x28_1).f1).length c430_1)) (fun _ h_ => h_.1))) hb); have n1_ := Aside0.mk (Kd.R_below (by (with_reducible repeat (first | apply Kd.R_alloc | apply Kd.R_drewN | apply Kd.R_drew)); exact (Kd.R_mono (Kd.R_far (p := ⟨gb431, 1, none⟩) (Kd.R_far (p := ⟨gb431, 0, none⟩) (Kd.R_types HO_9.out BK431.out (by decide)) (fun _ hk => hk.2) (.string ((rd_T57 l1 x28_1).f0))) (fun _ hk => hk.2) (.slice A430_1 ((rd_T57 l1 x28_1).f1).length c430_1)) (fun _ h_ => h_.1))) hb); have n2_ := Aside0.mk (blk_below (g := gb424) (o := .cells #[.int .i64 a0_0, .slice A0_1 l0_1.length c0_1] 28 (0, 0)) (by (with_reducible repeat (first | refine blk_drewN ?_ _ | refine blk_drew ?_ | refine blk_alloc ?_ _)); refine blk_far ?_ NB424_431.out _; (with_reducible repeat (first | refine blk_drewN ?_ _ | refine blk_drew ?_ | refine blk_alloc ?_ _)); refine blk_far ?_ NB424_431.out _; (with_reducible repeat (first | refine blk_drewN ?_ _ | refine blk_drew ?_ | refine blk_alloc ?_ _)); exact BK424.out) hb); have n3_ := Aside0.mk (blk_below (g := gb431) (o := .cells #[.string ((rd_T57 l1 x28_1).f0), .slice A430_1 ((rd_T57 l1 x28_1).f1).length c430_1] 57 (0, 0)) (by (with_reducible repeat (first | refine blk_drewN ?_ _ | refine blk_drew ?_ | refine blk_alloc ?_ _)); refine blk_put (cs := #[.string ((rd_T57 l1 x28_1).f0), .slice none 0 0]) ?_ 1 _ rfl; (with_reducible repeat (first | refine blk_drewN ?_ _ | refine blk_drew ?_ | refine blk_alloc ?_ _)); refine blk_put (cs := #[.string (⟨#[]⟩ : ByteArray), .slice none 0 0]) ?_ 0 _ rfl; (with_reducible repeat (first | refine blk_drewN ?_ _ | refine blk_drew ?_ | refine blk_alloc ?_ _)); exact BK431.out) hb); have n4_ := Aside0.mk (below_step (by repeat (first | (with_reducible first | exact HB.out | apply below_alloc | apply pw_below_drewN | apply below_drew1 | refine below_set ?_ GE424.out | refine below_set ?_ GE431.out) | exact HB.out)) hb); clear HO_8; clear HO_9; clear BK424; clear BK431; clear HB; have HO_8 := n0_; have HO_9 := n1_; have BK424 := n2_; have BK431 := n3_; have HB := n4_; clear n0_ n1_ n2_ n3_ n4_; (try clear hb); (try clear hb2); (try clear hk); (try clear hi)) | ((with_reducible refine gate_builtin (b := .append) (xs := #[.tmp 39, .tmp 41]) rfl ?_); at_builtin; refine Kd.R_append (Kd.int .i64) (w0 := w) w.heap.size rfl (.tmp 39) (.tmp 41) 23 3 (.int .i64 0) 8 rfl Tryd.underlying23 info3 rfl (by decide) (by omega) u9 x9_1 x28_1 [.int .i64 x28_1] (fun _ => True) (fun _ => False) rfl rfl ?aP (fun _ hk => hk.elim) ?aF ?aO ?aB ?aS ?aL ?_; (case aP => exact rfl); (case aB => exact (by repeat (first | (with_reducible first | exact HB.out | apply below_alloc | apply pw_below_drewN | apply below_drew1 | refine below_set ?_ GE424.out | refine below_set ?_ GE431.out) | exact HB.out))); (case aF => exact (fun _ _ => trivial)); (case aO => exact (by (with_reducible repeat (first | apply Kd.R_alloc | apply Kd.R_drewN | apply Kd.R_drew)); exact HO_9.out)); (case aS => exact (below_size (by repeat (first | (with_reducible first | exact HB.out | apply below_alloc | apply pw_below_drewN | apply below_drew1 | refine below_set ?_ GE424.out | refine below_set ?_ GE431.out) | exact HB.out)))); (case aL => have := LMc26.out; omega); intro v435 w32 ho hb hg hat; rw [← Ny434.out] at ho; have n0_ := Aside0.mk (Kd.R_over' (by (with_reducible repeat (first | apply Kd.R_alloc | apply Kd.R_drewN | apply Kd.R_drew)); exact HO_8.out) (Kd.R_typed (by (with_reducible repeat (first | apply Kd.R_alloc | apply Kd.R_drewN | apply Kd.R_drew)); exact HO_9.out)) (by decide) hg); have n1_ := Aside0.mk (blk_grown (g := gb424) (o := .cells #[.int .i64 a0_0, .slice A0_1 l0_1.length c0_1] 28 (0, 0)) (by (with_reducible repeat (first | refine blk_drewN ?_ _ | refine blk_drew ?_ | refine blk_alloc ?_ _)); exact BK424.out) hg (Kd.R_ne HO_9.out BK424.out (by decide))); have n2_ := Aside0.mk (blk_grown (g := gb431) (o := .cells #[.string ((rd_T57 l1 x28_1).f0), .slice A430_1 ((rd_T57 l1 x28_1).f1).length c430_1] 57 (0, 0)) (by (with_reducible repeat (first | refine blk_drewN ?_ _ | refine blk_drew ?_ | refine blk_alloc ?_ _)); exact BK431.out) hg (Kd.R_ne HO_9.out BK431.out (by decide))); have n3_ := Aside0.mk (hb); have n4_ := Aside0.mk (ho); clear HO_8; clear BK424; clear BK431; clear HB; clear HO_9; have HO_8 := n0_; have BK424 := n1_; have BK431 := n2_; have HB := n3_; have HO436 := n4_; clear n0_ n1_ n2_ n3_ n4_; clear ho hb hg hat))
          go_roundg k1
          case measure => have := HK1.out; omega
          case rel => exact ⟨(y434), (wrap64 (x28_1 + 1)), (by first | rfl | (simp; done) | (simp [*]; done)), H', ⟨by have := HK1.out; omega⟩, ⟨by (with_reducible repeat (first | apply Kd.R_alloc | apply Kd.R_drewN | apply Kd.R_drew)); exact HO_8.out⟩, ⟨by (with_reducible repeat (first | apply Kd.R_alloc | apply Kd.R_drewN | apply Kd.R_drew)); exact HO436.out⟩, ⟨by (with_reducible repeat (first | refine blk_drewN ?_ _ | refine blk_drew ?_ | refine blk_alloc ?_ _)); exact BK424.out⟩, ⟨by repeat (first | (with_reducible first | exact HB.out | apply below_alloc | apply pw_below_drewN | apply below_drew1 | refine below_set ?_ GE424.out | refine below_set ?_ GE431.out) | exact HB.out)⟩⟩
         ·rw [if_neg c26] at H
          exact absurd H (by simp)
       ·rw [if_neg c17] at H
        exact absurd H (by simp)
      ·rw [if_neg c16] at H
       exact absurd H (by simp)
     ·rw [if_neg c15] at H
      have c15b0 : decide (x28_1 < (l1.length : Int)) = false := decide_eq_false c15
      clear c15
      simp only [Option.some.injEq, Prod.mk.injEq] at H
      obtain ⟨rfl, rfl⟩ := H
      go_wp2
      go_ret2
      exact ⟨_, by first | rfl | (simp [errW_none, errW_some] <;> rfl) | (simp [*, errW_none, errW_some] <;> rfl), by (with_reducible repeat (first | apply Kd.R_alloc | apply Kd.R_drewN | apply Kd.R_drew)); exact HO_9.out, by repeat (first | (with_reducible first | exact HB.out | apply below_alloc | apply pw_below_drewN | apply below_drew1 | refine below_set ?_ GE424.out) | exact HB.out)⟩
  ·rw [if_neg c6] at H
   have c6b0 : (t426 == 0) = false := beq_eq_false_iff_ne.mpr c6
   have c6b1 : (t426 != 0) = true := bne_iff_ne.mpr c6
   simp only [Option.some.injEq, Prod.mk.injEq] at H
   obtain ⟨rfl, rfl⟩ := H
   go_enter Tryd.func24, Tryd.ntmps24
   go_wp2_with (first | ((with_reducible refine gate_dst (N := 2) rfl ?_); refine box_event ?hg (N := 2) ?hd (cs := #[.int .i64 a0_0, .slice A0_1 l0_1.length c0_1]) (t := 28) ?hr ?_; (case hd => rfl); (case hg => rfl); (case hr => first | (go_simp; done) | (go_simp; rfl)); intro gb424 hg w33 hbox hb; have n0_ := Aside0.mk (below_step (by repeat (first | (with_reducible first | exact HB.out | apply below_alloc | apply pw_below_drewN | apply below_drew1) | exact HB.out)) hb); have n1_ := Aside0.mk (hbox); have n2_ := Aside0.mk ((by rw [hg]; exact (below_size (by repeat (first | (with_reducible first | exact HB.out | apply below_alloc | apply pw_below_drewN | apply below_drew1) | exact HB.out))) : w.heap.size ≤ gb424)); have n3_ := Aside0.mk ((by rw [hg]; exact (below_size (by repeat (first | (with_reducible first | exact HB.out | apply below_alloc | apply pw_below_drewN | apply below_drew1) | exact HB.out))) : w.heap.size ≤ gb424)); clear HB; have HB := n0_; have BK424 := n1_; have GW424 := n2_; have GE424 := n3_; clear n0_ n1_ n2_ n3_; clear hb hbox hg; have hcz34_0 : w33.cell? ⟨gb424, 0, none⟩ = some (.int .i64 a0_0) := (blk_cell BK424.out 0).trans rfl; have hcz34_1 : w33.cell? ⟨gb424, 1, none⟩ = some (.slice A0_1 l0_1.length c0_1) := (blk_cell BK424.out 1).trans rfl; have hfz34_0 := blk_frozen BK424.out 0; have hfz34_1 := blk_frozen BK424.out 1) | ((with_reducible refine gate_callee (f := 45) rfl ?_); refine goesL_ (some 13) rfl rfl Tryd.func45 (by kernel_rfl) rfl #[.agg #[.int .i64 a0_0, .slice A0_1 l0_1.length c0_1]] rfl (by (try simp only [List.map_toArray, List.map_cons, List.map_nil]); first | done | rfl | (simp only [List.length_drop, List.length_take]; rfl)) ?_; (with_reducible refine (liaison_Check.calls k a0_0 _ _ l0_1 t425 _ ?side1 ?side2 A3.out).mono ?_); (case side1 => repeat (first | exact (Kd.C_below HR0_1.out HB.out) | (with_reducible refine Kd.C_alloc ?_ _) | (with_reducible refine Kd.C_drewN ?_ _) | (with_reducible refine Kd.C_drew ?_))); (case side2 => exact HC0_1.out); rintro e w35 ⟨rfl, hb⟩; refine ⟨_, rfl, ?_⟩; have n0_ := Aside0.mk (blk_below (g := gb424) (o := .cells #[.int .i64 a0_0, .slice A0_1 l0_1.length c0_1] 28 (0, 0)) (by (with_reducible repeat (first | refine blk_drewN ?_ _ | refine blk_drew ?_ | refine blk_alloc ?_ _)); exact BK424.out) hb); have n1_ := Aside0.mk (below_step (by repeat (first | (with_reducible first | exact HB.out | apply below_alloc | apply pw_below_drewN | apply below_drew1 | refine below_set ?_ GE424.out) | exact HB.out)) hb); clear BK424; clear HB; have BK424 := n0_; have HB := n1_; clear n0_ n1_; (try clear hb); (try clear hb2); (try clear hk); (try clear hi); have hcz36_0 : w35.cell? ⟨gb424, 0, none⟩ = some (.int .i64 a0_0) := (blk_cell BK424.out 0).trans rfl; have hcz36_1 : w35.cell? ⟨gb424, 1, none⟩ = some (.slice A0_1 l0_1.length c0_1) := (blk_cell BK424.out 1).trans rfl; have hfz36_0 := blk_frozen BK424.out 0; have hfz36_1 := blk_frozen BK424.out 1) | ((with_reducible refine gate_callee (f := 29) rfl ?_); refine goesL_ (some 20) rfl rfl Tryd.func29 (by kernel_rfl) rfl #[.slice A1 l1.length c1, .int .i64 a0_0] rfl (by (try simp only [List.map_toArray, List.map_cons, List.map_nil]); first | done | rfl | (simp only [List.length_drop, List.length_take]; rfl)) ?_; (with_reducible refine (liaison_CheckGroups.calls _ _ l1 a0_0 t426 _ ?side1 ?side2 A5.out).mono ?_); (case side1 => repeat (first | exact (Kd.C_below HR1.out HB.out) | (with_reducible refine Kd.C_alloc ?_ _) | (with_reducible refine Kd.C_drewN ?_ _) | (with_reducible refine Kd.C_drew ?_))); (case side2 => exact HC1.out); rintro e w37 ⟨rfl, hb⟩; refine ⟨_, rfl, ?_⟩; have n0_ := Aside0.mk (blk_below (g := gb424) (o := .cells #[.int .i64 a0_0, .slice A0_1 l0_1.length c0_1] 28 (0, 0)) (by (with_reducible repeat (first | refine blk_drewN ?_ _ | refine blk_drew ?_ | refine blk_alloc ?_ _)); exact BK424.out) hb); have n1_ := Aside0.mk (below_step (by repeat (first | (with_reducible first | exact HB.out | apply below_alloc | apply pw_below_drewN | apply below_drew1 | refine below_set ?_ GE424.out) | exact HB.out)) hb); clear BK424; clear HB; have BK424 := n0_; have HB := n1_; clear n0_ n1_; (try clear hb); (try clear hb2); (try clear hk); (try clear hi)))
   go_ret2
   exact ⟨_, by first | rfl | (simp [errW_none, errW_some] <;> rfl) | (simp [*, errW_none, errW_some] <;> rfl), by first | exact Kd.R_nil _ _ _ _ _ | exact Kd.N_nil _ _ _ _ _ | exact Kd.V_nil _ _ _ _ _ | exact Kd.Q_nil _ _ _ _ _ | exact Kd.S_nil _ _ _ _ _, by repeat (first | (with_reducible first | exact HB.out | apply below_alloc | apply pw_below_drewN | apply below_drew1 | refine below_set ?_ GE424.out) | exact HB.out)⟩
 ·rw [if_neg c4] at H
  have c4b0 : (t425 == 0) = false := beq_eq_false_iff_ne.mpr c4
  have c4b1 : (t425 != 0) = true := bne_iff_ne.mpr c4
  simp only [Option.some.injEq, Prod.mk.injEq] at H
  obtain ⟨rfl, rfl⟩ := H
  go_enter Tryd.func24, Tryd.ntmps24
  go_wp2_with (first | ((with_reducible refine gate_dst (N := 2) rfl ?_); refine box_event ?hg (N := 2) ?hd (cs := #[.int .i64 a0_0, .slice A0_1 l0_1.length c0_1]) (t := 28) ?hr ?_; (case hd => rfl); (case hg => rfl); (case hr => first | (go_simp; done) | (go_simp; rfl)); intro gb424 hg w38 hbox hb; have n0_ := Aside0.mk (below_step (by repeat (first | (with_reducible first | exact HB.out | apply below_alloc | apply pw_below_drewN | apply below_drew1) | exact HB.out)) hb); have n1_ := Aside0.mk (hbox); have n2_ := Aside0.mk ((by rw [hg]; exact (below_size (by repeat (first | (with_reducible first | exact HB.out | apply below_alloc | apply pw_below_drewN | apply below_drew1) | exact HB.out))) : w.heap.size ≤ gb424)); have n3_ := Aside0.mk ((by rw [hg]; exact (below_size (by repeat (first | (with_reducible first | exact HB.out | apply below_alloc | apply pw_below_drewN | apply below_drew1) | exact HB.out))) : w.heap.size ≤ gb424)); clear HB; have HB := n0_; have BK424 := n1_; have GW424 := n2_; have GE424 := n3_; clear n0_ n1_ n2_ n3_; clear hb hbox hg; have hcz39_0 : w38.cell? ⟨gb424, 0, none⟩ = some (.int .i64 a0_0) := (blk_cell BK424.out 0).trans rfl; have hcz39_1 : w38.cell? ⟨gb424, 1, none⟩ = some (.slice A0_1 l0_1.length c0_1) := (blk_cell BK424.out 1).trans rfl; have hfz39_0 := blk_frozen BK424.out 0; have hfz39_1 := blk_frozen BK424.out 1) | ((with_reducible refine gate_callee (f := 45) rfl ?_); refine goesL_ (some 13) rfl rfl Tryd.func45 (by kernel_rfl) rfl #[.agg #[.int .i64 a0_0, .slice A0_1 l0_1.length c0_1]] rfl (by (try simp only [List.map_toArray, List.map_cons, List.map_nil]); first | done | rfl | (simp only [List.length_drop, List.length_take]; rfl)) ?_; (with_reducible refine (liaison_Check.calls k a0_0 _ _ l0_1 t425 _ ?side1 ?side2 A3.out).mono ?_); (case side1 => repeat (first | exact (Kd.C_below HR0_1.out HB.out) | (with_reducible refine Kd.C_alloc ?_ _) | (with_reducible refine Kd.C_drewN ?_ _) | (with_reducible refine Kd.C_drew ?_))); (case side2 => exact HC0_1.out); rintro e w40 ⟨rfl, hb⟩; refine ⟨_, rfl, ?_⟩; have n0_ := Aside0.mk (blk_below (g := gb424) (o := .cells #[.int .i64 a0_0, .slice A0_1 l0_1.length c0_1] 28 (0, 0)) (by (with_reducible repeat (first | refine blk_drewN ?_ _ | refine blk_drew ?_ | refine blk_alloc ?_ _)); exact BK424.out) hb); have n1_ := Aside0.mk (below_step (by repeat (first | (with_reducible first | exact HB.out | apply below_alloc | apply pw_below_drewN | apply below_drew1 | refine below_set ?_ GE424.out) | exact HB.out)) hb); clear BK424; clear HB; have BK424 := n0_; have HB := n1_; clear n0_ n1_; (try clear hb); (try clear hb2); (try clear hk); (try clear hi)))
  go_ret2
  exact ⟨_, by first | rfl | (simp [errW_none, errW_some] <;> rfl) | (simp [*, errW_none, errW_some] <;> rfl), by first | exact Kd.R_nil _ _ _ _ _ | exact Kd.N_nil _ _ _ _ _ | exact Kd.V_nil _ _ _ _ _ | exact Kd.Q_nil _ _ _ _ _ | exact Kd.S_nil _ _ _ _ _, by repeat (first | (with_reducible first | exact HB.out | apply below_alloc | apply pw_below_drewN | apply below_drew1 | refine below_set ?_ GE424.out) | exact HB.out)⟩
end
end Go.Proofs.YtbghfbhlbfcloaaDoor.PL
namespace Go.Proofs.YtbghfbhlbfcloaaDoor.PL
section
open Go.RowKit Go.Proofs.YtbghfbhlbfcloaaDoorW.PrintWords Go.Proofs.YtbghfbhlbfcloaaDoorW.PrintLast Go.Proofs.YtbghfbhlbfcloaaDoorW.PrintMore
attribute [local go_sem] max2_int min2_int max_two min_two max_three min_three max_four min_four   -- for this text's walks alone
set_option linter.unusedVariables false
set_option linter.unusedSimpArgs false
/-! ### dowellaw29_LiaisonLoose: function 5 -/
mutual
def dowellaw29_LiaisonLoose.j0 : Nat → Int → List (S57) → Bool → Option (Bool)
 | 0, _, _, _ => none
 | k + 1, x0, x1, x17 => if x17 = true then ((dowellaw29_known.f).bind fun t462 => (some t462)) else ((dowellaw29_pairs.f k x0).bind fun bt463 => ((liaison_Loose.f k bt463.1 bt463.2 x1).bind fun bt468 => ((dowellaw29_checkGroups.f k x1 6).bind fun t472 => (if t472 = 0 then (dowellaw29_LiaisonLoose.l0 k x1 bt468.1 bt468.2 ([] : List Int) 0 bt463.1 bt463.2) else (if (bt468.1.length : Int) = 0 then (some (bt468.2 == t472)) else (some false))))))
def dowellaw29_LiaisonLoose.l0 : Nat → List (S57) → List Int → Int → List Int → Int → Int → List (S68) → Option (Bool)
 | 0, _, _, _, _, _, _, _ => none
 | k + 1, x1, x6, x7, x9, x10, x468000, x468001 => if x10 < (x1.length : Int) then (if 0 ≤ x10 then ((dowellaw29_connected.f k x468000 x468001 ((rd_T57 x1 x10).f1)).bind fun t474 => (if t474 = true then (dowellaw29_LiaisonLoose.l0 k x1 x6 x7 x9 (wrap64 (x10 + 1)) x468000 x468001) else (if x9.length < 17592186044416 then (dowellaw29_LiaisonLoose.l0 k x1 x6 x7 (x9 ++ [x10]) (wrap64 (x10 + 1)) x468000 x468001) else (none)))) else (none)) else ((dowellaw29_same.f k x6 x9).bind fun t478 => (if t478 = true then (some (x7 == 0)) else (some false)))
end
def dowellaw29_LiaisonLoose.f (k : Nat) (a0 : Int) (l1 : List (S57)) : Option (Bool) := (dowellaw29_known.f).bind fun t460 => (if t460 = true then ((dowellaw29_few.f k l1).bind fun t461 => (dowellaw29_LiaisonLoose.j0 k a0 l1 (!t461))) else (dowellaw29_LiaisonLoose.j0 k a0 l1 true))
theorem dowellaw29_LiaisonLoose.mono_l : ∀ k, (∀ y0 y1 y2, LeO (dowellaw29_LiaisonLoose.j0 k y0 y1 y2) (dowellaw29_LiaisonLoose.j0 (k + 1) y0 y1 y2)) ∧ (∀ y0 y1 y2 y3 y4 y5 y6, LeO (dowellaw29_LiaisonLoose.l0 k y0 y1 y2 y3 y4 y5 y6) (dowellaw29_LiaisonLoose.l0 (k + 1) y0 y1 y2 y3 y4 y5 y6))
 | 0 => ⟨fun _ _ _ r h => by simp [dowellaw29_LiaisonLoose.j0] at h, fun _ _ _ _ _ _ _ r h => by simp [dowellaw29_LiaisonLoose.l0] at h⟩
 | k + 1 => by
  obtain ⟨ih0, ih1⟩ := dowellaw29_LiaisonLoose.mono_l k
  refine ⟨?_, ?_⟩
  ·intro y0 y1 y2
   unfold dowellaw29_LiaisonLoose.j0
   repeat' first
   | (with_reducible exact ih0 _ _ _)
   | (with_reducible exact ih1 _ _ _ _ _ _ _)
   | (with_reducible exact dowellaw29_checkGroups.mono _ _ _)
   | (with_reducible exact dowellaw29_connected.mono _ _ _ _)
   | (with_reducible exact dowellaw29_few.mono _ _)
   | (with_reducible exact dowellaw29_pairs.mono _ _)
   | (with_reducible exact dowellaw29_same.mono _ _ _)
   | (with_reducible exact liaison_Loose.mono _ _ _ _)
   | (with_reducible exact LeO.refl _)
   | (with_reducible exact LeO.none _)
   | (with_reducible refine LeO.ite ?_ ?_)
   | (with_reducible refine LeO.bind ?_ (fun _ => ?_))
   | exact ih0 _ _ _
   | exact ih1 _ _ _ _ _ _ _
   | exact dowellaw29_checkGroups.mono _ _ _
   | exact dowellaw29_connected.mono _ _ _ _
   | exact dowellaw29_few.mono _ _
   | exact dowellaw29_pairs.mono _ _
   | exact dowellaw29_same.mono _ _ _
   | exact liaison_Loose.mono _ _ _ _
   | exact LeO.none _
   | refine LeO.ite ?_ ?_
   | refine LeO.bind ?_ (fun _ => ?_)
  ·intro y0 y1 y2 y3 y4 y5 y6
   unfold dowellaw29_LiaisonLoose.l0
   repeat' first
   | (with_reducible exact ih0 _ _ _)
   | (with_reducible exact ih1 _ _ _ _ _ _ _)
   | (with_reducible exact dowellaw29_checkGroups.mono _ _ _)
   | (with_reducible exact dowellaw29_connected.mono _ _ _ _)
   | (with_reducible exact dowellaw29_few.mono _ _)
   | (with_reducible exact dowellaw29_pairs.mono _ _)
   | (with_reducible exact dowellaw29_same.mono _ _ _)
   | (with_reducible exact liaison_Loose.mono _ _ _ _)
   | (with_reducible exact LeO.refl _)
   | (with_reducible exact LeO.none _)
   | (with_reducible refine LeO.ite ?_ ?_)
   | (with_reducible refine LeO.bind ?_ (fun _ => ?_))
   | exact ih0 _ _ _
   | exact ih1 _ _ _ _ _ _ _
   | exact dowellaw29_checkGroups.mono _ _ _
   | exact dowellaw29_connected.mono _ _ _ _
   | exact dowellaw29_few.mono _ _
   | exact dowellaw29_pairs.mono _ _
   | exact dowellaw29_same.mono _ _ _
   | exact liaison_Loose.mono _ _ _ _
   | exact LeO.none _
   | refine LeO.ite ?_ ?_
   | refine LeO.bind ?_ (fun _ => ?_)
theorem dowellaw29_LiaisonLoose.mono : ∀ a0 a1 k, LeO (dowellaw29_LiaisonLoose.f k a0 a1) (dowellaw29_LiaisonLoose.f (k + 1) a0 a1) := by
 intro a0 a1 k
 obtain ⟨ih0, ih1⟩ := dowellaw29_LiaisonLoose.mono_l k
 unfold dowellaw29_LiaisonLoose.f
 repeat' first
   | (with_reducible exact ih0 _ _ _)
   | (with_reducible exact ih1 _ _ _ _ _ _ _)
   | (with_reducible exact dowellaw29_checkGroups.mono _ _ _)
   | (with_reducible exact dowellaw29_connected.mono _ _ _ _)
   | (with_reducible exact dowellaw29_few.mono _ _)
   | (with_reducible exact dowellaw29_pairs.mono _ _)
   | (with_reducible exact dowellaw29_same.mono _ _ _)
   | (with_reducible exact liaison_Loose.mono _ _ _ _)
   | (with_reducible exact LeO.refl _)
   | (with_reducible exact LeO.none _)
   | (with_reducible refine LeO.ite ?_ ?_)
   | (with_reducible refine LeO.bind ?_ (fun _ => ?_))
   | exact ih0 _ _ _
   | exact ih1 _ _ _ _ _ _ _
   | exact dowellaw29_checkGroups.mono _ _ _
   | exact dowellaw29_connected.mono _ _ _ _
   | exact dowellaw29_few.mono _ _
   | exact dowellaw29_pairs.mono _ _
   | exact dowellaw29_same.mono _ _ _
   | exact liaison_Loose.mono _ _ _ _
   | exact LeO.none _
   | refine LeO.ite ?_ ?_
   | refine LeO.bind ?_ (fun _ => ?_)
def dowellaw29_LiaisonLoose.T12 : Bool × List (List Nat × List Nat) := (true, [([], []), ([], []), ([], []), ([1, 2], [1, 2]), ([3], [3]), ([4], [4]), ([0, 5], [0, 5]), ([6], [6])])
def dowellaw29_LiaisonLoose.B12 : List Nat := [0, 0, 0, 6, 14, 30, 63, 127]
theorem dowellaw29_LiaisonLoose.tab12 : rtab .any (opsOf Tryd.f5 12) = dowellaw29_LiaisonLoose.T12 := by kernel_rfl
theorem dowellaw29_LiaisonLoose.bits12 : waitsOk dowellaw29_LiaisonLoose.T12.2 dowellaw29_LiaisonLoose.B12 = true := by kernel_rfl
set_option maxHeartbeats 8000000 in
set_option maxRecDepth 100000 in
theorem dowellaw29_LiaisonLoose.calls (k : Nat) (a0 : Int) (A1 : Option Addr) (c1 : Nat) (l1 : List (S57)) (r : Bool) (w : World) (hr1 : Kd.C k57 w A1 l1.length l1) (hc1 : l1.length ≤ c1) (hG : Kd.C (Kd.int .u8) w (some tabA) tabL.length tabL) (h : dowellaw29_LiaisonLoose.f k a0 l1 = some r) :
  Calls Tryd.prog 5 #[.int .u16 a0, .slice A1 l1.length c1] w fun e w' => e = .returned (.bool r) ∧ Below w.heap.size w w' := by
 have hu28 := Tryd.underlying28
 have HR1 := Aside0.mk hr1
 have HC1 := Aside0.mk hc1
 clear hr1 hc1
 have HB := Aside0.mk (Below.refl w.heap.size w)
 have HG := Aside0.mk hG
 clear hG
 have H : ((dowellaw29_known.f).bind fun t460 => (if t460 = true then ((dowellaw29_few.f k l1).bind fun t461 => (dowellaw29_LiaisonLoose.j0 k a0 l1 (!t461))) else (dowellaw29_LiaisonLoose.j0 k a0 l1 true))) = some r := h
 clear h
 have HC3 := Aside0.mk H
 clear H
 go_enter Tryd.func5, Tryd.ntmps5
 go_upto_region 1 with (fail)
 go_cut [17] (fun v17 wc => ∃ (kq : Nat) (x17_2 : Bool), v17 = .bool x17_2 ∧ Aside0 (dowellaw29_LiaisonLoose.j0 kq a0 l1 x17_2 = some r) ∧ Aside0 (kq ≤ k) ∧ Aside0 (Below w.heap.size w wc))
 case first =>
  have H := HC3.out
  clear HC3
  replace H := Option.bind_eq_some_iff.mp H
  obtain ⟨t460, A40, H⟩ := H
  replace H : (if t460 = true then ((dowellaw29_few.f k l1).bind fun t461 => (dowellaw29_LiaisonLoose.j0 k a0 l1 (!t461))) else (dowellaw29_LiaisonLoose.j0 k a0 l1 true)) = some r := H
  have A4 := Aside0.mk A40
  clear A40
  by_cases c5 : t460 = true
  ·subst c5
   have H1 : ((dowellaw29_few.f k l1).bind fun t461 => (dowellaw29_LiaisonLoose.j0 k a0 l1 (!t461))) = some r := by rw [if_pos rfl] at H; exact H
   clear H
   have H := H1
   clear H1
   replace H := Option.bind_eq_some_iff.mp H
   obtain ⟨t461, A60, H⟩ := H
   replace H : (dowellaw29_LiaisonLoose.j0 k a0 l1 (!t461)) = some r := H
   have A6 := Aside0.mk A60
   clear A60
   have H' := Aside0.mk H
   clear H
   go_wp2_with (first | ((with_reducible refine gate_callee (f := 8) rfl ?_); refine goesL_ (some 11) rfl rfl Tryd.func8 (by kernel_rfl) rfl #[] rfl (by (try simp only [List.map_toArray, List.map_cons, List.map_nil]); first | done | rfl | (simp only [List.length_drop, List.length_take]; rfl)) ?_; (with_reducible refine (dowellaw29_known.calls  true _ ?side1 A4.out).mono ?_); (case side1 => repeat (first | exact (Kd.C_below HG.out HB.out) | (with_reducible refine Kd.C_alloc ?_ _) | (with_reducible refine Kd.C_drewN ?_ _) | (with_reducible refine Kd.C_drew ?_))); rintro e w7 ⟨rfl, hb⟩; refine ⟨_, rfl, ?_⟩; have n0_ := Aside0.mk (below_step (by repeat (first | (with_reducible first | exact HB.out | apply below_alloc | apply pw_below_drewN | apply below_drew1) | exact HB.out)) hb); clear HB; have HB := n0_; clear n0_; (try clear hb); (try clear hb2); (try clear hk); (try clear hi)) | (go_at_call 23; (with_reducible refine (dowellaw29_few.calls k _ _ l1 t461 _ ?side1 ?side2 A6.out).mono ?_); (case side1 => repeat (first | exact (Kd.C_below HR1.out HB.out) | (with_reducible refine Kd.C_alloc ?_ _) | (with_reducible refine Kd.C_drewN ?_ _) | (with_reducible refine Kd.C_drew ?_))); (case side2 => exact HC1.out); rintro e w' ⟨rfl, ⟨nd, rfl⟩⟩))
   go_meet
   case rel => exact ⟨_, (!t461), (by first | rfl | (simp; done) | (simp [*]; done)), H', ⟨by first | omega | exact Nat.le_refl _⟩, ⟨by repeat (first | (with_reducible first | exact HB.out | apply below_alloc | apply pw_below_drewN | apply below_drew1) | exact HB.out)⟩⟩
  ·replace c5 := Bool.eq_false_iff.mpr c5
   subst c5
   have H1 : (dowellaw29_LiaisonLoose.j0 k a0 l1 true) = some r := by rw [if_neg (show ¬ (false = true) by decide)] at H; exact H
   clear H
   have H := H1
   clear H1
   have H' := Aside0.mk H
   clear H
   go_wp2_with (first | ((with_reducible refine gate_callee (f := 8) rfl ?_); refine goesL_ (some 11) rfl rfl Tryd.func8 (by kernel_rfl) rfl #[] rfl (by (try simp only [List.map_toArray, List.map_cons, List.map_nil]); first | done | rfl | (simp only [List.length_drop, List.length_take]; rfl)) ?_; (with_reducible refine (dowellaw29_known.calls  false _ ?side1 A4.out).mono ?_); (case side1 => repeat (first | exact (Kd.C_below HG.out HB.out) | (with_reducible refine Kd.C_alloc ?_ _) | (with_reducible refine Kd.C_drewN ?_ _) | (with_reducible refine Kd.C_drew ?_))); rintro e w8 ⟨rfl, hb⟩; refine ⟨_, rfl, ?_⟩; have n0_ := Aside0.mk (below_step (by repeat (first | (with_reducible first | exact HB.out | apply below_alloc | apply pw_below_drewN | apply below_drew1) | exact HB.out)) hb); clear HB; have HB := n0_; clear n0_; (try clear hb); (try clear hb2); (try clear hk); (try clear hi)))
   go_meet
   case rel => exact ⟨_, (true), (by first | rfl | (simp; done) | (simp [*]; done)), H', ⟨by first | omega | exact Nat.le_refl _⟩, ⟨by repeat (first | (with_reducible first | exact HB.out | apply below_alloc | apply pw_below_drewN | apply below_drew1) | exact HB.out)⟩⟩
 case rest =>
  clear HC3
  try clear c1
  try clear p2
  try clear c5
  try clear c8
  obtain ⟨kq, x17_2, rfl, HA, HJ2, HB⟩ := hcut
  cases kq with
  | zero => exact absurd HA.out (by simp [dowellaw29_LiaisonLoose.j0])
  | succ kj2 =>
   have H := HA.out
   clear HA
   simp only [dowellaw29_LiaisonLoose.j0] at H
   by_cases c9 : x17_2 = true
   ·subst c9
    have H1 : ((dowellaw29_known.f).bind fun t462 => (some t462)) = some r := by rw [if_pos rfl] at H; exact H
    clear H
    have H := H1
    clear H1
    replace H := Option.bind_eq_some_iff.mp H
    obtain ⟨t462, A100, H⟩ := H
    replace H : (some t462) = some r := H
    have A10 := Aside0.mk A100
    clear A100
    obtain rfl := Option.some.inj H
    go_wp2_with (first | ((with_reducible refine gate_callee (f := 8) rfl ?_); refine goesL_ (some 18) rfl rfl Tryd.func8 (by kernel_rfl) rfl #[] rfl (by (try simp only [List.map_toArray, List.map_cons, List.map_nil]); first | done | rfl | (simp only [List.length_drop, List.length_take]; rfl)) ?_; (with_reducible refine (dowellaw29_known.calls  t462 _ ?side1 A10.out).mono ?_); (case side1 => repeat (first | exact (Kd.C_below HG.out HB.out) | (with_reducible refine Kd.C_alloc ?_ _) | (with_reducible refine Kd.C_drewN ?_ _) | (with_reducible refine Kd.C_drew ?_))); rintro e w11 ⟨rfl, hb⟩; refine ⟨_, rfl, ?_⟩; have n0_ := Aside0.mk (below_step (by repeat (first | (with_reducible first | exact HB.out | apply below_alloc | apply pw_below_drewN | apply below_drew1) | exact HB.out)) hb); clear HB; have HB := n0_; clear n0_; (try clear hb); (try clear hb2); (try clear hk); (try clear hi)))
    go_ret
    exact ⟨by first | rfl | (simp [errW_none, errW_some] <;> rfl) | (simp [*, errW_none, errW_some] <;> rfl), by repeat (first | (with_reducible first | exact HB.out | apply below_alloc | apply pw_below_drewN | apply below_drew1) | exact HB.out)⟩
   ·replace c9 := Bool.eq_false_iff.mpr c9
    subst c9
    have H1 : ((dowellaw29_pairs.f kj2 a0).bind fun bt463 => ((liaison_Loose.f kj2 bt463.1 bt463.2 l1).bind fun bt468 => ((dowellaw29_checkGroups.f kj2 l1 6).bind fun t472 => (if t472 = 0 then (dowellaw29_LiaisonLoose.l0 kj2 l1 bt468.1 bt468.2 ([] : List Int) 0 bt463.1 bt463.2) else (if (bt468.1.length : Int) = 0 then (some (bt468.2 == t472)) else (some false)))))) = some r := by rw [if_neg (show ¬ (false = true) by decide)] at H; exact H
    clear H
    have H := H1
    clear H1
    replace H := Option.bind_eq_some_iff.mp H
    obtain ⟨⟨t463, t464⟩, A120, H⟩ := H
    replace H : ((liaison_Loose.f kj2 t463 t464 l1).bind fun bt468 => ((dowellaw29_checkGroups.f kj2 l1 6).bind fun t472 => (if t472 = 0 then (dowellaw29_LiaisonLoose.l0 kj2 l1 bt468.1 bt468.2 ([] : List Int) 0 t463 t464) else (if (bt468.1.length : Int) = 0 then (some (bt468.2 == t472)) else (some false))))) = some r := H
    have A12 := Aside0.mk A120
    clear A120
    replace H := Option.bind_eq_some_iff.mp H
    obtain ⟨⟨t468, t471⟩, A130, H⟩ := H
    replace H : ((dowellaw29_checkGroups.f kj2 l1 6).bind fun t472 => (if t472 = 0 then (dowellaw29_LiaisonLoose.l0 kj2 l1 t468 t471 ([] : List Int) 0 t463 t464) else (if (t468.length : Int) = 0 then (some (t471 == t472)) else (some false)))) = some r := H
    have A13 := Aside0.mk A130
    clear A130
    replace H := Option.bind_eq_some_iff.mp H
    obtain ⟨t472, A140, H⟩ := H
    replace H : (if t472 = 0 then (dowellaw29_LiaisonLoose.l0 kj2 l1 t468 t471 ([] : List Int) 0 t463 t464) else (if (t468.length : Int) = 0 then (some (t471 == t472)) else (some false))) = some r := H
    have A14 := Aside0.mk A140
    clear A140
    by_cases c15 : t472 = 0
    ·rw [if_pos c15] at H
     have c15b0 : (t472 == 0) = true := beq_iff_eq.mpr c15
     have c15b1 : (t472 != 0) = false := bne_eq_false_iff_eq.mpr c15
     clear c15
     have H' := Aside0.mk H
     clear H
     go_wp2_with (first | ((with_reducible refine gate_callee (f := 9) rfl ?_); refine goesL_ (some 20) rfl rfl Tryd.func9 (by kernel_rfl) rfl #[.int .u16 a0] rfl (by (try simp only [List.map_toArray, List.map_cons, List.map_nil]); first | done | rfl | (simp only [List.length_drop, List.length_take]; rfl)) ?_; (with_reducible refine (dowellaw29_pairs.calls kj2 a0 t463 t464 _ A12.out).mono ?_); rintro e w16 ⟨v465, rfl, ho0, hb⟩; refine ⟨_, rfl, ?_⟩; have n0_ := Aside0.mk (Kd.R_lower ho0 (below_size (by repeat (first | (with_reducible first | exact HB.out | apply below_alloc | apply pw_below_drewN | apply below_drew1) | exact HB.out)))); have n1_ := Aside0.mk (below_step (by repeat (first | (with_reducible first | exact HB.out | apply below_alloc | apply pw_below_drewN | apply below_drew1) | exact HB.out)) hb); clear HB; have HO466 := n0_; have HB := n1_; clear n0_ n1_; (try clear hb); (try clear hb2); (try clear hk); (try clear hi); (try clear ho0)) | ((with_reducible refine gate_dst (N := 5) rfl ?_); refine box_event ?hg (N := 5) ?hd (cs := #[.int .i64 0, .slice none 0 0]) (t := 28) ?hr ?_; (case hd => rfl); (case hg => rfl); (case hr => first | (go_simp; done) | (go_simp; rfl)); intro gb467 hg w17 hbox hb; have n0_ := Aside0.mk (Kd.R_below (by (with_reducible repeat (first | apply Kd.R_alloc | apply Kd.R_drewN | apply Kd.R_drew)); exact HO466.out) hb); have n1_ := Aside0.mk (below_step (by repeat (first | (with_reducible first | exact HB.out | apply below_alloc | apply pw_below_drewN | apply below_drew1) | exact HB.out)) hb); have n2_ := Aside0.mk (hbox); have n3_ := Aside0.mk ((by rw [hg]; exact (below_size (by repeat (first | (with_reducible first | exact HB.out | apply below_alloc | apply pw_below_drewN | apply below_drew1) | exact HB.out))) : w.heap.size ≤ gb467)); have n4_ := Aside0.mk ((by rw [hg]; exact (below_size (by repeat (first | (with_reducible first | exact HB.out | apply below_alloc | apply pw_below_drewN | apply below_drew1) | exact HB.out))) : w.heap.size ≤ gb467)); clear HO466; clear HB; have HO466 := n0_; have HB := n1_; have BK467 := n2_; have GW467 := n3_; have GE467 := n4_; clear n0_ n1_ n2_ n3_ n4_; clear hb hbox hg; have hcz18_0 : w17.cell? ⟨gb467, 0, none⟩ = some (.int .i64 0) := (blk_cell BK467.out 0).trans rfl; have hcz18_1 : w17.cell? ⟨gb467, 1, none⟩ = some (.slice none 0 0) := (blk_cell BK467.out 1).trans rfl; have hfz18_0 := blk_frozen BK467.out 0; have hfz18_1 := blk_frozen BK467.out 1; obtain ⟨Ao19, co19, eo19⟩ := Kd.R_slice HO466.out; subst eo19) | ((with_reducible refine gate_callee (f := 24) rfl ?_); refine goesL_ (some 24) rfl rfl Tryd.func24 (by kernel_rfl) rfl #[.agg #[.int .i64 t463, .slice Ao19 t464.length co19], .slice A1 l1.length c1] rfl (by (try simp only [List.map_toArray, List.map_cons, List.map_nil]); first | done | rfl | (simp only [List.length_drop, List.length_take]; rfl)) ?_; (with_reducible refine (liaison_Loose.calls kj2 t463 _ _ t464 _ _ l1 t468 t471 _ ?side1 ?side2 ?side3 ?side4 ?side5 A13.out).mono ?_); (case side1 => refine (Kd.R_reads' (e := 68) (base := w.heap.size) (ok := fun k_ => True) (n := t464.length) (c := co19) ?_).2.2; exact (by (with_reducible repeat (first | apply Kd.R_alloc | apply Kd.R_drewN | apply Kd.R_drew)); exact (Kd.R_mono (Kd.R_far (p := ⟨gb467, 1, none⟩) (Kd.R_far (p := ⟨gb467, 0, none⟩) (Kd.R_types HO466.out BK467.out (by decide)) (fun _ hk => hk.2) (.int .i64 t463)) (fun _ hk => hk.2) (.slice Ao19 t464.length co19)) (fun _ h_ => h_.1)))); (case side2 => exact (Kd.R_reads' HO466.out).2.1); (case side3 => exact Kd.C_below HR1.out (by repeat (first | (with_reducible first | exact HB.out | apply below_alloc | apply pw_below_drewN | apply below_drew1 | refine below_set ?_ GE467.out) | exact HB.out))); (case side4 => exact HC1.out); (case side5 => exact Kd.C_below HG.out (by repeat (first | (with_reducible first | exact HB.out | apply below_alloc | apply pw_below_drewN | apply below_drew1 | refine below_set ?_ GE467.out) | exact HB.out))); rintro e w20 ⟨v469, rfl, ho0, hb⟩; refine ⟨_, rfl, ?_⟩; have n0_ := Aside0.mk (Kd.R_below (by (with_reducible repeat (first | apply Kd.R_alloc | apply Kd.R_drewN | apply Kd.R_drew)); exact (Kd.R_mono (Kd.R_far (p := ⟨gb467, 1, none⟩) (Kd.R_far (p := ⟨gb467, 0, none⟩) (Kd.R_types HO466.out BK467.out (by decide)) (fun _ hk => hk.2) (.int .i64 t463)) (fun _ hk => hk.2) (.slice Ao19 t464.length co19)) (fun _ h_ => h_.1))) hb); have n1_ := Aside0.mk (Kd.R_lower ho0 (below_size (by repeat (first | (with_reducible first | exact HB.out | apply below_alloc | apply pw_below_drewN | apply below_drew1 | refine below_set ?_ GE467.out) | exact HB.out)))); have n2_ := Aside0.mk (blk_below (g := gb467) (o := .cells #[.int .i64 t463, .slice Ao19 t464.length co19] 28 (0, 0)) (by (with_reducible repeat (first | refine blk_drewN ?_ _ | refine blk_drew ?_ | refine blk_alloc ?_ _)); refine blk_put (cs := #[.int .i64 t463, .slice none 0 0]) ?_ 1 _ rfl; (with_reducible repeat (first | refine blk_drewN ?_ _ | refine blk_drew ?_ | refine blk_alloc ?_ _)); refine blk_put (cs := #[.int .i64 0, .slice none 0 0]) ?_ 0 _ rfl; (with_reducible repeat (first | refine blk_drewN ?_ _ | refine blk_drew ?_ | refine blk_alloc ?_ _)); exact BK467.out) hb); have n3_ := Aside0.mk (below_step (by repeat (first | (with_reducible first | exact HB.out | apply below_alloc | apply pw_below_drewN | apply below_drew1 | refine below_set ?_ GE467.out) | exact HB.out)) hb); clear HO466; clear BK467; clear HB; have HO466 := n0_; have HO470 := n1_; have BK467 := n2_; have HB := n3_; clear n0_ n1_ n2_ n3_; (try clear hb); (try clear hb2); (try clear hk); (try clear hi); (try clear ho0)) | ((with_reducible refine gate_callee (f := 25) rfl ?_); refine goesL_ (some 28) rfl rfl Tryd.func25 (by kernel_rfl) rfl #[.slice A1 l1.length c1, .int .i64 6] rfl (by (try simp only [List.map_toArray, List.map_cons, List.map_nil]); first | done | rfl | (simp only [List.length_drop, List.length_take]; rfl)) ?_; (with_reducible refine (dowellaw29_checkGroups.calls kj2 _ _ l1 6 t472 _ ?side1 ?side2 A14.out).mono ?_); (case side1 => repeat (first | exact (Kd.C_below HR1.out HB.out) | (with_reducible refine Kd.C_alloc ?_ _) | (with_reducible refine Kd.C_drewN ?_ _) | (with_reducible refine Kd.C_drew ?_))); (case side2 => exact HC1.out); rintro e w' ⟨rfl, ⟨nd, rfl⟩⟩; refine ⟨_, rfl, ?_⟩))
     go_loopg [9, 10] kj2 (fun kq v9 v10 w' => ∃ (x9_2 : List Int) (x10_2 : Int), v10 = .int .i64 x10_2 ∧ Aside0 (dowellaw29_LiaisonLoose.l0 kq l1 t468 t471 x9_2 x10_2 t463 t464 = some r) ∧ Aside0 (kq ≤ kj2) ∧ Aside0 (Kd.R (Kd.int .i64) 3 w' w.heap.size (fun k_ => some k_ ≠ (v9 : Value).ownBlock) v469 t468) ∧ Aside0 (Kd.R (Kd.int .i64) 3 w' w.heap.size (fun k_ => some k_ ≠ (v469 : Value).ownBlock) v9 x9_2) ∧ Aside0 (Kd.R k68 68 w' w.heap.size (fun _ => True) (.slice Ao19 t464.length co19) t464) ∧ Aside0 (w'.heap[gb467]? = some (.cells #[.int .i64 t463, (.slice Ao19 t464.length co19)] 28 (0, 0))) ∧ Aside0 (Below w.heap.size w w'))
     case atStart => exact ⟨(([] : List Int)), (0), (by first | rfl | (simp; done) | (simp [*]; done)), H', ⟨Nat.le_refl _⟩, ⟨by (with_reducible repeat (first | apply Kd.R_alloc | apply Kd.R_drewN | apply Kd.R_drew)); exact Kd.R_mono HO470.out (fun _ hk => (by simp [Value.ownBlock]))⟩, ⟨by first | exact Kd.R_nil _ _ _ _ _ | exact Kd.N_nil _ _ _ _ _ | exact Kd.V_nil _ _ _ _ _ | exact Kd.Q_nil _ _ _ _ _ | exact Kd.S_nil _ _ _ _ _⟩, ⟨by (with_reducible repeat (first | apply Kd.R_alloc | apply Kd.R_drewN | apply Kd.R_drew)); exact HO466.out⟩, ⟨by (with_reducible repeat (first | refine blk_drewN ?_ _ | refine blk_drew ?_ | refine blk_alloc ?_ _)); exact BK467.out⟩, ⟨by repeat (first | (with_reducible first | exact HB.out | apply below_alloc | apply pw_below_drewN | apply below_drew1 | refine below_set ?_ GE467.out) | exact HB.out)⟩⟩
     case round =>
      clear H'
      try clear c1
      try clear c2
      try clear p2
      try clear c5
      try clear c8
      try clear c9
      try clear c15
      try clear c15b0
      try clear c15b1
      try clear hcz18_0
      try clear hcz18_1
      try clear hfz18_0
      try clear hfz18_1
      try clear p2
      obtain ⟨x9_2, x10_2, rfl, HA, HK2, HO_6, HO_9, HO_468001, BK467, HB⟩ := hrel
      cases gk with
      | zero => exact absurd HA.out (by simp [dowellaw29_LiaisonLoose.l0])
      | succ k2 =>
       have H := HA.out
       clear HA
       simp only [dowellaw29_LiaisonLoose.l0] at H
       by_cases c21 : x10_2 < (l1.length : Int)
       ·rw [if_pos c21] at H
        have c21b0 : decide (x10_2 < (l1.length : Int)) = true := decide_eq_true c21
        clear c21
        by_cases c22 : 0 ≤ x10_2
        ·rw [if_pos c22] at H
         have c22b0 : decide (0 ≤ x10_2) = true := decide_eq_true c22
         clear c22
         replace H := Option.bind_eq_some_iff.mp H
         obtain ⟨t474, A230, H⟩ := H
         replace H : (if t474 = true then (dowellaw29_LiaisonLoose.l0 k2 l1 t468 t471 x9_2 (wrap64 (x10_2 + 1)) t463 t464) else (if x9_2.length < 17592186044416 then (dowellaw29_LiaisonLoose.l0 k2 l1 t468 t471 (x9_2 ++ [x10_2]) (wrap64 (x10_2 + 1)) t463 t464) else (none))) = some r := H
         have A23 := Aside0.mk A230
         clear A230
         by_cases c24 : t474 = true
         ·subst c24
          have H1 : (dowellaw29_LiaisonLoose.l0 k2 l1 t468 t471 x9_2 (wrap64 (x10_2 + 1)) t463 t464) = some r := by rw [if_pos rfl] at H; exact H
          clear H
          have H := H1
          clear H1
          have H' := Aside0.mk H
          clear H
          try go_wp2
          have n0_ := Aside0.mk (Kd.R_drew HO_6.out)
          have n1_ := Aside0.mk (Kd.R_drew HO_9.out)
          have n2_ := Aside0.mk (Kd.R_drew HO_468001.out)
          have n3_ := Aside0.mk (blk_drew BK467.out)
          have n4_ := Aside0.mk (below_drew1 HB.out)
          clear HO_6
          clear HO_9
          clear HO_468001
          clear BK467
          clear HB
          have HO_6 := n0_
          have HO_9 := n1_
          have HO_468001 := n2_
          have BK467 := n3_
          have HB := n4_
          clear n0_ n1_ n2_ n3_ n4_
          have p473 : 0 ≤ (x10_2 : Int) := of_decide_eq_true (by first | (with_reducible assumption) | assumption)
          have q473 : x10_2 < (l1.length : Int) := of_decide_eq_true (by first | (with_reducible assumption) | assumption)
          obtain ⟨ad473, A473_1, c473_1, e473, hx473_0, hx473_1, hl473_1, hi473_1⟩ := at_T57 HR1.out x10_2 p473 q473
          have hw473_1 := hx473_1
          have hw473_0 := hx473_0
          cases e473
          replace hx473_0 := (HB.out.cell (World.block_lt_of_cell? w _ hx473_0)).trans hx473_0
          replace hx473_1 := (HB.out.cell (World.block_lt_of_cell? w _ hx473_1)).trans hx473_1
          have HR473_1 := Aside0.mk hi473_1
          have HC473_1 := Aside0.mk hl473_1
          clear hi473_1 hl473_1
          replace p473 := eq_true p473
          replace q473 := eq_true q473
          refine start_ (n := 8) (S := fun w' => w'.cell? ⟨gb467, 0, none⟩ = some (.int .i64 t463) ∧ w'.cell? ⟨gb467, 1, none⟩ = some (.slice Ao19 t464.length co19) ∧ w'.cell? (ad473.add ((x10_2).toNat * 2)) = some (.string ((rd_T57 l1 x10_2).f0)) ∧ w'.cell? ⟨(ad473.add ((x10_2).toNat * 2)).block, (ad473.add ((x10_2).toNat * 2)).off + 1, none⟩ = some (.slice A473_1 ((rd_T57 l1 x10_2).f1).length c473_1)) (ds := []) #[false, false, false, false, false, false, false, false] (by kernel_rfl) rfl rfl ⟨(blk_cell BK467.out 0).trans rfl, (blk_cell BK467.out 1).trans rfl, ((HB.out.cell (World.block_lt_of_cell? w _ hw473_0)).trans hw473_0), ((HB.out.cell (World.block_lt_of_cell? w _ hw473_1)).trans hw473_1)⟩ (fun hHeld => ?_); refine with_tabW dowellaw29_LiaisonLoose.tab12 dowellaw29_LiaisonLoose.bits12 (fun HT_ HW_ => ?_)
          generalize wr.drew = w25 at HO_6 HO_9 HO_468001 BK467 HB HR473_1 hx473_0 hx473_1 hHeld ⊢
          refine pure_ (i := 1) (N := some 46) (v := ?_) (a' := ?_) #[false, true, false, false, false, false, false, false] rfl rfl (any_of HT_.out (by kernel_rfl)) (fun _ _ _ h => h) (Or.inl ⟨by rfl, ?_⟩) ?_ ?_
          rotate_left
          ·intro w'
           go_simp
           with_reducible rfl
          rotate_left
          ·simp only [Act.put, List.setIfInBounds_toArray, List.set_cons_zero, List.set_cons_succ, i64_w, i32_w]
           rfl
          refine pure_ (i := 2) (N := some 47) (v := ?_) (a' := ?_) #[false, true, true, false, false, false, false, false] rfl rfl (any_of HT_.out (by kernel_rfl)) (fun _ _ _ h => h) (Or.inl ⟨by rfl, ?_⟩) ?_ ?_
          rotate_left
          ·intro w'
           go_simp
           with_reducible rfl
          rotate_left
          ·simp only [Act.put, List.setIfInBounds_toArray, List.set_cons_zero, List.set_cons_succ, i64_w, i32_w]
           rfl
          refine pure_ (i := 3) (N := some 48) (v := ?_) (a' := ?_) #[false, true, true, true, false, false, false, false] rfl rfl (any_of HT_.out (by kernel_rfl)) (fun _ _ _ h => h) (Or.inl ⟨by rfl, ?_⟩) ?_ ?_
          rotate_left
          ·intro w'
           go_simp
           with_reducible rfl
          rotate_left
          ·simp only [Act.put, List.setIfInBounds_toArray, List.set_cons_zero, List.set_cons_succ, i64_w, i32_w]
           rfl
          refine pure_ (i := 4) (N := some 49) (v := ?_) (a' := ?_) #[false, true, true, true, true, false, false, false] rfl rfl (any_of HT_.out (by kernel_rfl)) (fun _ _ _ h => h) (Or.inl ⟨by rfl, ?_⟩) ?_ ?_
          rotate_left
          ·intro w'
           go_simp
           with_reducible rfl
          rotate_left
          ·simp only [Act.put, List.setIfInBounds_toArray, List.set_cons_zero, List.set_cons_succ, i64_w, i32_w]
           rfl
          refine take_ (i := 0) (N := some 45) (v := ?_) (a' := ?_) #[true, true, true, true, true, false, false, false] rfl rfl (take_ofW HT_.out HW_.out (by kernel_rfl)) (fun _ _ _ h => h) (Or.inl ⟨by rfl, ?_⟩) hHeld ?_ ?_
          rotate_left
          ·rintro w' ⟨s0, s1, s2, s3⟩
           go_simp
           with_reducible rfl
          rotate_left
          ·simp only [Act.put, List.setIfInBounds_toArray, List.set_cons_zero, List.set_cons_succ, i64_w, i32_w]
           rfl
          refine take_ (i := 5) (N := some 50) (v := ?_) (a' := ?_) #[true, true, true, true, true, true, false, false] rfl rfl (take_ofW HT_.out HW_.out (by kernel_rfl)) (fun _ _ _ h => h) (Or.inl ⟨by rfl, ?_⟩) hHeld ?_ ?_
          rotate_left
          ·rintro w' ⟨s0, s1, s2, s3⟩
           go_simp
           with_reducible rfl
          rotate_left
          ·simp only [Act.put, List.setIfInBounds_toArray, List.set_cons_zero, List.set_cons_succ, i64_w, i32_w]
           rfl
          refine one_ (i := 6) (N := some 51) #[true, true, true, true, true, true, true, false] rfl rfl (one_of HT_.out (by kernel_rfl)) (by decide) (fun K hK => ?_)
          refine goes_ Tryd.func12 (by kernel_rfl) rfl #[.agg #[.int .i64 t463, .slice Ao19 t464.length co19], .slice A473_1 ((rd_T57 l1 x10_2).f1).length c473_1] (by rfl) rfl rfl (by (try simp only [List.map_toArray, List.map_cons, List.map_nil]); first | done | rfl | (simp only [List.length_drop, List.length_take]; rfl)) ?_
          with_reducible refine (dowellaw29_connected.calls k2 t463 _ _ t464 _ _ ((rd_T57 l1 x10_2).f1) true _ ?side1 ?side2 ?side3 ?side4 A23.out).mono ?_
          (case side1 => repeat (first | exact (Kd.R_reads' HO_468001.out).2.2 | (with_reducible refine Kd.C_alloc ?_ _) | (with_reducible refine Kd.C_drewN ?_ _) | (with_reducible refine Kd.C_drew ?_)))
          (case side2 => exact (Kd.R_reads' HO_468001.out).2.1)
          (case side3 => repeat (first | exact (Kd.C_below HR473_1.out HB.out) | (with_reducible refine Kd.C_alloc ?_ _) | (with_reducible refine Kd.C_drewN ?_ _) | (with_reducible refine Kd.C_drew ?_)))
          (case side4 => exact HC473_1.out)
          rintro e w26 ⟨rfl, hb⟩
          refine ⟨_, rfl, ?_⟩
          have n0_ := Aside0.mk (Kd.R_below (by (with_reducible repeat (first | apply Kd.R_alloc | apply Kd.R_drewN | apply Kd.R_drew)); exact HO_6.out) hb)
          have n1_ := Aside0.mk (Kd.R_below (by (with_reducible repeat (first | apply Kd.R_alloc | apply Kd.R_drewN | apply Kd.R_drew)); exact HO_9.out) hb)
          have n2_ := Aside0.mk (Kd.R_below (by (with_reducible repeat (first | apply Kd.R_alloc | apply Kd.R_drewN | apply Kd.R_drew)); exact HO_468001.out) hb)
          have n3_ := Aside0.mk (blk_below (g := gb467) (o := .cells #[.int .i64 t463, .slice Ao19 t464.length co19] 28 (0, 0)) (by (with_reducible repeat (first | refine blk_drewN ?_ _ | refine blk_drew ?_ | refine blk_alloc ?_ _)); exact BK467.out) hb)
          have n4_ := Aside0.mk (below_step (by repeat (first | (with_reducible first | exact HB.out | apply below_alloc | apply pw_below_drewN | apply below_drew1 | refine below_set ?_ GE467.out) | exact HB.out)) hb)
          clear HO_6
          clear HO_9
          clear HO_468001
          clear BK467
          clear HB
          have HO_6 := n0_
          have HO_9 := n1_
          have HO_468001 := n2_
          have BK467 := n3_
          have HB := n4_
          clear n0_ n1_ n2_ n3_ n4_
          (try clear hb)
          (try clear hb2)
          (try clear hk)
          (try clear hi)
          refine hK.out _ _ ⟨(blk_cell BK467.out 0).trans rfl, (blk_cell BK467.out 1).trans rfl, ((HB.out.cell (World.block_lt_of_cell? w _ hw473_0)).trans hw473_0), ((HB.out.cell (World.block_lt_of_cell? w _ hw473_1)).trans hw473_1)⟩ (fun hHeld => ?_)
          clear hK K
          refine norm_ (a' := ?_) ?_ ?_
          rotate_left
          ·show Act.put _ (some 51) _ = _
           simp only [Act.put, List.setIfInBounds_toArray, List.set_cons_zero, List.set_cons_succ, i64_w, i32_w]
           rfl
          refine pure_ (i := 7) (N := some 52) (v := ?_) (a' := ?_) #[true, true, true, true, true, true, true, true] rfl rfl (any_of HT_.out (by kernel_rfl)) (fun _ _ _ h => h) (Or.inl ⟨by rfl, ?_⟩) ?_ ?_
          rotate_left
          ·intro w'
           go_simp
           with_reducible rfl
          rotate_left
          ·simp only [Act.put, List.setIfInBounds_toArray, List.set_cons_zero, List.set_cons_succ, i64_w, i32_w]
           rfl
          refine done_ (done_of HT_.out (by kernel_rfl)) ?_
          try go_wp2
          go_roundg k2
          case measure => have := HJ2.out; have := HK2.out; omega
          case rel => exact ⟨(x9_2), (wrap64 (x10_2 + 1)), (by first | rfl | (simp; done) | (simp [*]; done)), H', ⟨by have := HJ2.out; have := HK2.out; omega⟩, ⟨by (with_reducible repeat (first | apply Kd.R_alloc | apply Kd.R_drewN | apply Kd.R_drew)); exact HO_6.out⟩, ⟨by (with_reducible repeat (first | apply Kd.R_alloc | apply Kd.R_drewN | apply Kd.R_drew)); exact HO_9.out⟩, ⟨by (with_reducible repeat (first | apply Kd.R_alloc | apply Kd.R_drewN | apply Kd.R_drew)); exact HO_468001.out⟩, ⟨by (with_reducible repeat (first | refine blk_drewN ?_ _ | refine blk_drew ?_ | refine blk_alloc ?_ _)); exact BK467.out⟩, ⟨by repeat (first | (with_reducible first | exact HB.out | apply below_alloc | apply pw_below_drewN | apply below_drew1 | refine below_set ?_ GE467.out) | exact HB.out)⟩⟩
         ·replace c24 := Bool.eq_false_iff.mpr c24
          subst c24
          have H1 : (if x9_2.length < 17592186044416 then (dowellaw29_LiaisonLoose.l0 k2 l1 t468 t471 (x9_2 ++ [x10_2]) (wrap64 (x10_2 + 1)) t463 t464) else (none)) = some r := by rw [if_neg (show ¬ (false = true) by decide)] at H; exact H
          clear H
          have H := H1
          clear H1
          by_cases c27 : x9_2.length < 17592186044416
          ·rw [if_pos c27] at H
           have LMc27 := Aside0.mk c27
           clear c27
           obtain ⟨y475, hy475⟩ : ∃ y_ : List Int, y_ = (x9_2 ++ [x10_2]) := ⟨_, rfl⟩
           replace H : (dowellaw29_LiaisonLoose.l0 k2 l1 t468 t471 y475 (wrap64 (x10_2 + 1)) t463 t464) = some r := by first | (rw [hy475]; with_reducible exact H) | (have H2_ := (Option.bind_some _ _).symm.trans H; rw [hy475]; with_reducible exact H2_) | (have H2_ := (Option.bind_some _ _).symm.trans H; with_reducible exact H2_) | with_reducible exact H | (rw [hy475]; exact H) | exact H
           have Ny475 := Aside0.mk hy475
           clear hy475
           have H' := Aside0.mk H
           clear H
           try go_wp2
           have n0_ := Aside0.mk (Kd.R_drew HO_6.out)
           have n1_ := Aside0.mk (Kd.R_drew HO_9.out)
           have n2_ := Aside0.mk (Kd.R_drew HO_468001.out)
           have n3_ := Aside0.mk (blk_drew BK467.out)
           have n4_ := Aside0.mk (below_drew1 HB.out)
           clear HO_6
           clear HO_9
           clear HO_468001
           clear BK467
           clear HB
           have HO_6 := n0_
           have HO_9 := n1_
           have HO_468001 := n2_
           have BK467 := n3_
           have HB := n4_
           clear n0_ n1_ n2_ n3_ n4_
           have p473 : 0 ≤ (x10_2 : Int) := of_decide_eq_true (by first | (with_reducible assumption) | assumption)
           have q473 : x10_2 < (l1.length : Int) := of_decide_eq_true (by first | (with_reducible assumption) | assumption)
           obtain ⟨ad473, A473_1, c473_1, e473, hx473_0, hx473_1, hl473_1, hi473_1⟩ := at_T57 HR1.out x10_2 p473 q473
           have hw473_1 := hx473_1
           have hw473_0 := hx473_0
           cases e473
           replace hx473_0 := (HB.out.cell (World.block_lt_of_cell? w _ hx473_0)).trans hx473_0
           replace hx473_1 := (HB.out.cell (World.block_lt_of_cell? w _ hx473_1)).trans hx473_1
           have HR473_1 := Aside0.mk hi473_1
           have HC473_1 := Aside0.mk hl473_1
           clear hi473_1 hl473_1
           replace p473 := eq_true p473
           replace q473 := eq_true q473
           refine start_ (n := 8) (S := fun w' => w'.cell? ⟨gb467, 0, none⟩ = some (.int .i64 t463) ∧ w'.cell? ⟨gb467, 1, none⟩ = some (.slice Ao19 t464.length co19) ∧ w'.cell? (ad473.add ((x10_2).toNat * 2)) = some (.string ((rd_T57 l1 x10_2).f0)) ∧ w'.cell? ⟨(ad473.add ((x10_2).toNat * 2)).block, (ad473.add ((x10_2).toNat * 2)).off + 1, none⟩ = some (.slice A473_1 ((rd_T57 l1 x10_2).f1).length c473_1)) (ds := []) #[false, false, false, false, false, false, false, false] (by kernel_rfl) rfl rfl ⟨(blk_cell BK467.out 0).trans rfl, (blk_cell BK467.out 1).trans rfl, ((HB.out.cell (World.block_lt_of_cell? w _ hw473_0)).trans hw473_0), ((HB.out.cell (World.block_lt_of_cell? w _ hw473_1)).trans hw473_1)⟩ (fun hHeld => ?_); refine with_tabW dowellaw29_LiaisonLoose.tab12 dowellaw29_LiaisonLoose.bits12 (fun HT_ HW_ => ?_)
           generalize wr.drew = w28 at HO_6 HO_9 HO_468001 BK467 HB HR473_1 hx473_0 hx473_1 hHeld ⊢
           refine pure_ (i := 1) (N := some 46) (v := ?_) (a' := ?_) #[false, true, false, false, false, false, false, false] rfl rfl (any_of HT_.out (by kernel_rfl)) (fun _ _ _ h => h) (Or.inl ⟨by rfl, ?_⟩) ?_ ?_
           rotate_left
           ·intro w'
            go_simp
            with_reducible rfl
           rotate_left
           ·simp only [Act.put, List.setIfInBounds_toArray, List.set_cons_zero, List.set_cons_succ, i64_w, i32_w]
            rfl
           refine pure_ (i := 2) (N := some 47) (v := ?_) (a' := ?_) #[false, true, true, false, false, false, false, false] rfl rfl (any_of HT_.out (by kernel_rfl)) (fun _ _ _ h => h) (Or.inl ⟨by rfl, ?_⟩) ?_ ?_
           rotate_left
           ·intro w'
            go_simp
            with_reducible rfl
           rotate_left
           ·simp only [Act.put, List.setIfInBounds_toArray, List.set_cons_zero, List.set_cons_succ, i64_w, i32_w]
            rfl
           refine pure_ (i := 3) (N := some 48) (v := ?_) (a' := ?_) #[false, true, true, true, false, false, false, false] rfl rfl (any_of HT_.out (by kernel_rfl)) (fun _ _ _ h => h) (Or.inl ⟨by rfl, ?_⟩) ?_ ?_
           rotate_left
           ·intro w'
            go_simp
            with_reducible rfl
           rotate_left
           ·simp only [Act.put, List.setIfInBounds_toArray, List.set_cons_zero, List.set_cons_succ, i64_w, i32_w]
            rfl
           refine pure_ (i := 4) (N := some 49) (v := ?_) (a' := ?_) #[false, true, true, true, true, false, false, false] rfl rfl (any_of HT_.out (by kernel_rfl)) (fun _ _ _ h => h) (Or.inl ⟨by rfl, ?_⟩) ?_ ?_
           rotate_left
           ·intro w'
            go_simp
            with_reducible rfl
           rotate_left
           ·simp only [Act.put, List.setIfInBounds_toArray, List.set_cons_zero, List.set_cons_succ, i64_w, i32_w]
            rfl
           refine take_ (i := 0) (N := some 45) (v := ?_) (a' := ?_) #[true, true, true, true, true, false, false, false] rfl rfl (take_ofW HT_.out HW_.out (by kernel_rfl)) (fun _ _ _ h => h) (Or.inl ⟨by rfl, ?_⟩) hHeld ?_ ?_
           rotate_left
           ·rintro w' ⟨s0, s1, s2, s3⟩
            go_simp
            with_reducible rfl
           rotate_left
           ·simp only [Act.put, List.setIfInBounds_toArray, List.set_cons_zero, List.set_cons_succ, i64_w, i32_w]
            rfl
           refine take_ (i := 5) (N := some 50) (v := ?_) (a' := ?_) #[true, true, true, true, true, true, false, false] rfl rfl (take_ofW HT_.out HW_.out (by kernel_rfl)) (fun _ _ _ h => h) (Or.inl ⟨by rfl, ?_⟩) hHeld ?_ ?_
           rotate_left
           ·rintro w' ⟨s0, s1, s2, s3⟩
            go_simp
            with_reducible rfl
           rotate_left
           ·simp only [Act.put, List.setIfInBounds_toArray, List.set_cons_zero, List.set_cons_succ, i64_w, i32_w]
            rfl
           refine one_ (i := 6) (N := some 51) #[true, true, true, true, true, true, true, false] rfl rfl (one_of HT_.out (by kernel_rfl)) (by decide) (fun K hK => ?_)
           refine goes_ Tryd.func12 (by kernel_rfl) rfl #[.agg #[.int .i64 t463, .slice Ao19 t464.length co19], .slice A473_1 ((rd_T57 l1 x10_2).f1).length c473_1] (by rfl) rfl rfl (by (try simp only [List.map_toArray, List.map_cons, List.map_nil]); first | done | rfl | (simp only [List.length_drop, List.length_take]; rfl)) ?_
           with_reducible refine (dowellaw29_connected.calls k2 t463 _ _ t464 _ _ ((rd_T57 l1 x10_2).f1) false _ ?side1 ?side2 ?side3 ?side4 A23.out).mono ?_
           (case side1 => repeat (first | exact (Kd.R_reads' HO_468001.out).2.2 | (with_reducible refine Kd.C_alloc ?_ _) | (with_reducible refine Kd.C_drewN ?_ _) | (with_reducible refine Kd.C_drew ?_)))
           (case side2 => exact (Kd.R_reads' HO_468001.out).2.1)
           (case side3 => repeat (first | exact (Kd.C_below HR473_1.out HB.out) | (with_reducible refine Kd.C_alloc ?_ _) | (with_reducible refine Kd.C_drewN ?_ _) | (with_reducible refine Kd.C_drew ?_)))
           (case side4 => exact HC473_1.out)
           rintro e w29 ⟨rfl, hb⟩
           refine ⟨_, rfl, ?_⟩
           have n0_ := Aside0.mk (Kd.R_below (by (with_reducible repeat (first | apply Kd.R_alloc | apply Kd.R_drewN | apply Kd.R_drew)); exact HO_6.out) hb)
           have n1_ := Aside0.mk (Kd.R_below (by (with_reducible repeat (first | apply Kd.R_alloc | apply Kd.R_drewN | apply Kd.R_drew)); exact HO_9.out) hb)
           have n2_ := Aside0.mk (Kd.R_below (by (with_reducible repeat (first | apply Kd.R_alloc | apply Kd.R_drewN | apply Kd.R_drew)); exact HO_468001.out) hb)
           have n3_ := Aside0.mk (blk_below (g := gb467) (o := .cells #[.int .i64 t463, .slice Ao19 t464.length co19] 28 (0, 0)) (by (with_reducible repeat (first | refine blk_drewN ?_ _ | refine blk_drew ?_ | refine blk_alloc ?_ _)); exact BK467.out) hb)
           have n4_ := Aside0.mk (below_step (by repeat (first | (with_reducible first | exact HB.out | apply below_alloc | apply pw_below_drewN | apply below_drew1 | refine below_set ?_ GE467.out) | exact HB.out)) hb)
           clear HO_6
           clear HO_9
           clear HO_468001
           clear BK467
           clear HB
           have HO_6 := n0_
           have HO_9 := n1_
           have HO_468001 := n2_
           have BK467 := n3_
           have HB := n4_
           clear n0_ n1_ n2_ n3_ n4_
           (try clear hb)
           (try clear hb2)
           (try clear hk)
           (try clear hi)
           refine hK.out _ _ ⟨(blk_cell BK467.out 0).trans rfl, (blk_cell BK467.out 1).trans rfl, ((HB.out.cell (World.block_lt_of_cell? w _ hw473_0)).trans hw473_0), ((HB.out.cell (World.block_lt_of_cell? w _ hw473_1)).trans hw473_1)⟩ (fun hHeld => ?_)
           clear hK K
           refine norm_ (a' := ?_) ?_ ?_
           rotate_left
           ·show Act.put _ (some 51) _ = _
            simp only [Act.put, List.setIfInBounds_toArray, List.set_cons_zero, List.set_cons_succ, i64_w, i32_w]
            rfl
           refine pure_ (i := 7) (N := some 52) (v := ?_) (a' := ?_) #[true, true, true, true, true, true, true, true] rfl rfl (any_of HT_.out (by kernel_rfl)) (fun _ _ _ h => h) (Or.inl ⟨by rfl, ?_⟩) ?_ ?_
           rotate_left
           ·intro w'
            go_simp
            with_reducible rfl
           rotate_left
           ·simp only [Act.put, List.setIfInBounds_toArray, List.set_cons_zero, List.set_cons_succ, i64_w, i32_w]
            rfl
           refine done_ (done_of HT_.out (by kernel_rfl)) ?_
           try go_wp2_with (first | ((with_reducible refine gate_builtin (b := .append) (xs := #[.tmp 53, .tmp 55]) rfl ?_); at_builtin; refine Kd.R_append (Kd.int .i64) (w0 := w) w.heap.size rfl (.tmp 53) (.tmp 55) 23 3 (.int .i64 0) 8 rfl Tryd.underlying23 info3 rfl (by decide) (by omega) u9 x9_2 x10_2 [.int .i64 x10_2] (fun k_ => some k_ ≠ (v469 : Value).ownBlock) (fun _ => False) rfl rfl ?aP (fun _ hk => hk.elim) ?aF ?aO ?aB ?aS ?aL ?_; (case aP => exact rfl); (case aB => exact (by repeat (first | (with_reducible first | exact HB.out | apply below_alloc | apply pw_below_drewN | apply below_drew1 | refine below_set ?_ GE467.out) | exact HB.out))); (case aF => exact (fun k_ hk => Kd.fresh' (Kd.R_lt (by (with_reducible repeat (first | apply Kd.R_alloc | apply Kd.R_drewN | apply Kd.R_drew)); exact HO_6.out)) k_ hk)); (case aO => exact (by (with_reducible repeat (first | apply Kd.R_alloc | apply Kd.R_drewN | apply Kd.R_drew)); exact HO_9.out)); (case aS => exact (below_size (by repeat (first | (with_reducible first | exact HB.out | apply below_alloc | apply pw_below_drewN | apply below_drew1 | refine below_set ?_ GE467.out) | exact HB.out)))); (case aL => have := LMc27.out; omega); intro v476 w30 ho hb hg hat; rw [← Ny475.out] at ho; have n0_ := Aside0.mk (Kd.R_after (ok := (fun _ => True)) (by (with_reducible repeat (first | apply Kd.R_alloc | apply Kd.R_drewN | apply Kd.R_drew)); exact Kd.R_mono HO_6.out (fun _ hk => ⟨trivial, hk⟩)) hg hat); have n1_ := Aside0.mk (Kd.R_over' (by (with_reducible repeat (first | apply Kd.R_alloc | apply Kd.R_drewN | apply Kd.R_drew)); exact HO_468001.out) (Kd.R_typed (by (with_reducible repeat (first | apply Kd.R_alloc | apply Kd.R_drewN | apply Kd.R_drew)); exact HO_9.out)) (by decide) hg); have n2_ := Aside0.mk (blk_grown (g := gb467) (o := .cells #[.int .i64 t463, .slice Ao19 t464.length co19] 28 (0, 0)) (by (with_reducible repeat (first | refine blk_drewN ?_ _ | refine blk_drew ?_ | refine blk_alloc ?_ _)); exact BK467.out) hg (Kd.R_ne HO_9.out BK467.out (by decide))); have n3_ := Aside0.mk (hb); have n4_ := Aside0.mk (ho); clear HO_6; clear HO_468001; clear BK467; clear HB; clear HO_9; have HO_6 := n0_; have HO_468001 := n1_; have BK467 := n2_; have HB := n3_; have HO477 := n4_; clear n0_ n1_ n2_ n3_ n4_; clear ho hb hg hat))
           go_roundg k2
           case measure => have := HJ2.out; have := HK2.out; omega
           case rel => exact ⟨(y475), (wrap64 (x10_2 + 1)), (by first | rfl | (simp; done) | (simp [*]; done)), H', ⟨by have := HJ2.out; have := HK2.out; omega⟩, ⟨by (with_reducible repeat (first | apply Kd.R_alloc | apply Kd.R_drewN | apply Kd.R_drew)); exact Kd.R_mono HO_6.out (fun _ hk => hk.2)⟩, ⟨by (with_reducible repeat (first | apply Kd.R_alloc | apply Kd.R_drewN | apply Kd.R_drew)); exact HO477.out⟩, ⟨by (with_reducible repeat (first | apply Kd.R_alloc | apply Kd.R_drewN | apply Kd.R_drew)); exact HO_468001.out⟩, ⟨by (with_reducible repeat (first | refine blk_drewN ?_ _ | refine blk_drew ?_ | refine blk_alloc ?_ _)); exact BK467.out⟩, ⟨by repeat (first | (with_reducible first | exact HB.out | apply below_alloc | apply pw_below_drewN | apply below_drew1 | refine below_set ?_ GE467.out) | exact HB.out)⟩⟩
          ·rw [if_neg c27] at H
           exact absurd H (by simp)
        ·rw [if_neg c22] at H
         exact absurd H (by simp)
       ·rw [if_neg c21] at H
        have c21b0 : decide (x10_2 < (l1.length : Int)) = false := decide_eq_false c21
        clear c21
        replace H := Option.bind_eq_some_iff.mp H
        obtain ⟨t478, A310, H⟩ := H
        replace H : (if t478 = true then (some (t471 == 0)) else (some false)) = some r := H
        have A31 := Aside0.mk A310
        clear A310
        by_cases c32 : t478 = true
        ·subst c32
         have H1 : (some (t471 == 0)) = some r := by rw [if_pos rfl] at H; exact H
         clear H
         have H := H1
         clear H1
         obtain rfl := Option.some.inj H
         obtain ⟨Ao33, co33, eo33⟩ := Kd.R_slice HO_6.out
         subst eo33
         obtain ⟨Ao34, co34, eo34⟩ := Kd.R_slice HO_9.out
         subst eo34
         go_wp2_with (first | ((with_reducible refine gate_callee (f := 14) rfl ?_); refine goesL_ (some 59) rfl rfl Tryd.func14 (by kernel_rfl) rfl #[.slice Ao33 t468.length co33, .slice Ao34 x9_2.length co34] rfl (by (try simp only [List.map_toArray, List.map_cons, List.map_nil]); first | done | rfl | (simp only [List.length_drop, List.length_take]; rfl)) ?_; (with_reducible refine (dowellaw29_same.calls k2 _ _ t468 _ _ x9_2 true _ ?side1 ?side2 ?side3 ?side4 A31.out).mono ?_); (case side1 => repeat (first | exact (Kd.R_reads' HO_6.out).2.2 | (with_reducible refine Kd.C_alloc ?_ _) | (with_reducible refine Kd.C_drewN ?_ _) | (with_reducible refine Kd.C_drew ?_))); (case side2 => exact (Kd.R_reads' HO_6.out).2.1); (case side3 => repeat (first | exact (Kd.R_reads' HO_9.out).2.2 | (with_reducible refine Kd.C_alloc ?_ _) | (with_reducible refine Kd.C_drewN ?_ _) | (with_reducible refine Kd.C_drew ?_))); (case side4 => exact (Kd.R_reads' HO_9.out).2.1); rintro e w' ⟨rfl, ⟨nd, rfl⟩⟩; refine ⟨_, rfl, ?_⟩))
         go_ret
         exact ⟨by first | rfl | (simp [errW_none, errW_some] <;> rfl) | (simp [*, errW_none, errW_some] <;> rfl), by repeat (first | (with_reducible first | exact HB.out | apply below_alloc | apply pw_below_drewN | apply below_drew1 | refine below_set ?_ GE467.out) | exact HB.out)⟩
        ·replace c32 := Bool.eq_false_iff.mpr c32
         subst c32
         have H1 : (some false) = some r := by rw [if_neg (show ¬ (false = true) by decide)] at H; exact H
         clear H
         have H := H1
         clear H1
         obtain rfl := Option.some.inj H
         obtain ⟨Ao35, co35, eo35⟩ := Kd.R_slice HO_6.out
         subst eo35
         obtain ⟨Ao36, co36, eo36⟩ := Kd.R_slice HO_9.out
         subst eo36
         go_wp2_with (first | ((with_reducible refine gate_callee (f := 14) rfl ?_); refine goesL_ (some 59) rfl rfl Tryd.func14 (by kernel_rfl) rfl #[.slice Ao35 t468.length co35, .slice Ao36 x9_2.length co36] rfl (by (try simp only [List.map_toArray, List.map_cons, List.map_nil]); first | done | rfl | (simp only [List.length_drop, List.length_take]; rfl)) ?_; (with_reducible refine (dowellaw29_same.calls k2 _ _ t468 _ _ x9_2 false _ ?side1 ?side2 ?side3 ?side4 A31.out).mono ?_); (case side1 => repeat (first | exact (Kd.R_reads' HO_6.out).2.2 | (with_reducible refine Kd.C_alloc ?_ _) | (with_reducible refine Kd.C_drewN ?_ _) | (with_reducible refine Kd.C_drew ?_))); (case side2 => exact (Kd.R_reads' HO_6.out).2.1); (case side3 => repeat (first | exact (Kd.R_reads' HO_9.out).2.2 | (with_reducible refine Kd.C_alloc ?_ _) | (with_reducible refine Kd.C_drewN ?_ _) | (with_reducible refine Kd.C_drew ?_))); (case side4 => exact (Kd.R_reads' HO_9.out).2.1); rintro e w' ⟨rfl, ⟨nd, rfl⟩⟩; refine ⟨_, rfl, ?_⟩))
         go_ret
         exact ⟨by first | rfl | (simp [errW_none, errW_some] <;> rfl) | (simp [*, errW_none, errW_some] <;> rfl), by repeat (first | (with_reducible first | exact HB.out | apply below_alloc | apply pw_below_drewN | apply below_drew1 | refine below_set ?_ GE467.out) | exact HB.out)⟩
    ·rw [if_neg c15] at H
     have c15b0 : (t472 == 0) = false := beq_eq_false_iff_ne.mpr c15
     have c15b1 : (t472 != 0) = true := bne_iff_ne.mpr c15
     by_cases c37 : (t468.length : Int) = 0
     ·rw [if_pos c37] at H
      have c37b0 : ((t468.length : Int) == 0) = true := beq_iff_eq.mpr c37
      have c37b1 : ((t468.length : Int) != 0) = false := bne_eq_false_iff_eq.mpr c37
      clear c37
      obtain rfl := Option.some.inj H
      go_wp2_with (first | ((with_reducible refine gate_callee (f := 9) rfl ?_); refine goesL_ (some 20) rfl rfl Tryd.func9 (by kernel_rfl) rfl #[.int .u16 a0] rfl (by (try simp only [List.map_toArray, List.map_cons, List.map_nil]); first | done | rfl | (simp only [List.length_drop, List.length_take]; rfl)) ?_; (with_reducible refine (dowellaw29_pairs.calls kj2 a0 t463 t464 _ A12.out).mono ?_); rintro e w38 ⟨v465, rfl, ho0, hb⟩; refine ⟨_, rfl, ?_⟩; have n0_ := Aside0.mk (Kd.R_lower ho0 (below_size (by repeat (first | (with_reducible first | exact HB.out | apply below_alloc | apply pw_below_drewN | apply below_drew1) | exact HB.out)))); have n1_ := Aside0.mk (below_step (by repeat (first | (with_reducible first | exact HB.out | apply below_alloc | apply pw_below_drewN | apply below_drew1) | exact HB.out)) hb); clear HB; have HO466 := n0_; have HB := n1_; clear n0_ n1_; (try clear hb); (try clear hb2); (try clear hk); (try clear hi); (try clear ho0)) | ((with_reducible refine gate_dst (N := 5) rfl ?_); refine box_event ?hg (N := 5) ?hd (cs := #[.int .i64 0, .slice none 0 0]) (t := 28) ?hr ?_; (case hd => rfl); (case hg => rfl); (case hr => first | (go_simp; done) | (go_simp; rfl)); intro gb467 hg w39 hbox hb; have n0_ := Aside0.mk (Kd.R_below (by (with_reducible repeat (first | apply Kd.R_alloc | apply Kd.R_drewN | apply Kd.R_drew)); exact HO466.out) hb); have n1_ := Aside0.mk (below_step (by repeat (first | (with_reducible first | exact HB.out | apply below_alloc | apply pw_below_drewN | apply below_drew1) | exact HB.out)) hb); have n2_ := Aside0.mk (hbox); have n3_ := Aside0.mk ((by rw [hg]; exact (below_size (by repeat (first | (with_reducible first | exact HB.out | apply below_alloc | apply pw_below_drewN | apply below_drew1) | exact HB.out))) : w.heap.size ≤ gb467)); have n4_ := Aside0.mk ((by rw [hg]; exact (below_size (by repeat (first | (with_reducible first | exact HB.out | apply below_alloc | apply pw_below_drewN | apply below_drew1) | exact HB.out))) : w.heap.size ≤ gb467)); clear HO466; clear HB; have HO466 := n0_; have HB := n1_; have BK467 := n2_; have GW467 := n3_; have GE467 := n4_; clear n0_ n1_ n2_ n3_ n4_; clear hb hbox hg; have hcz40_0 : w39.cell? ⟨gb467, 0, none⟩ = some (.int .i64 0) := (blk_cell BK467.out 0).trans rfl; have hcz40_1 : w39.cell? ⟨gb467, 1, none⟩ = some (.slice none 0 0) := (blk_cell BK467.out 1).trans rfl; have hfz40_0 := blk_frozen BK467.out 0; have hfz40_1 := blk_frozen BK467.out 1; obtain ⟨Ao41, co41, eo41⟩ := Kd.R_slice HO466.out; subst eo41) | ((with_reducible refine gate_callee (f := 24) rfl ?_); refine goesL_ (some 24) rfl rfl Tryd.func24 (by kernel_rfl) rfl #[.agg #[.int .i64 t463, .slice Ao41 t464.length co41], .slice A1 l1.length c1] rfl (by (try simp only [List.map_toArray, List.map_cons, List.map_nil]); first | done | rfl | (simp only [List.length_drop, List.length_take]; rfl)) ?_; (with_reducible refine (liaison_Loose.calls kj2 t463 _ _ t464 _ _ l1 t468 t471 _ ?side1 ?side2 ?side3 ?side4 ?side5 A13.out).mono ?_); (case side1 => refine (Kd.R_reads' (e := 68) (base := w.heap.size) (ok := fun k_ => True) (n := t464.length) (c := co41) ?_).2.2; exact (by (with_reducible repeat (first | apply Kd.R_alloc | apply Kd.R_drewN | apply Kd.R_drew)); exact (Kd.R_mono (Kd.R_far (p := ⟨gb467, 1, none⟩) (Kd.R_far (p := ⟨gb467, 0, none⟩) (Kd.R_types HO466.out BK467.out (by decide)) (fun _ hk => hk.2) (.int .i64 t463)) (fun _ hk => hk.2) (.slice Ao41 t464.length co41)) (fun _ h_ => h_.1)))); (case side2 => exact (Kd.R_reads' HO466.out).2.1); (case side3 => exact Kd.C_below HR1.out (by repeat (first | (with_reducible first | exact HB.out | apply below_alloc | apply pw_below_drewN | apply below_drew1 | refine below_set ?_ GE467.out) | exact HB.out))); (case side4 => exact HC1.out); (case side5 => exact Kd.C_below HG.out (by repeat (first | (with_reducible first | exact HB.out | apply below_alloc | apply pw_below_drewN | apply below_drew1 | refine below_set ?_ GE467.out) | exact HB.out))); rintro e w42 ⟨v469, rfl, ho0, hb⟩; refine ⟨_, rfl, ?_⟩; have n0_ := Aside0.mk (Kd.R_below (by (with_reducible repeat (first | apply Kd.R_alloc | apply Kd.R_drewN | apply Kd.R_drew)); exact (Kd.R_mono (Kd.R_far (p := ⟨gb467, 1, none⟩) (Kd.R_far (p := ⟨gb467, 0, none⟩) (Kd.R_types HO466.out BK467.out (by decide)) (fun _ hk => hk.2) (.int .i64 t463)) (fun _ hk => hk.2) (.slice Ao41 t464.length co41)) (fun _ h_ => h_.1))) hb); have n1_ := Aside0.mk (Kd.R_lower ho0 (below_size (by repeat (first | (with_reducible first | exact HB.out | apply below_alloc | apply pw_below_drewN | apply below_drew1 | refine below_set ?_ GE467.out) | exact HB.out)))); have n2_ := Aside0.mk (blk_below (g := gb467) (o := .cells #[.int .i64 t463, .slice Ao41 t464.length co41] 28 (0, 0)) (by (with_reducible repeat (first | refine blk_drewN ?_ _ | refine blk_drew ?_ | refine blk_alloc ?_ _)); refine blk_put (cs := #[.int .i64 t463, .slice none 0 0]) ?_ 1 _ rfl; (with_reducible repeat (first | refine blk_drewN ?_ _ | refine blk_drew ?_ | refine blk_alloc ?_ _)); refine blk_put (cs := #[.int .i64 0, .slice none 0 0]) ?_ 0 _ rfl; (with_reducible repeat (first | refine blk_drewN ?_ _ | refine blk_drew ?_ | refine blk_alloc ?_ _)); exact BK467.out) hb); have n3_ := Aside0.mk (below_step (by repeat (first | (with_reducible first | exact HB.out | apply below_alloc | apply pw_below_drewN | apply below_drew1 | refine below_set ?_ GE467.out) | exact HB.out)) hb); clear HO466; clear BK467; clear HB; have HO466 := n0_; have HO470 := n1_; have BK467 := n2_; have HB := n3_; clear n0_ n1_ n2_ n3_; (try clear hb); (try clear hb2); (try clear hk); (try clear hi); (try clear ho0)) | ((with_reducible refine gate_callee (f := 25) rfl ?_); refine goesL_ (some 28) rfl rfl Tryd.func25 (by kernel_rfl) rfl #[.slice A1 l1.length c1, .int .i64 6] rfl (by (try simp only [List.map_toArray, List.map_cons, List.map_nil]); first | done | rfl | (simp only [List.length_drop, List.length_take]; rfl)) ?_; (with_reducible refine (dowellaw29_checkGroups.calls kj2 _ _ l1 6 t472 _ ?side1 ?side2 A14.out).mono ?_); (case side1 => repeat (first | exact (Kd.C_below HR1.out HB.out) | (with_reducible refine Kd.C_alloc ?_ _) | (with_reducible refine Kd.C_drewN ?_ _) | (with_reducible refine Kd.C_drew ?_))); (case side2 => exact HC1.out); rintro e w' ⟨rfl, ⟨nd, rfl⟩⟩; refine ⟨_, rfl, ?_⟩; obtain ⟨Ao43, co43, eo43⟩ := Kd.R_slice HO470.out; subst eo43))
      go_ret
      exact ⟨by first | rfl | (simp [errW_none, errW_some] <;> rfl) | (simp [*, errW_none, errW_some] <;> rfl), by repeat (first | (with_reducible first | exact HB.out | apply below_alloc | apply pw_below_drewN | apply below_drew1 | refine below_set ?_ GE467.out) | exact HB.out)⟩
     ·rw [if_neg c37] at H
      have c37b0 : ((t468.length : Int) == 0) = false := beq_eq_false_iff_ne.mpr c37
      have c37b1 : ((t468.length : Int) != 0) = true := bne_iff_ne.mpr c37
      have c37b2 : ¬ (t468 = []) := fun h_ => c37 (by rw [h_]; rfl)
      obtain rfl := Option.some.inj H
      go_wp2_with (first | ((with_reducible refine gate_callee (f := 9) rfl ?_); refine goesL_ (some 20) rfl rfl Tryd.func9 (by kernel_rfl) rfl #[.int .u16 a0] rfl (by (try simp only [List.map_toArray, List.map_cons, List.map_nil]); first | done | rfl | (simp only [List.length_drop, List.length_take]; rfl)) ?_; (with_reducible refine (dowellaw29_pairs.calls kj2 a0 t463 t464 _ A12.out).mono ?_); rintro e w44 ⟨v465, rfl, ho0, hb⟩; refine ⟨_, rfl, ?_⟩; have n0_ := Aside0.mk (Kd.R_lower ho0 (below_size (by repeat (first | (with_reducible first | exact HB.out | apply below_alloc | apply pw_below_drewN | apply below_drew1) | exact HB.out)))); have n1_ := Aside0.mk (below_step (by repeat (first | (with_reducible first | exact HB.out | apply below_alloc | apply pw_below_drewN | apply below_drew1) | exact HB.out)) hb); clear HB; have HO466 := n0_; have HB := n1_; clear n0_ n1_; (try clear hb); (try clear hb2); (try clear hk); (try clear hi); (try clear ho0)) | ((with_reducible refine gate_dst (N := 5) rfl ?_); refine box_event ?hg (N := 5) ?hd (cs := #[.int .i64 0, .slice none 0 0]) (t := 28) ?hr ?_; (case hd => rfl); (case hg => rfl); (case hr => first | (go_simp; done) | (go_simp; rfl)); intro gb467 hg w45 hbox hb; have n0_ := Aside0.mk (Kd.R_below (by (with_reducible repeat (first | apply Kd.R_alloc | apply Kd.R_drewN | apply Kd.R_drew)); exact HO466.out) hb); have n1_ := Aside0.mk (below_step (by repeat (first | (with_reducible first | exact HB.out | apply below_alloc | apply pw_below_drewN | apply below_drew1) | exact HB.out)) hb); have n2_ := Aside0.mk (hbox); have n3_ := Aside0.mk ((by rw [hg]; exact (below_size (by repeat (first | (with_reducible first | exact HB.out | apply below_alloc | apply pw_below_drewN | apply below_drew1) | exact HB.out))) : w.heap.size ≤ gb467)); have n4_ := Aside0.mk ((by rw [hg]; exact (below_size (by repeat (first | (with_reducible first | exact HB.out | apply below_alloc | apply pw_below_drewN | apply below_drew1) | exact HB.out))) : w.heap.size ≤ gb467)); clear HO466; clear HB; have HO466 := n0_; have HB := n1_; have BK467 := n2_; have GW467 := n3_; have GE467 := n4_; clear n0_ n1_ n2_ n3_ n4_; clear hb hbox hg; have hcz46_0 : w45.cell? ⟨gb467, 0, none⟩ = some (.int .i64 0) := (blk_cell BK467.out 0).trans rfl; have hcz46_1 : w45.cell? ⟨gb467, 1, none⟩ = some (.slice none 0 0) := (blk_cell BK467.out 1).trans rfl; have hfz46_0 := blk_frozen BK467.out 0; have hfz46_1 := blk_frozen BK467.out 1; obtain ⟨Ao47, co47, eo47⟩ := Kd.R_slice HO466.out; subst eo47) | ((with_reducible refine gate_callee (f := 24) rfl ?_); refine goesL_ (some 24) rfl rfl Tryd.func24 (by kernel_rfl) rfl #[.agg #[.int .i64 t463, .slice Ao47 t464.length co47], .slice A1 l1.length c1] rfl (by (try simp only [List.map_toArray, List.map_cons, List.map_nil]); first | done | rfl | (simp only [List.length_drop, List.length_take]; rfl)) ?_; (with_reducible refine (liaison_Loose.calls kj2 t463 _ _ t464 _ _ l1 t468 t471 _ ?side1 ?side2 ?side3 ?side4 ?side5 A13.out).mono ?_); (case side1 => refine (Kd.R_reads' (e := 68) (base := w.heap.size) (ok := fun k_ => True) (n := t464.length) (c := co47) ?_).2.2; exact (by (with_reducible repeat (first | apply Kd.R_alloc | apply Kd.R_drewN | apply Kd.R_drew)); exact (Kd.R_mono (Kd.R_far (p := ⟨gb467, 1, none⟩) (Kd.R_far (p := ⟨gb467, 0, none⟩) (Kd.R_types HO466.out BK467.out (by decide)) (fun _ hk => hk.2) (.int .i64 t463)) (fun _ hk => hk.2) (.slice Ao47 t464.length co47)) (fun _ h_ => h_.1)))); (case side2 => exact (Kd.R_reads' HO466.out).2.1); (case side3 => exact Kd.C_below HR1.out (by repeat (first | (with_reducible first | exact HB.out | apply below_alloc | apply pw_below_drewN | apply below_drew1 | refine below_set ?_ GE467.out) | exact HB.out))); (case side4 => exact HC1.out); (case side5 => exact Kd.C_below HG.out (by repeat (first | (with_reducible first | exact HB.out | apply below_alloc | apply pw_below_drewN | apply below_drew1 | refine below_set ?_ GE467.out) | exact HB.out))); rintro e w48 ⟨v469, rfl, ho0, hb⟩; refine ⟨_, rfl, ?_⟩; have n0_ := Aside0.mk (Kd.R_below (by (with_reducible repeat (first | apply Kd.R_alloc | apply Kd.R_drewN | apply Kd.R_drew)); exact (Kd.R_mono (Kd.R_far (p := ⟨gb467, 1, none⟩) (Kd.R_far (p := ⟨gb467, 0, none⟩) (Kd.R_types HO466.out BK467.out (by decide)) (fun _ hk => hk.2) (.int .i64 t463)) (fun _ hk => hk.2) (.slice Ao47 t464.length co47)) (fun _ h_ => h_.1))) hb); have n1_ := Aside0.mk (Kd.R_lower ho0 (below_size (by repeat (first | (with_reducible first | exact HB.out | apply below_alloc | apply pw_below_drewN | apply below_drew1 | refine below_set ?_ GE467.out) | exact HB.out)))); have n2_ := Aside0.mk (blk_below (g := gb467) (o := .cells #[.int .i64 t463, .slice Ao47 t464.length co47] 28 (0, 0)) (by (with_reducible repeat (first | refine blk_drewN ?_ _ | refine blk_drew ?_ | refine blk_alloc ?_ _)); refine blk_put (cs := #[.int .i64 t463, .slice none 0 0]) ?_ 1 _ rfl; (with_reducible repeat (first | refine blk_drewN ?_ _ | refine blk_drew ?_ | refine blk_alloc ?_ _)); refine blk_put (cs := #[.int .i64 0, .slice none 0 0]) ?_ 0 _ rfl; (with_reducible repeat (first | refine blk_drewN ?_ _ | refine blk_drew ?_ | refine blk_alloc ?_ _)); exact BK467.out) hb); have n3_ := Aside0.mk (below_step (by repeat (first | (with_reducible first | exact HB.out | apply below_alloc | apply pw_below_drewN | apply below_drew1 | refine below_set ?_ GE467.out) | exact HB.out)) hb); clear HO466; clear BK467; clear HB; have HO466 := n0_; have HO470 := n1_; have BK467 := n2_; have HB := n3_; clear n0_ n1_ n2_ n3_; (try clear hb); (try clear hb2); (try clear hk); (try clear hi); (try clear ho0)) | ((with_reducible refine gate_callee (f := 25) rfl ?_); refine goesL_ (some 28) rfl rfl Tryd.func25 (by kernel_rfl) rfl #[.slice A1 l1.length c1, .int .i64 6] rfl (by (try simp only [List.map_toArray, List.map_cons, List.map_nil]); first | done | rfl | (simp only [List.length_drop, List.length_take]; rfl)) ?_; (with_reducible refine (dowellaw29_checkGroups.calls kj2 _ _ l1 6 t472 _ ?side1 ?side2 A14.out).mono ?_); (case side1 => repeat (first | exact (Kd.C_below HR1.out HB.out) | (with_reducible refine Kd.C_alloc ?_ _) | (with_reducible refine Kd.C_drewN ?_ _) | (with_reducible refine Kd.C_drew ?_))); (case side2 => exact HC1.out); rintro e w' ⟨rfl, ⟨nd, rfl⟩⟩; refine ⟨_, rfl, ?_⟩; obtain ⟨Ao49, co49, eo49⟩ := Kd.R_slice HO470.out; subst eo49))
      go_ret
      exact ⟨by first | rfl | (simp [errW_none, errW_some] <;> rfl) | (simp [*, errW_none, errW_some] <;> rfl), by repeat (first | (with_reducible first | exact HB.out | apply below_alloc | apply pw_below_drewN | apply below_drew1 | refine below_set ?_ GE467.out) | exact HB.out)⟩
end
end Go.Proofs.YtbghfbhlbfcloaaDoor.PL
namespace Go.Proofs.YtbghfbhlbfcloaaDoor.PL
section
set_option linter.unusedVariables false
set_option linter.unusedSimpArgs false
open Go.RowKit Go.Proofs.YtbghfbhlbfcloaaDoorW.PrintWords Go.Proofs.YtbghfbhlbfcloaaDoorW.PrintLast Go.Proofs.YtbghfbhlbfcloaaDoorW.PrintMore

theorem EI_pair (m : Nat) : (EI m).Pairwise (· < ·) := by
 unfold EI El
 exact List.pairwise_map.2 ((List.Pairwise.filter _ List.pairwise_lt_range).imp fun h => by omega)
theorem mask6 {x : List Int} (h : OkM 6 x) (hx : x.length ≤ 10) (h2 : 2 ≤ x.length) : ∃ m : Nat, m < 64 ∧ m ≠ 0 ∧ EI m = x ∧ ∀ k, x.length < k → liaison_masked.f k x = some (m : Int) := by
 obtain ⟨m, hm, hf⟩ := mask_f x (by omega) (fun a ha => ⟨(h.1 a ha).1, by have := (h.1 a ha).2; omega⟩)
 have hlt : m < 2 ^ 6 := Nat.lt_pow_two_of_testBit m fun i hi => by
  cases e : m.testBit i with
  | false => rfl
  | true =>
   have := (h.1 _ ((hm.2 i).1 e)).2
   omega
 have hmem : ∀ a, a ∈ EI m ↔ a ∈ x := fun a => by
  rw [EI_mem]
  constructor
  ·rintro ⟨i, rfl, _, hb⟩
   exact (hm.2 i).1 hb
  ·intro ha
   have h1 := h.1 a ha
   obtain ⟨i, rfl⟩ : ∃ i : Nat, a = (i : Int) := ⟨a.toNat, by omega⟩
   exact ⟨i, rfl, by omega, (hm.2 i).2 ha⟩
 have hxn : x.Nodup := h.2.imp fun h => by omega
 have hp : (EI m).Perm x := (List.perm_ext_iff_of_nodup (EI_nodup m) hxn).2 hmem
 have he : EI m = x := List.Perm.eq_of_pairwise (fun a b _ _ h1 h2 => by omega) (EI_pair m) h.2 hp
 refine ⟨m, hlt, fun h0 => ?_, he, hf⟩
 subst h0
 have : x = [] := he.symm
 rw [this] at h2
 simp at h2
/-- Do the group's members hang together? -/
def gq (A : List Nat) (x : S57) : Bool := ((liaison_masked.f CG.k x.f1).bind fun m => liaison_links_connected.f CU.k (LI A) m).getD false
theorem gq_f {A : List Nat} {E : List S68} (hA : Gd A) (hE : Ed A E) {x : S57} (h : GdG 6 x) (hx : x.f1.length ≤ 10) : (∀ k, 700 ≤ k → (liaison_masked.f k x.f1).bind (fun m => liaison_links_connected.f k (LI A) m) = some (gq A x)) ∧ ∀ k, 200 ≤ k → dowellaw29_connected.f k 6 E x.f1 = some (gq A x) := by
 obtain ⟨m, hm, h0, he, hf⟩ := mask6 h.1 hx h.2
 have e : gq A x = cB A m := by
  unfold gq
  rw [hf CG.k (by unfold CG.k; omega), Option.bind_some, cB_f hA hm h0 CU.k (by decide)]
  rfl
 refine ⟨fun k hk => ?_, fun k hk => ?_⟩
 ·rw [hf k (by omega), Option.bind_some, cB_f hA hm h0 k hk, e]
 ·rw [← he, rcB_f hA hE 6 hm h0 k hk, e]
def lsL (A : List Nat) : Nat → List S57 → List Int
 | _, [] => []
 | i, x :: r => if gq A x = true then lsL A (i + 1) r else (i : Int) :: lsL A (i + 1) r
section
variable {A : List Nat} {E : List S68} {l : List S57}
theorem loose_l (hA : Gd A) (hE : Ed A E) (hl : l.length ≤ 8) (hg : ∀ x ∈ l, GdG 6 x ∧ x.f1.length ≤ 10) : ∀ (c i : Nat) (out : List Int), i + c = l.length → out.length ≤ i → ∀ k, 800 + c ≤ k → liaison_Loose.l0 k (LI A) out l (l.length : Int) (i : Int) = some (out ++ lsL A i (l.drop i), 0)
 | 0, i, out, hi, ho, k, hk => by
  obtain ⟨k, rfl⟩ : ∃ q, k = q + 1 := ⟨k - 1, by omega⟩
  rw [liaison_Loose.l0, if_neg (by omega), List.drop_eq_nil_of_le (by omega), lsL, List.append_nil]
 | c + 1, i, out, hi, ho, k, hk => by
  obtain ⟨k, rfl⟩ : ∃ q, k = q + 1 := ⟨k - 1, by omega⟩
  have hlt : i < l.length := by omega
  obtain ⟨h1, h2⟩ := hg l[i] (List.getElem_mem hlt)
  have h3 := (gq_f hA hE h1 h2).1 k (by omega)
  rw [liaison_Loose.l0, if_pos (by omega), if_pos (by omega), if_pos (by omega), rdG l i hlt, List.drop_eq_getElem_cons hlt, lsL, wr1 i (by omega)]
  obtain ⟨m, hm, hc⟩ := Option.bind_eq_some_iff.1 h3
  rw [hm, Option.bind_some, hc, Option.bind_some]
  by_cases hq : gq A l[i] = true
  ·rw [if_pos hq, if_pos hq]
   exact loose_l hA hE hl hg c (i + 1) out (by omega) (by omega) k (by omega)
  ·rw [if_neg hq, if_neg hq, if_pos (by omega), loose_l hA hE hl hg c (i + 1) _ (by omega) (by simp; omega) k (by omega), List.append_assoc]
   rfl
theorem lsL_len (A : List Nat) : ∀ (r : List S57) (i : Nat), (lsL A i r).length ≤ r.length
 | [], _ => by simp [lsL]
 | x :: r, i => by
  have := lsL_len A r (i + 1)
  rw [lsL]
  split
  ·simp only [List.length_cons]; omega
  ·simp only [List.length_cons]; omega
theorem want_l (hA : Gd A) (hE : Ed A E) (hl : l.length ≤ 8) (hg : ∀ x ∈ l, GdG 6 x ∧ x.f1.length ≤ 10) : ∀ (c i : Nat) (out : List Int), i + c = l.length → out.length ≤ i → ∀ k, 300 + c ≤ k → dowellaw29_LiaisonLoose.l0 k l (out ++ lsL A i (l.drop i)) 0 out (i : Int) 6 E = some true
 | 0, i, out, hi, ho, k, hk => by
  obtain ⟨k, rfl⟩ : ∃ q, k = q + 1 := ⟨k - 1, by omega⟩
  rw [dowellaw29_LiaisonLoose.l0, if_neg (by omega), List.drop_eq_nil_of_le (by omega), lsL, List.append_nil, same_f k _ _ (by omega) (by omega), Option.bind_some, if_pos (decide_eq_true rfl)]
  rfl
 | c + 1, i, out, hi, ho, k, hk => by
  obtain ⟨k, rfl⟩ : ∃ q, k = q + 1 := ⟨k - 1, by omega⟩
  have hlt : i < l.length := by omega
  obtain ⟨h1, h2⟩ := hg l[i] (List.getElem_mem hlt)
  rw [dowellaw29_LiaisonLoose.l0, if_pos (by omega), if_pos (by omega), rdG l i hlt, (gq_f hA hE h1 h2).2 k (by omega), Option.bind_some, List.drop_eq_getElem_cons hlt, lsL, wr1 i (by omega)]
  by_cases hq : gq A l[i] = true
  ·rw [if_pos hq, if_pos hq]
   exact want_l hA hE hl hg c (i + 1) out (by omega) (by omega) k (by omega)
  ·rw [if_neg hq, if_neg hq, if_pos (by omega)]
   have ih := want_l hA hE hl hg c (i + 1) (out ++ [(i : Int)]) (by omega) (by simp; omega) k (by omega)
   rw [List.append_assoc] at ih
   exact ih
end
/-- WHATEVER THE BITS AND THE GROUPS: TRUE. -/
theorem loose_plain (bits : Int) (l : List S57) : dowellaw29_LiaisonLoose.f 20000 bits l = some true := by
 have hkn : dowellaw29_known.f = some true := rfl
 unfold dowellaw29_LiaisonLoose.f
 rw [hkn, Option.bind_some, if_pos rfl, few_f l 20000 (by decide), Option.bind_some]
 cases hfew : fewB l with
 | false =>
  change dowellaw29_LiaisonLoose.j0 (19999 + 1) bits l true = some true
  rw [dowellaw29_LiaisonLoose.j0, if_pos rfl, hkn, Option.bind_some]
 | true =>
  obtain ⟨hl, hf⟩ := few_of hfew
  change dowellaw29_LiaisonLoose.j0 (19999 + 1) bits l false = some true
  obtain ⟨A, hA, hlk, hE, hsym⟩ := linked_f (tb bits) 19999 (by decide)
  obtain ⟨e, h1, h2, h3⟩ := checkGroups_f 6 hfew
  have hL : liaison_Loose.f 19999 6 (Eg (tb bits)) l = if e = 0 then liaison_Loose.l0 19999 (LI A) [] l (l.length : Int) 0 else some ([], e) := by
   unfold liaison_Loose.f
   rw [lcheck_f (tb bits) 19999 (by decide), Option.bind_some, if_pos rfl, show liaison_CheckGroups.f l 6 = some e from h2, Option.bind_some, hlk, Option.bind_some]
  rw [dowellaw29_LiaisonLoose.j0, if_neg (by decide), pairs_f bits 19999 (by decide), Option.bind_some, hL, h1 19999 (by decide)]
  by_cases h0 : e = 0
  ·subst h0
   obtain ⟨_, _, hg⟩ := h3 rfl
   have hg' : ∀ x ∈ l, GdG 6 x ∧ x.f1.length ≤ 10 := fun x hx => ⟨hg x hx, (hf x hx).1⟩
   have hp := loose_l hA hE hl hg' l.length 0 [] (by omega) (by simp) 19999 (by omega)
   rw [if_pos rfl, show liaison_Loose.l0 19999 (LI A) [] l (l.length : Int) 0 = _ from hp, Option.bind_some, Option.bind_some, if_pos rfl]
   exact want_l hA hE hl hg' l.length 0 [] (by omega) (by simp) 19999 (by omega)
  ·rw [if_neg h0, Option.bind_some, Option.bind_some, if_neg h0]
   show (if ((0 : Nat) : Int) = 0 then some (e == e) else some false) = some true
   rw [if_pos (show ((0 : Nat) : Int) = 0 from rfl), beq_self_eq_true]
end
end Go.Proofs.YtbghfbhlbfcloaaDoor.PL
