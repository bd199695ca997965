/- Put together by this session's program pack.py. -/
import Derived.Below
import Derived.Deep.Draws
import Derived.Deep.AppendLies
import Derived.Maps.AppendAt
import Derived.OwnWalk
import Derived.Laws.BytesArg
import Derived.Laws.MakeOwn
import Derived.Laws.OwnMore
import Derived.Deep.OwnRows
import Derived.Tactics
import Derived.Lib.ConvBytes
import Derived.Laws.Slices
import Derived.WalkKit
import Derived.KernelRfl
import Derived.RowKit3
import Derived.Deep.LoopGhost
import Derived.Deep.QuietTactic
import Derived.BigQuiet
import Derived.WideLaws
import Derived.Deep.DeepCutAuto
import Derived.Deep.CutBlock
import Derived.Deep.RegionHeld3
import Derived.Laws.Rows
import Derived.Lib.AppendStr
import Derived.ArgAppend
import Derived.Laws.IdiomCopy
import Derived.OrdersHeld
import Derived.Laws.BitsLemmas
import Derived.RowKit
import Derived.Sort.Grow
import Derived.Shelf.SlSortCmp.InsertionK
import Derived.WalkSpells
import Derived.Shelf.SlGeneric
import Derived.Shelf.SlSortCmp.NoneTotal
import Derived.Ground.SlsfProg
import Derived.RangeFuncNested
import Derived.RangeFuncBound
import Derived.RangeFuncCalls
import Derived.RangeFuncLeaves
import Derived.Shelf.Abstract
import Derived.Shelf.RegionOpen
import Derived.OwnWalkIn
import Derived.TacticsInMore
import Derived.LoopNIn
import Derived.LoopIn
import Derived.OrdersIn
import Derived.RangeFuncKeeps
import Derived.RangeFuncWrites
import Derived.Shelf.SlicesQ.IndexFunc
import Derived.Shelf.GgClosure.StringsIndexFuncTop
import Derived.Ground.SlgfProg
import Derived.Ground.GgwProg
import Derived.Test.YtbghfbhlbfcloaaGreatDoorVw0
import Derived.Test.YtbghfbhlbfcloaaGreatDoorVp0
import Derived.Test.YtbghfbhlbfcloaaGreatDoorVp1
import Derived.Test.YtbghfbhlbfcloaaGreatDoorVp2
import Derived.Test.YtbghfbhlbfcloaaGreatDoorVp3
namespace Go.Proofs.YtbghfbhlbfcloaaGreatDoor.PL
section
open Go.RowKit Go.Proofs.YtbghfbhlbfcloaaGreatDoorW.PrintWords Go.Proofs.YtbghfbhlbfcloaaGreatDoorW.PrintLast Go.Proofs.YtbghfbhlbfcloaaGreatDoorW.PrintMore
set_option linter.unusedVariables false
set_option linter.unusedSimpArgs false
theorem flat_get {sz : Nat} : ∀ (cs : List (List Value)) (_ : ∀ c ∈ cs, c.length = sz) (j i : Nat) (c : List Value), cs[j]? = some c → i < sz → cs.flatten[j * sz + i]? = c[i]?
 | [], _, j, i, c, h, _ => by simp at h
 | a :: r, hl, j, i, c, h, hi => by
  have ha := hl a (by simp)
  cases j with
  | zero =>
   simp at h
   subst h
   rw [List.flatten_cons, Nat.zero_mul, Nat.zero_add, List.getElem?_append_left (by omega)]
  | succ j =>
   simp at h
   rw [List.flatten_cons, List.getElem?_append_right (by rw [ha, Nat.add_mul]; omega), ha]
   rw [show (j + 1) * sz + i - sz = j * sz + i by rw [Nat.add_mul]; omega]
   exact flat_get r (fun q hq => hl q (by simp [hq])) j i c h hi
theorem litC {α : Type} (d : Kd α) (W : World) (e : Nat) (xs : List α) (cs : List (List Value)) (inner : Array Value) (hin : inner = cs.flatten.toArray) (hl : cs.length = xs.length) (hm : xs.length ≤ 1000)
  (hsz : ∀ c ∈ cs, c.length = d.sz) (hK : ∀ (j : Nat) (x : α) (c : List Value), xs[j]? = some x → cs[j]? = some c → d.K (W.alloc (.cells inner e)) x c) :
  Kd.C d (W.alloc (.cells inner e)) (some ⟨W.heap.size, 0, none⟩) xs.length xs := by
 refine ⟨rfl, by omega, fun _ => ⟨_, rfl, fun j x hj => ?_⟩⟩
 have hjl := (List.getElem?_eq_some_iff.1 hj).1
 have hc : cs[j]? = some cs[j] := List.getElem?_eq_getElem (by omega)
 refine ⟨cs[j], hsz _ (List.getElem_mem _), hK j x _ hj hc, fun i u hu => ?_⟩
 have hi : i < d.sz := by rw [← hsz cs[j] (List.getElem_mem _)]; exact (List.getElem?_eq_some_iff.1 hu).1
 have h1 := flat_get cs hsz j i _ hc hi
 have h2 := zA9 (blk_new W (.cells inner e)) (j * d.sz + i)
 rw [hin] at h2 ⊢
 rw [List.getElem?_toArray, h1, hu] at h2
 rw [show (⟨W.heap.size, 0, none⟩ : Addr).add (j * d.sz + i) = ⟨W.heap.size, j * d.sz + i, none⟩ by simp [Addr.add]; omega]
 exact h2
theorem flat_one (f : Int → Value) : ∀ xs : List Int, (xs.map fun x => [f x]).flatten = xs.map f
 | [] => rfl
 | a :: r => by rw [List.map_cons, List.flatten_cons, flat_one f r]; rfl
theorem litI (W : World) (xs : List Int) (inner : Array Value) (hin : inner = (xs.map fun x => Value.int .i64 x).toArray) (hm : xs.length ≤ 1000) : Kd.C (Kd.int .i64) (W.alloc (.cells inner 3)) (some ⟨W.heap.size, 0, none⟩) xs.length xs := by
 refine litC (Kd.int .i64) W 3 xs (xs.map fun x => [Value.int .i64 x]) inner ?_ (by simp) hm ?_ ?_
 ·rw [hin, flat_one]
 ·intro c hc
  obtain ⟨x, _, rfl⟩ := List.mem_map.1 hc
  rfl
 ·intro j x c hx hc
  rw [List.getElem?_map, hx] at hc
  cases hc
  rfl
def KE : List S58 := [⟨0, 1⟩, ⟨1, 0⟩, ⟨1, 2⟩, ⟨2, 1⟩, ⟨2, 3⟩, ⟨3, 2⟩]
def KG : List S60 := [⟨⟨#[97]⟩, [0, 1]⟩, ⟨⟨#[98]⟩, [0, 1, 2]⟩, ⟨⟨#[99]⟩, [3, 4]⟩]
def KC : List S46 := [⟨[0], [1, 2, 3]⟩, ⟨[0, 1], [2, 3]⟩, ⟨[0, 1, 2], [3]⟩]
theorem kn_make : graph_Make.f 4 KE = some (4, KE, 0) := by kernel_rfl
theorem kn_pieces : zB3.f 100 4 KE [0, 1, 3] = some ([[0, 1], [3]], 0) := by kernel_rfl
theorem kn_cuts : liaison_Cuts.f 4 KE [0, 1, 2, 3] = some (KC, 0) := by kernel_rfl
theorem kn_joints : zB4.f 100 4 KE [0, 1, 2, 3] = some ([1, 2], 0) := by kernel_rfl
theorem kn_parents : zAm.f 100 KG 5 = some ([1, -1, -1], 0) := by kernel_rfl
theorem kn_same1 : zBb.f 100 [[0, 1], [3]] [[0, 1], [3]] = some true := by kernel_rfl
theorem kn_same2 : zB1.f 100 [0, 1] [0, 1] = some true := by kernel_rfl
theorem kn_same3 : zB1.f 100 [2, 3] [2, 3] = some true := by kernel_rfl
theorem kn_same4 : zB1.f 100 [1, 2] [1, 2] = some true := by kernel_rfl
theorem kn_same5 : zB1.f 100 [1, -1, -1] [1, -1, -1] = some true := by kernel_rfl
def oneE (e : S58) : List Value := [.int .i64 e.f0, .int .i64 e.f1]
theorem litE (W : World) : Kd.C k58 (W.alloc (.cells #[.int .i64 0, .int .i64 1, .int .i64 1, .int .i64 0, .int .i64 1, .int .i64 2, .int .i64 2, .int .i64 1, .int .i64 2, .int .i64 3, .int .i64 3, .int .i64 2] 58)) (some ⟨W.heap.size, 0, none⟩) KE.length KE := by
 refine litC k58 W 58 KE (KE.map oneE) _ rfl rfl (by decide) (fun c hc => ?_) (fun j x c hx hc => ?_)
 ·obtain ⟨x, _, rfl⟩ := List.mem_map.1 hc
  rfl
 ·rw [List.getElem?_map, hx] at hc
  cases hc
  exact k58_mk _ x
theorem litG (W : World) : Kd.C k60 ((((W.alloc (.cells #[.int .i64 0, .int .i64 1] 3)).alloc (.cells #[.int .i64 0, .int .i64 1, .int .i64 2] 3)).alloc (.cells #[.int .i64 3, .int .i64 4] 3)).alloc (.cells #[.string ⟨#[97]⟩, .slice (some ⟨W.heap.size, 0, none⟩) 2 2, .string ⟨#[98]⟩, .slice (some ⟨W.heap.size + 1, 0, none⟩) 3 3, .string ⟨#[99]⟩, .slice (some ⟨W.heap.size + 1 + 1, 0, none⟩) 2 2] 60)) (some ⟨W.heap.size + 1 + 1 + 1, 0, none⟩) KG.length KG := by
 have h1 : Kd.C (Kd.int .i64) (W.alloc (.cells #[.int .i64 0, .int .i64 1] 3)) (some ⟨W.heap.size, 0, none⟩) 2 [0, 1] := litI W [0, 1] _ rfl (by decide)
 have h2 := litI (W.alloc (.cells #[.int .i64 0, .int .i64 1] 3)) [0, 1, 2] _ rfl (by decide)
 have h3 := litI ((W.alloc (.cells #[.int .i64 0, .int .i64 1] 3)).alloc (.cells #[.int .i64 0, .int .i64 1, .int .i64 2] 3)) [3, 4] _ rfl (by decide)
 have h4 := litC k60 (((W.alloc (.cells #[.int .i64 0, .int .i64 1] 3)).alloc (.cells #[.int .i64 0, .int .i64 1, .int .i64 2] 3)).alloc (.cells #[.int .i64 3, .int .i64 4] 3)) 60 KG [[.string ⟨#[97]⟩, .slice (some ⟨W.heap.size, 0, none⟩) 2 2], [.string ⟨#[98]⟩, .slice (some ⟨W.heap.size + 1, 0, none⟩) 3 3], [.string ⟨#[99]⟩, .slice (some ⟨W.heap.size + 1 + 1, 0, none⟩) 2 2]] #[.string ⟨#[97]⟩, .slice (some ⟨W.heap.size, 0, none⟩) 2 2, .string ⟨#[98]⟩, .slice (some ⟨W.heap.size + 1, 0, none⟩) 3 3, .string ⟨#[99]⟩, .slice (some ⟨W.heap.size + 1 + 1, 0, none⟩) 2 2] rfl rfl (by decide) (fun c hc => ?_) (fun j x c hx hc => ?_)
 ·simp only [World.size_alloc] at h4
  exact h4
 ·simp only [List.mem_cons, List.not_mem_nil, or_false] at hc
  rcases hc with rfl | rfl | rfl <;> rfl
 ·rw [World.size_alloc] at h2
  rw [World.size_alloc, World.size_alloc] at h3
  rcases j with _ | _ | _ | j
  ·cases hx; cases hc
   exact k60_mk _ ⟨⟨#[97]⟩, [0, 1]⟩ (Nat.le_refl _) (Kd.zAj (Kd.zAj (Kd.zAj h1 _) _) _)
  ·cases hx; cases hc
   exact k60_mk _ ⟨⟨#[98]⟩, [0, 1, 2]⟩ (Nat.le_refl _) (Kd.zAj (Kd.zAj h2 _) _)
  ·cases hx; cases hc
   exact k60_mk _ ⟨⟨#[99]⟩, [3, 4]⟩ (Nat.le_refl _) (Kd.zAj h3 _)
  ·simp [KG] at hx
theorem kn33 (W : World) : Calls Tryz.prog 24 #[.int .i64 4, .slice (some ⟨W.heap.size, 0, none⟩) 6 6] (W.alloc (.cells #[.int .i64 0, .int .i64 1, .int .i64 1, .int .i64 0, .int .i64 1, .int .i64 2, .int .i64 2, .int .i64 1, .int .i64 2, .int .i64 3, .int .i64 3, .int .i64 2] 58)) fun e w' => ∃ A1 c1, e = .returned (.tuple #[.agg #[.int .i64 4, .slice A1 6 c1], .int .i64 0]) ∧ (6 ≤ c1 ∧ Kd.C k58 w' A1 6 KE) ∧ Below W.heap.size W w' := by
 refine (graph_Make.calls 4 _ _ KE 4 KE 0 _ (litE W) (Nat.le_refl _) kn_make).mono ?_
 rintro e w1 ⟨v1, rfl, hR1, hb1⟩
 obtain ⟨A1, c1, rfl⟩ := Kd.zC3 hR1
 have h := Kd.zAz hR1
 exact ⟨A1, c1, rfl, ⟨h.2.1, h.2.2⟩, (zA2 (Below.refl W.heap.size W) _).trans (hb1.mono (by simp))⟩
theorem kn17 (W : World) (A1 : Option Addr) (c1 : Nat) (h1 : Kd.C k58 W A1 6 KE) (hc : 6 ≤ c1) (hG : Kd.C (Kd.int .u8) W (some tabA) tabL.length tabL) : Calls Tryz.prog 13 #[.agg #[.int .i64 4, .slice A1 6 c1], .slice (some ⟨W.heap.size + 1, 0, none⟩) 3 3] ((W.alloc (.cells #[.int .i64 4, .slice A1 6 c1] 28)).alloc (.cells #[.int .i64 0, .int .i64 1, .int .i64 3] 3)) fun e w' => ∃ A2 c2, e = .returned (.tuple #[.slice A2 2 c2, .int .i64 0]) ∧ (2 ≤ c2 ∧ Kd.C (Kd.slice 3 (Kd.int .i64)) w' A2 2 [[0, 1], [3]]) ∧ Below W.heap.size W w' ∧ w'.heap[W.heap.size]? = some (.cells #[.int .i64 4, .slice A1 6 c1] 28 (0, 0)) := by
 have hl := litI (W.alloc (.cells #[.int .i64 4, .slice A1 6 c1] 28)) [0, 1, 3] _ rfl (by decide)
 rw [World.size_alloc] at hl
 refine (zB3.calls 100 4 A1 c1 KE _ 3 [0, 1, 3] [[0, 1], [3]] 0 _ (Kd.zAj (Kd.zAj h1 _) _) hc hl (Nat.le_refl _) (Kd.zAj (Kd.zAj hG _) _) kn_pieces).mono ?_
 rintro e w2 ⟨v2, rfl, hS2, hb2⟩
 obtain ⟨A2, c2, rfl⟩ := Kd.S_slice hS2
 have h := Kd.S_reads' hS2
 exact ⟨A2, c2, rfl, ⟨h.2.1, h.2.2⟩, (zA2 (zA2 (Below.refl W.heap.size W) _) _).trans (hb2.mono (by simp; omega)), zAq (zA6 (blk_new W _) _) hb2⟩
theorem kn10 (W : World) (A1 : Option Addr) (c1 : Nat) (h1 : Kd.C k58 W A1 6 KE) (hc : 6 ≤ c1) (hG : Kd.C (Kd.int .u8) W (some tabA) tabL.length tabL) : Calls Tryz.prog 14 #[.agg #[.int .i64 4, .slice A1 6 c1], .slice (some ⟨W.heap.size, 0, none⟩) 4 4] (W.alloc (.cells #[.int .i64 0, .int .i64 1, .int .i64 2, .int .i64 3] 3)) fun e w' => ∃ A2 c2, e = .returned (.tuple #[.slice A2 3 c2, .int .i64 0]) ∧ (3 ≤ c2 ∧ Kd.C k46 w' A2 3 KC) ∧ Below W.heap.size W w' := by
 have hl := litI W [0, 1, 2, 3] _ rfl (by decide)
 refine (liaison_Cuts.calls 4 A1 c1 KE _ 4 [0, 1, 2, 3] KC 0 _ (Kd.zAj h1 _) hc hl (Nat.le_refl _) (Kd.zAj hG _) kn_cuts).mono ?_
 rintro e w2 ⟨v2, rfl, hS2, hb2⟩
 obtain ⟨A2, c2, rfl⟩ := Kd.S_slice hS2
 have h := Kd.S_reads' hS2
 exact ⟨A2, c2, rfl, ⟨h.2.1, h.2.2⟩, (zA2 (Below.refl W.heap.size W) _).trans (hb2.mono (by simp))⟩
theorem kn11 (W : World) (A1 : Option Addr) (c1 : Nat) (h1 : Kd.C k58 W A1 6 KE) (hc : 6 ≤ c1) (hG : Kd.C (Kd.int .u8) W (some tabA) tabL.length tabL) : Calls Tryz.prog 15 #[.agg #[.int .i64 4, .slice A1 6 c1], .slice (some ⟨W.heap.size, 0, none⟩) 4 4] (W.alloc (.cells #[.int .i64 0, .int .i64 1, .int .i64 2, .int .i64 3] 3)) fun e w' => ∃ A2 c2, e = .returned (.tuple #[.slice A2 2 c2, .int .i64 0]) ∧ (2 ≤ c2 ∧ Kd.C (Kd.int .i64) w' A2 2 [1, 2]) ∧ Below W.heap.size W w' := by
 have hl := litI W [0, 1, 2, 3] _ rfl (by decide)
 refine (zB4.calls 100 4 A1 c1 KE _ 4 [0, 1, 2, 3] [1, 2] 0 _ (Kd.zAj h1 _) hc hl (Nat.le_refl _) (Kd.zAj hG _) kn_joints).mono ?_
 rintro e w2 ⟨v2, rfl, hS2, hb2⟩
 obtain ⟨A2, c2, rfl⟩ := Kd.zC3 hS2
 have h := Kd.zAz hS2
 exact ⟨A2, c2, rfl, ⟨h.2.1, h.2.2⟩, (zA2 (Below.refl W.heap.size W) _).trans (hb2.mono (by simp))⟩
theorem kn26 (W : World) : Calls Tryz.prog 25 #[.slice (some ⟨W.heap.size + 1 + 1 + 1, 0, none⟩) 3 3, .int .i64 5] ((((W.alloc (.cells #[.int .i64 0, .int .i64 1] 3)).alloc (.cells #[.int .i64 0, .int .i64 1, .int .i64 2] 3)).alloc (.cells #[.int .i64 3, .int .i64 4] 3)).alloc (.cells #[.string ⟨#[97]⟩, .slice (some ⟨W.heap.size, 0, none⟩) 2 2, .string ⟨#[98]⟩, .slice (some ⟨W.heap.size + 1, 0, none⟩) 3 3, .string ⟨#[99]⟩, .slice (some ⟨W.heap.size + 1 + 1, 0, none⟩) 2 2] 60)) fun e w' => ∃ A2 c2, e = .returned (.tuple #[.slice A2 3 c2, .int .i64 0]) ∧ (3 ≤ c2 ∧ Kd.C (Kd.int .i64) w' A2 3 [1, -1, -1]) ∧ Below W.heap.size W w' := by
 refine (zAm.calls 100 _ _ KG 5 [1, -1, -1] 0 _ (litG W) (Nat.le_refl _) kn_parents).mono ?_
 rintro e w2 ⟨v2, rfl, hS2, hb2⟩
 obtain ⟨A2, c2, rfl⟩ := Kd.zC3 hS2
 have h := Kd.zAz hS2
 exact ⟨A2, c2, rfl, ⟨h.2.1, h.2.2⟩, (zA2 (zA2 (zA2 (zA2 (Below.refl W.heap.size W) _) _) _) _).trans (hb2.mono (by simp; omega))⟩
theorem kn21 (W : World) (A2 : Option Addr) (c2 : Nat) (h : Kd.C (Kd.slice 3 (Kd.int .i64)) W A2 2 [[0, 1], [3]]) (hc : 2 ≤ c2) : Calls Tryz.prog 10 #[.slice A2 2 c2, .slice (some ⟨W.heap.size + 1 + 1, 0, none⟩) 2 2] (((W.alloc (.cells #[.int .i64 0, .int .i64 1] 3)).alloc (.cells #[.int .i64 3] 3)).alloc (.cells #[.slice (some ⟨W.heap.size, 0, none⟩) 2 2, .slice (some ⟨W.heap.size + 1, 0, none⟩) 1 1] 23)) fun e w' => e = .returned (.bool true) ∧ Below W.heap.size W w' := by
 have h1 : Kd.C (Kd.int .i64) (W.alloc (.cells #[.int .i64 0, .int .i64 1] 3)) (some ⟨W.heap.size, 0, none⟩) 2 [0, 1] := litI W [0, 1] _ rfl (by decide)
 have h2 := litI (W.alloc (.cells #[.int .i64 0, .int .i64 1] 3)) [3] _ rfl (by decide)
 rw [World.size_alloc] at h2
 have h4 := litC (Kd.slice 3 (Kd.int .i64)) ((W.alloc (.cells #[.int .i64 0, .int .i64 1] 3)).alloc (.cells #[.int .i64 3] 3)) 23 [[0, 1], [3]] [[.slice (some ⟨W.heap.size, 0, none⟩) 2 2], [.slice (some ⟨W.heap.size + 1, 0, none⟩) 1 1]] #[.slice (some ⟨W.heap.size, 0, none⟩) 2 2, .slice (some ⟨W.heap.size + 1, 0, none⟩) 1 1] rfl rfl (by decide) (fun c hc => by simp only [List.mem_cons, List.not_mem_nil, or_false] at hc; rcases hc with rfl | rfl <;> rfl) (fun j x c hx hc => by
  rcases j with _ | _ | j
  ·cases hx; cases hc
   exact ⟨_, _, rfl, Nat.le_refl _, Kd.zAj (Kd.zAj h1 _) _⟩
  ·cases hx; cases hc
   exact ⟨_, _, rfl, Nat.le_refl _, Kd.zAj h2 _⟩
  ·simp at hx)
 simp only [World.size_alloc] at h4
 refine (zBb.calls 100 A2 c2 [[0, 1], [3]] _ 2 [[0, 1], [3]] true _ (Kd.zAj (Kd.zAj (Kd.zAj h _) _) _) hc h4 (Nat.le_refl _) kn_same1).mono ?_
 rintro e w2 ⟨rfl, ⟨n, rfl⟩⟩
 exact ⟨rfl, zA0 (zA2 (zA2 (zA2 (Below.refl _ _) _) _) _) n⟩
theorem kn14 (W : World) (A : Option Addr) (c : Nat) (a b : Int) (h : Kd.C (Kd.int .i64) W A 2 [a, b]) (hc : 2 ≤ c) (hs : zB1.f 100 [a, b] [a, b] = some true) : Calls Tryz.prog 26 #[.slice A 2 c, .slice (some ⟨W.heap.size, 0, none⟩) 2 2] (W.alloc (.cells #[.int .i64 a, .int .i64 b] 3)) fun e w' => e = .returned (.bool true) ∧ Below W.heap.size W w' := by
 have h1 := litI W [a, b] _ rfl (by simp)
 refine (zB1.calls 100 A c [a, b] _ 2 [a, b] true _ (Kd.zAj h _) hc h1 (Nat.le_refl _) hs).mono ?_
 rintro e w2 ⟨rfl, ⟨n, rfl⟩⟩
 exact ⟨rfl, zA0 (zA2 (Below.refl _ _) _) n⟩
theorem kn14c (W : World) (A : Option Addr) (c : Nat) (a b d : Int) (h : Kd.C (Kd.int .i64) W A 3 [a, b, d]) (hc : 3 ≤ c) (hs : zB1.f 100 [a, b, d] [a, b, d] = some true) : Calls Tryz.prog 26 #[.slice A 3 c, .slice (some ⟨W.heap.size, 0, none⟩) 3 3] (W.alloc (.cells #[.int .i64 a, .int .i64 b, .int .i64 d] 3)) fun e w' => e = .returned (.bool true) ∧ Below W.heap.size W w' := by
 have h1 := litI W [a, b, d] _ rfl (by simp)
 refine (zB1.calls 100 A c [a, b, d] _ 3 [a, b, d] true _ (Kd.zAj h _) hc h1 (Nat.le_refl _) hs).mono ?_
 rintro e w2 ⟨rfl, ⟨n, rfl⟩⟩
 exact ⟨rfl, zA0 (zA2 (Below.refl _ _) _) n⟩
theorem knRead (W : World) (A : Option Addr) (h : Kd.C k46 W A 3 KC) : ∃ ad B0 d0 B1 d1, A = some ad ∧ W.cell? ⟨ad.block, ad.off + 2, none⟩ = some (.slice B0 2 d0) ∧ W.cell? ⟨ad.block, ad.off + 2 + 1, none⟩ = some (.slice B1 2 d1) ∧ (2 ≤ d0 ∧ Kd.C (Kd.int .i64) W B0 2 [0, 1]) ∧ (2 ≤ d1 ∧ Kd.C (Kd.int .i64) W B1 2 [2, 3]) := by
 obtain ⟨ad, B0, d0, B1, d1, e, h0, h1, h2, h3, h4, h5⟩ := at_T46 h 1 (by decide) (by decide)
 exact ⟨ad, B0, d0, B1, d1, e, h0, h1, ⟨h2, h3⟩, ⟨h4, h5⟩⟩
def KN.f : Option Bool := some true
set_option maxRecDepth 100000 in
set_option maxHeartbeats 600000 in
theorem KN.calls (r : Bool) (w : World) (hG : Kd.C (Kd.int .u8) w (some tabA) tabL.length tabL) (h : KN.f = some r) :
  Calls Tryz.prog 7 #[] w fun e w' => e = .returned (.bool r) ∧ Below w.heap.size w w' := by
 have hu28 := Tryz.underlying28
 have hu41 := Tryz.underlying46
 have hu57 := Tryz.underlying60
 have hu68 := Tryz.underlying58
 obtain rfl : true = r := Option.some.inj h
 have HG := zA1.mk hG
 clear hG h
 go_enter Tryz.func7, Tryz.ntmps7
 go_wp2_with (first
  | (go_at_call 24; refine (kn33 w).mono ?_; rintro e w1 ⟨A1, c1, rfl, h1, hb1⟩; have H1 := zA1.mk h1; have HB1 := zA1.mk hb1; clear h1 hb1)
  | (go_at_call 13; refine (kn17 w1 A1 c1 H1.out.2 H1.out.1 (Kd.zAx HG.out HB1.out)).mono ?_; rintro e w2 ⟨A2, c2, rfl, h2, hb2, hk2⟩; have H2 := zA1.mk h2; have HB2 := zA1.mk hb2; have HK2 := zA1.mk hk2; have hz20 := (zA9 hk2 0).trans rfl; have hz21 := (zA9 hk2 1).trans rfl; clear h2 hb2 hk2)
  | (go_at_call 14; refine (kn10 w2 A1 c1 (Kd.zAx H1.out.2 HB2.out) H1.out.1 (Kd.zAx (Kd.zAx HG.out HB1.out) HB2.out)).mono ?_; rintro e w3 ⟨A3, c3, rfl, h3, hb3⟩; have H3 := zA1.mk h3; have HB3 := zA1.mk hb3; have hk3 := zAq HK2.out hb3; have HK3 := zA1.mk hk3; have hz30 := (zA9 hk3 0).trans rfl; have hz31 := (zA9 hk3 1).trans rfl; clear h3 hb3 hk3)
  | (go_at_call 15; refine (kn11 w3 A1 c1 (Kd.zAx (Kd.zAx H1.out.2 HB2.out) HB3.out) H1.out.1 (Kd.zAx (Kd.zAx (Kd.zAx HG.out HB1.out) HB2.out) HB3.out)).mono ?_; rintro e w4 ⟨A4, c4, rfl, h4, hb4⟩; have H4 := zA1.mk h4; have HB4 := zA1.mk hb4; clear h4 hb4)
  | (go_at_call 25; refine (kn26 w4).mono ?_; rintro e w5 ⟨A5, c5, rfl, h5, hb5⟩; have H5 := zA1.mk h5; have HB5 := zA1.mk hb5; clear h5 hb5)
  | (go_at_call 10; refine (kn21 w5 A2 c2 (Kd.zAx (Kd.zAx (Kd.zAx H2.out.2 HB3.out) HB4.out) HB5.out) H2.out.1).mono ?_; rintro e w6 ⟨rfl, hb6⟩; have HB6 := zA1.mk hb6; obtain ⟨ad, B0, d0, B1, d1, rfl, hy0, hy1, hL, hR⟩ := knRead w6 A3 (Kd.zAx (Kd.zAx (Kd.zAx H3.out.2 HB4.out) HB5.out) HB6.out); have HLL := zA1.mk hL; have HRR := zA1.mk hR; have HY1 := zA1.mk hy1; clear hb6 hL hR hy1)
  | (go_at_call 26; with_reducible refine (kn14 w6 B0 d0 0 1 HLL.out.2 HLL.out.1 kn_same2).mono ?_; rintro e w7 ⟨rfl, hb7⟩; have hy7 := (hb7.cell (World.block_lt_of_cell? w6 _ HY1.out)).trans HY1.out; have HB7 := zA1.mk hb7; clear hb7)
  | (go_at_call 26; with_reducible refine (kn14 w7 B1 d1 2 3 (Kd.zAx HRR.out.2 HB7.out) HRR.out.1 kn_same3).mono ?_; rintro e w8 ⟨rfl, hb8⟩; have HB8 := zA1.mk hb8; clear hb8)
  | (go_at_call 26; with_reducible refine (kn14 w8 A4 c4 1 2 (Kd.zAx (Kd.zAx (Kd.zAx (Kd.zAx H4.out.2 HB5.out) HB6.out) HB7.out) HB8.out) H4.out.1 kn_same4).mono ?_; rintro e w9 ⟨rfl, hb9⟩; have HB9 := zA1.mk hb9; clear hb9)
  | (go_at_call 26; with_reducible refine (kn14c w9 A5 c5 1 (-1) (-1) (Kd.zAx (Kd.zAx (Kd.zAx (Kd.zAx H5.out.2 HB6.out) HB7.out) HB8.out) HB9.out) H5.out.1 kn_same5).mono ?_; rintro e w10 ⟨rfl, hb10⟩; have HB10 := zA1.mk hb10; clear hb10))
 go_ret
 exact ⟨rfl, (zAg (zAg (zAg (zAg (zAg (zAg (zAg (zAg (zAg HB1.out HB2.out) HB3.out) HB4.out) HB5.out) HB6.out) HB7.out) HB8.out) HB9.out) HB10.out)⟩
end
end Go.Proofs.YtbghfbhlbfcloaaGreatDoor.PL
namespace Go.Proofs.YtbghfbhlbfcloaaGreatDoor.PL
section
open Go.RowKit Go.Proofs.YtbghfbhlbfcloaaGreatDoorW.PrintWords Go.Proofs.YtbghfbhlbfcloaaGreatDoorW.PrintLast Go.Proofs.YtbghfbhlbfcloaaGreatDoorW.PrintMore
attribute [local go_sem] zBv zBt zC5 zC4 zBo zBn zBu zBs   -- for this text's walks alone
set_option linter.unusedVariables false
set_option linter.unusedSimpArgs false
attribute [local go_sem high] eqA58
def zCd.f  : Option (Bool) := KN.f 
theorem zCd.calls  (r : Bool) (w : World) (hG : Kd.C (Kd.int .u8) w (some tabA) tabL.length tabL) (h : zCd.f  = some r) :
  Calls Tryz.prog 7 #[] w fun e w' => e = .returned (.bool r) ∧ Below w.heap.size w w' :=
  KN.calls r w hG h
end
end Go.Proofs.YtbghfbhlbfcloaaGreatDoor.PL
namespace Go.Proofs.YtbghfbhlbfcloaaGreatDoor.PL
section
open Go.RowKit Go.Proofs.YtbghfbhlbfcloaaGreatDoorW.PrintWords Go.Proofs.YtbghfbhlbfcloaaGreatDoorW.PrintLast Go.Proofs.YtbghfbhlbfcloaaGreatDoorW.PrintMore
attribute [local go_sem] zBv zBt zC5 zC4 zBo zBn zBu zBs   -- for this text's walks alone
set_option linter.unusedVariables false
set_option linter.unusedSimpArgs false
mutual
def zA4.j0 : Nat → Int → List Int → Bool → Option (Bool)
 | 0, _, _, _ => none
 | k + 1, x0, x5, x32 => if x32 = true then ((zCd.f).bind fun t349 => (some t349)) else ((zAl.f k x0).bind fun bt350 => ((zBr.f k bt350.1 bt350.2 x5).bind fun bt355 => ((zB3.f k bt350.1 bt350.2 x5).bind fun bt357 => (if bt355.2 = 0 then (if bt357.2 = 0 then (zA4.j1 k x5 bt355.1 (bt355.1 != ((bt357.1.length : Int) == 1)) bt350.1 bt350.2) else (zA4.j1 k x5 bt355.1 true bt350.1 bt350.2)) else (zA4.j1 k x5 bt355.1 true bt350.1 bt350.2)))))
def zA4.j1 : Nat → List Int → Bool → Bool → Int → List (S58) → Option (Bool)
 | 0, _, _, _, _, _ => none
 | k + 1, x5, x7, x60, x355000, x355001 => if x60 = true then (some false) else (if x7 = true then ((liaison_Cuts.f x355000 x355001 x5).bind fun bt361 => ((zB4.f k x355000 x355001 x5).bind fun bt365 => ((liaison_Subsets.f x355000 x355001 x5 (x5.length : Int)).bind fun bt369 => (if bt361.2 = 0 then (if bt365.2 = 0 then (if bt369.2 = 0 then (if (bt361.1.length : Int) = 0 then (zA4.j2 k x5 bt361.1 bt365.1 bt369.1 true x355000 x355001) else (zA4.j2 k x5 bt361.1 bt365.1 bt369.1 (decide ((bt365.1.length : Int) ≥ (x5.length : Int))) x355000 x355001)) else (zA4.j2 k x5 bt361.1 bt365.1 bt369.1 true x355000 x355001)) else (zA4.j2 k x5 bt361.1 bt365.1 bt369.1 true x355000 x355001)) else (zA4.j2 k x5 bt361.1 bt365.1 bt369.1 true x355000 x355001))))) else (some true))
def zA4.j2 : Nat → List Int → List (S46) → List Int → List (List Int) → Bool → Int → List (S58) → Option (Bool)
 | 0, _, _, _, _, _, _, _ => none
 | k + 1, x5, x11, x13, x15, x104, x355000, x355001 => if x104 = true then (some false) else (zA4.l0 k x5 x13 x15 x11 (x11.length : Int) 0 x355000 x355001)
def zA4.l0 : Nat → List Int → List Int → List (List Int) → List (S46) → Int → Int → Int → List (S58) → Option (Bool)
 | 0, _, _, _, _, _, _, _, _ => none
 | k + 1, x5, x13, x15, x105, x106, x107, x355000, x355001 => if x107 < x106 then (if 0 ≤ x107 then (if x107 < (x105.length : Int) then (if (wrap64 ((((zBm x105 x107).f0).length : Int) + (((zBm x105 x107).f1).length : Int))) = (x5.length : Int) then ((zB8.f k ((zBm x105 x107).f0) ((zBm x105 x107).f1)).bind fun t375 => (if t375 = true then ((zAt.f k x15 ((zBm x105 x107).f0)).bind fun t376 => (if t376 = true then ((zAt.f k x15 ((zBm x105 x107).f1)).bind fun t377 => (if t377 = true then (zA4.l0 k x5 x13 x15 x105 x106 (wrap64 (x107 + 1)) x355000 x355001) else (some false))) else (some false))) else (some false))) else (some false)) else (none)) else (none)) else (zA4.l1 k x5 x13 x5 (x5.length : Int) 0 x355000 x355001)
def zA4.l1 : Nat → List Int → List Int → List Int → Int → Int → Int → List (S58) → Option (Bool)
 | 0, _, _, _, _, _, _, _ => none
 | k + 1, x5, x13, x144, x145, x146, x355000, x355001 => if x146 < x145 then (if 0 ≤ x146 then (if x146 < (x144.length : Int) then ((zAv.f k x5 (([rd x144 x146] : List Int))).bind fun t382 => ((zB3.f k x355000 x355001 t382).bind fun bt385 => (if bt385.2 = 0 then ((zAs.f k x13 (rd x144 x146)).bind fun t389 => (if (t389 != (decide ((bt385.1.length : Int) > 1))) = true then (some false) else (zA4.l1 k x5 x13 x144 x145 (wrap64 (x146 + 1)) x355000 x355001))) else (some false)))) else (none)) else (none)) else (some true)
end
def zA4.f (k : Nat) (a0 : Int) (a1 : Int) : Option (Bool) := (zB7.f k a1).bind fun t345 => ((zCd.f).bind fun t348 => (if t348 = true then (zA4.j0 k a0 t345 (decide ((t345.length : Int) < 2))) else (zA4.j0 k a0 t345 true)))
theorem zA4.zBw : ∀ k, (∀ y0 y1 y2, LeO (zA4.j0 k y0 y1 y2) (zA4.j0 (k + 1) y0 y1 y2)) ∧ (∀ y0 y1 y2 y3 y4, LeO (zA4.j1 k y0 y1 y2 y3 y4) (zA4.j1 (k + 1) y0 y1 y2 y3 y4)) ∧ (∀ y0 y1 y2 y3 y4 y5 y6, LeO (zA4.j2 k y0 y1 y2 y3 y4 y5 y6) (zA4.j2 (k + 1) y0 y1 y2 y3 y4 y5 y6)) ∧ (∀ y0 y1 y2 y3 y4 y5 y6 y7, LeO (zA4.l0 k y0 y1 y2 y3 y4 y5 y6 y7) (zA4.l0 (k + 1) y0 y1 y2 y3 y4 y5 y6 y7)) ∧ (∀ y0 y1 y2 y3 y4 y5 y6, LeO (zA4.l1 k y0 y1 y2 y3 y4 y5 y6) (zA4.l1 (k + 1) y0 y1 y2 y3 y4 y5 y6))
 | 0 => ⟨fun _ _ _ r h => by simp [zA4.j0] at h, fun _ _ _ _ _ r h => by simp [zA4.j1] at h, fun _ _ _ _ _ _ _ r h => by simp [zA4.j2] at h, fun _ _ _ _ _ _ _ _ r h => by simp [zA4.l0] at h, fun _ _ _ _ _ _ _ r h => by simp [zA4.l1] at h⟩
 | k + 1 => by
  obtain ⟨ih0, ih1, ih2, ih3, ih4⟩ := zA4.zBw k
  refine ⟨?_, ?_, ?_, ?_, ?_⟩
  ·intro y0 y1 y2
   unfold zA4.j0
   repeat' first
   | (with_reducible exact ih0 _ _ _)
   | (with_reducible exact ih1 _ _ _ _ _)
   | (with_reducible exact ih2 _ _ _ _ _ _ _)
   | (with_reducible exact ih3 _ _ _ _ _ _ _ _)
   | (with_reducible exact ih4 _ _ _ _ _ _ _)
   | (with_reducible exact zB8.mono _ _ _)
   | (with_reducible exact zB7.mono _ _)
   | (with_reducible exact zAs.mono _ _ _)
   | (with_reducible exact zAt.mono _ _ _)
   | (with_reducible exact zAl.mono _ _)
   | (with_reducible exact zAv.mono _ _ _)
   | (with_reducible exact zBr.mono _ _ _ _)
   | (with_reducible exact zB4.mono _ _ _ _)
   | (with_reducible exact zB3.mono _ _ _ _)
   | (with_reducible exact LeO.refl _)
   | (with_reducible exact LeO.none _)
   | (with_reducible refine LeO.ite ?_ ?_)
   | (with_reducible refine LeO.bind ?_ (fun _ => ?_))
  ·intro y0 y1 y2 y3 y4
   unfold zA4.j1
   repeat' first
   | (with_reducible exact ih0 _ _ _)
   | (with_reducible exact ih1 _ _ _ _ _)
   | (with_reducible exact ih2 _ _ _ _ _ _ _)
   | (with_reducible exact ih3 _ _ _ _ _ _ _ _)
   | (with_reducible exact ih4 _ _ _ _ _ _ _)
   | (with_reducible exact zB8.mono _ _ _)
   | (with_reducible exact zB7.mono _ _)
   | (with_reducible exact zAs.mono _ _ _)
   | (with_reducible exact zAt.mono _ _ _)
   | (with_reducible exact zAl.mono _ _)
   | (with_reducible exact zAv.mono _ _ _)
   | (with_reducible exact zBr.mono _ _ _ _)
   | (with_reducible exact zB4.mono _ _ _ _)
   | (with_reducible exact zB3.mono _ _ _ _)
   | (with_reducible exact LeO.refl _)
   | (with_reducible exact LeO.none _)
   | (with_reducible refine LeO.ite ?_ ?_)
   | (with_reducible refine LeO.bind ?_ (fun _ => ?_))
  ·intro y0 y1 y2 y3 y4 y5 y6
   unfold zA4.j2
   repeat' first
   | (with_reducible exact ih0 _ _ _)
   | (with_reducible exact ih1 _ _ _ _ _)
   | (with_reducible exact ih2 _ _ _ _ _ _ _)
   | (with_reducible exact ih3 _ _ _ _ _ _ _ _)
   | (with_reducible exact ih4 _ _ _ _ _ _ _)
   | (with_reducible exact zB8.mono _ _ _)
   | (with_reducible exact zB7.mono _ _)
   | (with_reducible exact zAs.mono _ _ _)
   | (with_reducible exact zAt.mono _ _ _)
   | (with_reducible exact zAl.mono _ _)
   | (with_reducible exact zAv.mono _ _ _)
   | (with_reducible exact zBr.mono _ _ _ _)
   | (with_reducible exact zB4.mono _ _ _ _)
   | (with_reducible exact zB3.mono _ _ _ _)
   | (with_reducible exact LeO.refl _)
   | (with_reducible exact LeO.none _)
   | (with_reducible refine LeO.ite ?_ ?_)
   | (with_reducible refine LeO.bind ?_ (fun _ => ?_))
  ·intro y0 y1 y2 y3 y4 y5 y6 y7
   unfold zA4.l0
   repeat' first
   | (with_reducible exact ih0 _ _ _)
   | (with_reducible exact ih1 _ _ _ _ _)
   | (with_reducible exact ih2 _ _ _ _ _ _ _)
   | (with_reducible exact ih3 _ _ _ _ _ _ _ _)
   | (with_reducible exact ih4 _ _ _ _ _ _ _)
   | (with_reducible exact zB8.mono _ _ _)
   | (with_reducible exact zB7.mono _ _)
   | (with_reducible exact zAs.mono _ _ _)
   | (with_reducible exact zAt.mono _ _ _)
   | (with_reducible exact zAl.mono _ _)
   | (with_reducible exact zAv.mono _ _ _)
   | (with_reducible exact zBr.mono _ _ _ _)
   | (with_reducible exact zB4.mono _ _ _ _)
   | (with_reducible exact zB3.mono _ _ _ _)
   | (with_reducible exact LeO.refl _)
   | (with_reducible exact LeO.none _)
   | (with_reducible refine LeO.ite ?_ ?_)
   | (with_reducible refine LeO.bind ?_ (fun _ => ?_))
  ·intro y0 y1 y2 y3 y4 y5 y6
   unfold zA4.l1
   repeat' first
   | (with_reducible exact ih0 _ _ _)
   | (with_reducible exact ih1 _ _ _ _ _)
   | (with_reducible exact ih2 _ _ _ _ _ _ _)
   | (with_reducible exact ih3 _ _ _ _ _ _ _ _)
   | (with_reducible exact ih4 _ _ _ _ _ _ _)
   | (with_reducible exact zB8.mono _ _ _)
   | (with_reducible exact zB7.mono _ _)
   | (with_reducible exact zAs.mono _ _ _)
   | (with_reducible exact zAt.mono _ _ _)
   | (with_reducible exact zAl.mono _ _)
   | (with_reducible exact zAv.mono _ _ _)
   | (with_reducible exact zBr.mono _ _ _ _)
   | (with_reducible exact zB4.mono _ _ _ _)
   | (with_reducible exact zB3.mono _ _ _ _)
   | (with_reducible exact LeO.refl _)
   | (with_reducible exact LeO.none _)
   | (with_reducible refine LeO.ite ?_ ?_)
   | (with_reducible refine LeO.bind ?_ (fun _ => ?_))
theorem zA4.mono : ∀ a0 a1 k, LeO (zA4.f k a0 a1) (zA4.f (k + 1) a0 a1) := by
 intro a0 a1 k
 obtain ⟨ih0, ih1, ih2, ih3, ih4⟩ := zA4.zBw k
 unfold zA4.f
 repeat' first
   | (with_reducible exact ih0 _ _ _)
   | (with_reducible exact ih1 _ _ _ _ _)
   | (with_reducible exact ih2 _ _ _ _ _ _ _)
   | (with_reducible exact ih3 _ _ _ _ _ _ _ _)
   | (with_reducible exact ih4 _ _ _ _ _ _ _)
   | (with_reducible exact zB8.mono _ _ _)
   | (with_reducible exact zB7.mono _ _)
   | (with_reducible exact zAs.mono _ _ _)
   | (with_reducible exact zAt.mono _ _ _)
   | (with_reducible exact zAl.mono _ _)
   | (with_reducible exact zAv.mono _ _ _)
   | (with_reducible exact zBr.mono _ _ _ _)
   | (with_reducible exact zB4.mono _ _ _ _)
   | (with_reducible exact zB3.mono _ _ _ _)
   | (with_reducible exact LeO.refl _)
   | (with_reducible exact LeO.none _)
   | (with_reducible refine LeO.ite ?_ ?_)
   | (with_reducible refine LeO.bind ?_ (fun _ => ?_))
set_option maxHeartbeats 8000000 in
set_option maxRecDepth 100000 in
theorem zA4.calls (k : Nat) (a0 : Int) (a1 : Int) (r : Bool) (w : World) (hG : Kd.C (Kd.int .u8) w (some tabA) tabL.length tabL) (h : zA4.f k a0 a1 = some r) :
  Calls Tryz.prog 4 #[.int .u16 a0, .int .u8 a1] w fun e w' => e = .returned (.bool r) ∧ Below w.heap.size w w' := by
 have hu28 := Tryz.underlying28
 have hu46 := Tryz.underlying46
 have HB := zA1.mk (Below.refl w.heap.size w)
 have HG := zA1.mk hG
 clear hG
 have H : ((zB7.f k a1).bind fun t345 => ((zCd.f).bind fun t348 => (if t348 = true then (zA4.j0 k a0 t345 (decide ((t345.length : Int) < 2))) else (zA4.j0 k a0 t345 true)))) = some r := h
 clear h
 replace H := Option.bind_eq_some_iff.mp H
 obtain ⟨t345, A30, H⟩ := H
 replace H : ((zCd.f).bind fun t348 => (if t348 = true then (zA4.j0 k a0 t345 (decide ((t345.length : Int) < 2))) else (zA4.j0 k a0 t345 true))) = some r := H
 have A3 := zA1.mk A30
 clear A30
 have HC4 := zA1.mk H
 clear H
 go_enter Tryz.func4, Tryz.ntmps4
 go_upto_region 2 with (first | ((with_reducible refine zAy (f := 6) rfl ?_); refine zBz (some 25) rfl rfl Tryz.func6 (by kernel_rfl) rfl #[.int .u8 a1] rfl (by (try simp only [List.map_toArray, List.map_cons, List.map_nil]); first | done | rfl | (simp only [List.length_drop, List.length_take]; rfl)) ?_; (with_reducible refine (zB7.calls k a1 t345 _ A3.out).mono ?_); rintro e w5 ⟨v346, rfl, ho0, hb⟩; refine ⟨_, rfl, ?_⟩; have n0_ := zA1.mk (Kd.R_lower ho0 (zAb (by repeat (first | (with_reducible first | exact HB.out | apply zA2 | apply zA0 | apply zA3) | exact HB.out)))); have n1_ := zA1.mk (zAg (by repeat (first | (with_reducible first | exact HB.out | apply zA2 | apply zA0 | apply zA3) | exact HB.out)) hb); clear HB; have HO347 := n0_; have HB := n1_; clear n0_ n1_; (try clear hb); (try clear hb2); (try clear hk); (try clear hi); (try clear ho0)))
 (try simp only [Act.put, List.setIfInBounds_toArray, List.set_cons_zero, List.set_cons_succ])
 go_cut [32] (fun v32 wc => ∃ (kq : Nat) (x32_3 : Bool), v32 = .bool x32_3 ∧ zA1 (zA4.j0 kq a0 t345 x32_3 = some r) ∧ zA1 (kq ≤ k) ∧ zA1 (Kd.R (Kd.int .i64) 3 wc w.heap.size (fun _ => True) v346 t345) ∧ zA1 (Below w.heap.size w wc))
 case first =>
  have H := HC4.out
  clear HC4
  replace H := Option.bind_eq_some_iff.mp H
  obtain ⟨t348, A60, H⟩ := H
  replace H : (if t348 = true then (zA4.j0 k a0 t345 (decide ((t345.length : Int) < 2))) else (zA4.j0 k a0 t345 true)) = some r := H
  have A6 := zA1.mk A60
  clear A60
  by_cases c7 : t348 = true
  ·subst c7
   have H1 : (zA4.j0 k a0 t345 (decide ((t345.length : Int) < 2))) = some r := by rw [if_pos rfl] at H; exact H
   clear H
   have H := H1
   clear H1
   have H' := zA1.mk H
   clear H
   go_wp2_with (first | ((with_reducible refine zAy (f := 7) rfl ?_); refine zBz (some 26) rfl rfl Tryz.func7 (by kernel_rfl) rfl #[] rfl (by (try simp only [List.map_toArray, List.map_cons, List.map_nil]); first | done | rfl | (simp only [List.length_drop, List.length_take]; rfl)) ?_; (with_reducible refine (zCd.calls  true _ ?side1 A6.out).mono ?_); (case side1 => repeat (first | exact (Kd.zAx HG.out HB.out) | (with_reducible refine Kd.zAj ?_ _) | (with_reducible refine Kd.zAr ?_ _) | (with_reducible refine Kd.zB9 ?_))); rintro e w8 ⟨rfl, hb⟩; refine ⟨_, rfl, ?_⟩; have n0_ := zA1.mk (Kd.zBg (by (with_reducible repeat (first | apply Kd.zAf | apply Kd.zAe | apply Kd.zAh)); exact HO347.out) hb); have n1_ := zA1.mk (zAg (by repeat (first | (with_reducible first | exact HB.out | apply zA2 | apply zA0 | apply zA3) | exact HB.out)) hb); clear HO347; clear HB; have HO347 := n0_; have HB := n1_; clear n0_ n1_; (try clear hb); (try clear hb2); (try clear hk); (try clear hi); obtain ⟨Ao9, co9, eo9⟩ := Kd.zC3 HO347.out; subst eo9))
   go_meet
   case rel => exact ⟨_, (decide ((t345.length : Int) < 2)), (by first | rfl | (simp; done) | (simp [*]; done)), H', ⟨by first | omega | exact Nat.le_refl _⟩, ⟨by (with_reducible repeat (first | apply Kd.zAf | apply Kd.zAe | apply Kd.zAh)); exact HO347.out⟩, ⟨by repeat (first | (with_reducible first | exact HB.out | apply zA2 | apply zA0 | apply zA3) | exact HB.out)⟩⟩
  ·replace c7 := Bool.eq_false_iff.mpr c7
   subst c7
   have H1 : (zA4.j0 k a0 t345 true) = some r := by rw [if_neg (show ¬ (false = true) by decide)] at H; exact H
   clear H
   have H := H1
   clear H1
   have H' := zA1.mk H
   clear H
   go_wp2_with (first | ((with_reducible refine zAy (f := 7) rfl ?_); refine zBz (some 26) rfl rfl Tryz.func7 (by kernel_rfl) rfl #[] rfl (by (try simp only [List.map_toArray, List.map_cons, List.map_nil]); first | done | rfl | (simp only [List.length_drop, List.length_take]; rfl)) ?_; (with_reducible refine (zCd.calls  false _ ?side1 A6.out).mono ?_); (case side1 => repeat (first | exact (Kd.zAx HG.out HB.out) | (with_reducible refine Kd.zAj ?_ _) | (with_reducible refine Kd.zAr ?_ _) | (with_reducible refine Kd.zB9 ?_))); rintro e w10 ⟨rfl, hb⟩; refine ⟨_, rfl, ?_⟩; have n0_ := zA1.mk (Kd.zBg (by (with_reducible repeat (first | apply Kd.zAf | apply Kd.zAe | apply Kd.zAh)); exact HO347.out) hb); have n1_ := zA1.mk (zAg (by repeat (first | (with_reducible first | exact HB.out | apply zA2 | apply zA0 | apply zA3) | exact HB.out)) hb); clear HO347; clear HB; have HO347 := n0_; have HB := n1_; clear n0_ n1_; (try clear hb); (try clear hb2); (try clear hk); (try clear hi)))
   go_meet
   case rel => exact ⟨_, (true), (by first | rfl | (simp; done) | (simp [*]; done)), H', ⟨by first | omega | exact Nat.le_refl _⟩, ⟨by (with_reducible repeat (first | apply Kd.zAf | apply Kd.zAe | apply Kd.zAh)); exact HO347.out⟩, ⟨by repeat (first | (with_reducible first | exact HB.out | apply zA2 | apply zA0 | apply zA3) | exact HB.out)⟩⟩
 case rest =>
  clear HC4
  try clear p2
  try clear c4
  try clear c6
  try clear c7
  obtain ⟨kq, x32_3, rfl, HA, HJ3, HO_5, HB⟩ := hcut
  cases kq with
  | zero => exact absurd HA.out (by simp [zA4.j0])
  | succ kj3 =>
   have H := HA.out
   clear HA
   simp only [zA4.j0] at H
   by_cases c11 : x32_3 = true
   ·subst c11
    have H1 : ((zCd.f).bind fun t349 => (some t349)) = some r := by rw [if_pos rfl] at H; exact H
    clear H
    have H := H1
    clear H1
    replace H := Option.bind_eq_some_iff.mp H
    obtain ⟨t349, A120, H⟩ := H
    replace H : (some t349) = some r := H
    have A12 := zA1.mk A120
    clear A120
    obtain rfl := Option.some.inj H
    go_wp2_with (first | ((with_reducible refine zAy (f := 7) rfl ?_); refine zBz (some 33) rfl rfl Tryz.func7 (by kernel_rfl) rfl #[] rfl (by (try simp only [List.map_toArray, List.map_cons, List.map_nil]); first | done | rfl | (simp only [List.length_drop, List.length_take]; rfl)) ?_; (with_reducible refine (zCd.calls  t349 _ ?side1 A12.out).mono ?_); (case side1 => repeat (first | exact (Kd.zAx HG.out HB.out) | (with_reducible refine Kd.zAj ?_ _) | (with_reducible refine Kd.zAr ?_ _) | (with_reducible refine Kd.zB9 ?_))); rintro e w13 ⟨rfl, hb⟩; refine ⟨_, rfl, ?_⟩; have n0_ := zA1.mk (Kd.zBg (by (with_reducible repeat (first | apply Kd.zAf | apply Kd.zAe | apply Kd.zAh)); exact HO_5.out) hb); have n1_ := zA1.mk (zAg (by repeat (first | (with_reducible first | exact HB.out | apply zA2 | apply zA0 | apply zA3) | exact HB.out)) hb); clear HO_5; clear HB; have HO_5 := n0_; have HB := n1_; clear n0_ n1_; (try clear hb); (try clear hb2); (try clear hk); (try clear hi)))
    go_ret
    exact ⟨by first | rfl | (simp [zAp, zAo] <;> rfl) | (simp [*, zAp, zAo] <;> rfl), by repeat (first | (with_reducible first | exact HB.out | apply zA2 | apply zA0 | apply zA3) | exact HB.out)⟩
   ·replace c11 := Bool.eq_false_iff.mpr c11
    subst c11
    have H1 : ((zAl.f kj3 a0).bind fun bt350 => ((zBr.f kj3 bt350.1 bt350.2 t345).bind fun bt355 => ((zB3.f kj3 bt350.1 bt350.2 t345).bind fun bt357 => (if bt355.2 = 0 then (if bt357.2 = 0 then (zA4.j1 kj3 t345 bt355.1 (bt355.1 != ((bt357.1.length : Int) == 1)) bt350.1 bt350.2) else (zA4.j1 kj3 t345 bt355.1 true bt350.1 bt350.2)) else (zA4.j1 kj3 t345 bt355.1 true bt350.1 bt350.2))))) = some r := by rw [if_neg (show ¬ (false = true) by decide)] at H; exact H
    clear H
    have H := H1
    clear H1
    replace H := Option.bind_eq_some_iff.mp H
    obtain ⟨⟨t350, t351⟩, A140, H⟩ := H
    replace H : ((zBr.f kj3 t350 t351 t345).bind fun bt355 => ((zB3.f kj3 t350 t351 t345).bind fun bt357 => (if bt355.2 = 0 then (if bt357.2 = 0 then (zA4.j1 kj3 t345 bt355.1 (bt355.1 != ((bt357.1.length : Int) == 1)) t350 t351) else (zA4.j1 kj3 t345 bt355.1 true t350 t351)) else (zA4.j1 kj3 t345 bt355.1 true t350 t351)))) = some r := H
    have A14 := zA1.mk A140
    clear A140
    replace H := Option.bind_eq_some_iff.mp H
    obtain ⟨⟨t355, t356⟩, A150, H⟩ := H
    replace H : ((zB3.f kj3 t350 t351 t345).bind fun bt357 => (if t356 = 0 then (if bt357.2 = 0 then (zA4.j1 kj3 t345 t355 (t355 != ((bt357.1.length : Int) == 1)) t350 t351) else (zA4.j1 kj3 t345 t355 true t350 t351)) else (zA4.j1 kj3 t345 t355 true t350 t351))) = some r := H
    have A15 := zA1.mk A150
    clear A150
    replace H := Option.bind_eq_some_iff.mp H
    obtain ⟨⟨t357, t360⟩, A160, H⟩ := H
    replace H : (if t356 = 0 then (if t360 = 0 then (zA4.j1 kj3 t345 t355 (t355 != ((t357.length : Int) == 1)) t350 t351) else (zA4.j1 kj3 t345 t355 true t350 t351)) else (zA4.j1 kj3 t345 t355 true t350 t351)) = some r := H
    have A16 := zA1.mk A160
    clear A160
    have HC17 := zA1.mk H
    clear H
    go_upto_region 7 with (first | ((with_reducible refine zAy (f := 8) rfl ?_); refine zBz (some 35) rfl rfl Tryz.func8 (by kernel_rfl) rfl #[.int .u16 a0] rfl (by (try simp only [List.map_toArray, List.map_cons, List.map_nil]); first | done | rfl | (simp only [List.length_drop, List.length_take]; rfl)) ?_; (with_reducible refine (zAl.calls kj3 a0 t350 t351 _ A14.out).mono ?_); rintro e w18 ⟨v352, rfl, ho0, hb⟩; refine ⟨_, rfl, ?_⟩; have n0_ := zA1.mk (Kd.zBg (by (with_reducible repeat (first | apply Kd.zAf | apply Kd.zAe | apply Kd.zAh)); exact HO_5.out) hb); have n1_ := zA1.mk (Kd.R_lower ho0 (zAb (by repeat (first | (with_reducible first | exact HB.out | apply zA2 | apply zA0 | apply zA3) | exact HB.out)))); have n2_ := zA1.mk (zAg (by repeat (first | (with_reducible first | exact HB.out | apply zA2 | apply zA0 | apply zA3) | exact HB.out)) hb); clear HO_5; clear HB; have HO_5 := n0_; have HO353 := n1_; have HB := n2_; clear n0_ n1_ n2_; (try clear hb); (try clear hb2); (try clear hk); (try clear hi); (try clear ho0)) | ((with_reducible refine zBk (N := 6) rfl ?_); (try (refine gate_guard (by rfl) ?_; dsimp only)); refine zBl ?hg (N := 6) ?hd (cs := #[.int .i64 0, .slice none 0 0]) (t := 28) ?hr ?_; (case hd => rfl); (case hg => rfl); (case hr => first | (go_simp; done) | (go_simp; rfl)); intro gb354 hg w19 hbox hb; have n0_ := zA1.mk (Kd.zBg (by (with_reducible repeat (first | apply Kd.zAf | apply Kd.zAe | apply Kd.zAh)); exact HO_5.out) hb); have n1_ := zA1.mk (Kd.zBg (by (with_reducible repeat (first | apply Kd.zAf | apply Kd.zAe | apply Kd.zAh)); exact HO353.out) hb); have n2_ := zA1.mk (zAg (by repeat (first | (with_reducible first | exact HB.out | apply zA2 | apply zA0 | apply zA3) | exact HB.out)) hb); have n3_ := zA1.mk (hbox); have n4_ := zA1.mk ((by rw [hg]; exact (zAb (by repeat (first | (with_reducible first | exact HB.out | apply zA2 | apply zA0 | apply zA3) | exact HB.out))) : w.heap.size ≤ gb354)); have n5_ := zA1.mk ((by rw [hg]; exact (zAb (by repeat (first | (with_reducible first | exact HB.out | apply zA2 | apply zA0 | apply zA3) | exact HB.out))) : w.heap.size ≤ gb354)); clear HO_5; clear HO353; clear HB; have HO_5 := n0_; have HO353 := n1_; have HB := n2_; have BK354 := n3_; have GW354 := n4_; have GE354 := n5_; clear n0_ n1_ n2_ n3_ n4_ n5_; clear hb hbox hg; have hcz20_0 : w19.cell? ⟨gb354, 0, none⟩ = some (.int .i64 0) := (zA9 BK354.out 0).trans rfl; have hcz20_1 : w19.cell? ⟨gb354, 1, none⟩ = some (.slice none 0 0) := (zA9 BK354.out 1).trans rfl; have hfz20_0 := zAd BK354.out 0; have hfz20_1 := zAd BK354.out 1; obtain ⟨Ao21, co21, eo21⟩ := Kd.zC3 HO353.out; subst eo21; obtain ⟨Ao22, co22, eo22⟩ := Kd.zC3 HO_5.out; subst eo22) | ((with_reducible refine zAy (f := 12) rfl ?_); refine zBz (some 39) rfl rfl Tryz.func12 (by kernel_rfl) rfl #[.agg #[.int .i64 t350, .slice Ao21 t351.length co21], .slice Ao22 t345.length co22] rfl (by (try simp only [List.map_toArray, List.map_cons, List.map_nil]); first | done | rfl | (simp only [List.length_drop, List.length_take]; rfl)) ?_; (with_reducible refine (zBr.calls kj3 t350 _ _ t351 _ _ t345 t355 t356 _ ?side1 ?side2 ?side3 ?side4 ?side5 A15.out).mono ?_); (case side1 => refine (Kd.zAz (e := 58) (base := w.heap.size) (ok := fun k_ => True) (n := t351.length) (c := co21) ?_).2.2; exact (by (with_reducible repeat (first | apply Kd.zAf | apply Kd.zAe | apply Kd.zAh)); exact (Kd.zC0 (Kd.R_far (p := ⟨gb354, 1, none⟩) (Kd.R_far (p := ⟨gb354, 0, none⟩) (Kd.R_types HO353.out BK354.out (by decide)) (fun _ hk => hk.2) (.int .i64 t350)) (fun _ hk => hk.2) (.slice Ao21 t351.length co21)) (fun _ h_ => h_.1)))); (case side2 => exact (Kd.zAz HO353.out).2.1); (case side3 => refine (Kd.zAz (e := 3) (base := w.heap.size) (ok := fun k_ => True) (n := t345.length) (c := co22) ?_).2.2; exact (by (with_reducible repeat (first | apply Kd.zAf | apply Kd.zAe | apply Kd.zAh)); exact (Kd.zC0 (Kd.R_far (p := ⟨gb354, 1, none⟩) (Kd.R_far (p := ⟨gb354, 0, none⟩) (Kd.R_types HO_5.out BK354.out (by decide)) (fun _ hk => hk.2) (.int .i64 t350)) (fun _ hk => hk.2) (.slice Ao21 t351.length co21)) (fun _ h_ => h_.1)))); (case side4 => exact (Kd.zAz HO_5.out).2.1); (case side5 => exact Kd.zAx HG.out (by repeat (first | (with_reducible first | exact HB.out | apply zA2 | apply zA0 | apply zA3 | refine zA5 ?_ GE354.out) | exact HB.out))); rintro e w23 ⟨rfl, hb⟩; refine ⟨_, rfl, ?_⟩; have n0_ := zA1.mk (Kd.zBg (by (with_reducible repeat (first | apply Kd.zAf | apply Kd.zAe | apply Kd.zAh)); exact (Kd.zC0 (Kd.R_far (p := ⟨gb354, 1, none⟩) (Kd.R_far (p := ⟨gb354, 0, none⟩) (Kd.R_types HO_5.out BK354.out (by decide)) (fun _ hk => hk.2) (.int .i64 t350)) (fun _ hk => hk.2) (.slice Ao21 t351.length co21)) (fun _ h_ => h_.1))) hb); have n1_ := zA1.mk (Kd.zBg (by (with_reducible repeat (first | apply Kd.zAf | apply Kd.zAe | apply Kd.zAh)); exact (Kd.zC0 (Kd.R_far (p := ⟨gb354, 1, none⟩) (Kd.R_far (p := ⟨gb354, 0, none⟩) (Kd.R_types HO353.out BK354.out (by decide)) (fun _ hk => hk.2) (.int .i64 t350)) (fun _ hk => hk.2) (.slice Ao21 t351.length co21)) (fun _ h_ => h_.1))) hb); have n2_ := zA1.mk (zAq (g := gb354) (o := .cells #[.int .i64 t350, .slice Ao21 t351.length co21] 28 (0, 0)) (by (with_reducible repeat (first | refine zA7 ?_ _ | refine zA8 ?_ | refine zA6 ?_ _)); refine blk_put (cs := #[.int .i64 t350, .slice none 0 0]) ?_ 1 _ rfl; (with_reducible repeat (first | refine zA7 ?_ _ | refine zA8 ?_ | refine zA6 ?_ _)); refine blk_put (cs := #[.int .i64 0, .slice none 0 0]) ?_ 0 _ rfl; (with_reducible repeat (first | refine zA7 ?_ _ | refine zA8 ?_ | refine zA6 ?_ _)); exact BK354.out) hb); have n3_ := zA1.mk (zAg (by repeat (first | (with_reducible first | exact HB.out | apply zA2 | apply zA0 | apply zA3 | refine zA5 ?_ GE354.out) | exact HB.out)) hb); clear HO_5; clear HO353; clear BK354; clear HB; have HO_5 := n0_; have HO353 := n1_; have BK354 := n2_; have HB := n3_; clear n0_ n1_ n2_ n3_; (try clear hb); (try clear hb2); (try clear hk); (try clear hi); have hcz24_0 : w23.cell? ⟨gb354, 0, none⟩ = some (.int .i64 t350) := (zA9 BK354.out 0).trans rfl; have hcz24_1 : w23.cell? ⟨gb354, 1, none⟩ = some (.slice Ao21 t351.length co21) := (zA9 BK354.out 1).trans rfl; have hfz24_0 := zAd BK354.out 0; have hfz24_1 := zAd BK354.out 1) | ((with_reducible refine zAy (f := 13) rfl ?_); refine zBz (some 45) rfl rfl Tryz.func13 (by kernel_rfl) rfl #[.agg #[.int .i64 t350, .slice Ao21 t351.length co21], .slice Ao22 t345.length co22] rfl (by (try simp only [List.map_toArray, List.map_cons, List.map_nil]); first | done | rfl | (simp only [List.length_drop, List.length_take]; rfl)) ?_; (with_reducible refine (zB3.calls kj3 t350 _ _ t351 _ _ t345 t357 t360 _ ?side1 ?side2 ?side3 ?side4 ?side5 A16.out).mono ?_); (case side1 => repeat (first | exact (Kd.zAz HO353.out).2.2 | (with_reducible refine Kd.zAj ?_ _) | (with_reducible refine Kd.zAr ?_ _) | (with_reducible refine Kd.zB9 ?_))); (case side2 => exact (Kd.zAz HO353.out).2.1); (case side3 => repeat (first | exact (Kd.zAz HO_5.out).2.2 | (with_reducible refine Kd.zAj ?_ _) | (with_reducible refine Kd.zAr ?_ _) | (with_reducible refine Kd.zB9 ?_))); (case side4 => exact (Kd.zAz HO_5.out).2.1); (case side5 => repeat (first | exact (Kd.zAx HG.out HB.out) | (with_reducible refine Kd.zAj ?_ _) | (with_reducible refine Kd.zAr ?_ _) | (with_reducible refine Kd.zB9 ?_))); rintro e w25 ⟨v358, rfl, ho0, hb⟩; refine ⟨_, rfl, ?_⟩; have n0_ := zA1.mk (Kd.zBg (by (with_reducible repeat (first | apply Kd.zAf | apply Kd.zAe | apply Kd.zAh)); exact HO_5.out) hb); have n1_ := zA1.mk (Kd.zBg (by (with_reducible repeat (first | apply Kd.zAf | apply Kd.zAe | apply Kd.zAh)); exact HO353.out) hb); have n2_ := zA1.mk (Kd.S_lower (Kd.S_new' ho0 (Kd.R_lt (by (with_reducible repeat (first | apply Kd.zAf | apply Kd.zAe | apply Kd.zAh)); exact HO_5.out))) (zAb (by repeat (first | (with_reducible first | exact HB.out | apply zA2 | apply zA0 | apply zA3 | refine zA5 ?_ GE354.out) | exact HB.out)))); have n3_ := zA1.mk (zAq (g := gb354) (o := .cells #[.int .i64 t350, .slice Ao21 t351.length co21] 28 (0, 0)) (by (with_reducible repeat (first | refine zA7 ?_ _ | refine zA8 ?_ | refine zA6 ?_ _)); exact BK354.out) hb); have n4_ := zA1.mk (zAg (by repeat (first | (with_reducible first | exact HB.out | apply zA2 | apply zA0 | apply zA3 | refine zA5 ?_ GE354.out) | exact HB.out)) hb); clear HO_5; clear HO353; clear BK354; clear HB; have HO_5 := n0_; have HO353 := n1_; have HO359 := n2_; have BK354 := n3_; have HB := n4_; clear n0_ n1_ n2_ n3_ n4_; (try clear hb); (try clear hb2); (try clear hk); (try clear hi); (try clear ho0)))
    (try simp only [Act.put, List.setIfInBounds_toArray, List.set_cons_zero, List.set_cons_succ])
    go_cut [60] (fun v60 wc => ∃ (kq : Nat) (x60_16 : Bool), v60 = .bool x60_16 ∧ zA1 (zA4.j1 kq t345 t355 x60_16 t350 t351 = some r) ∧ zA1 (kq ≤ kj3) ∧ zA1 (Kd.R (Kd.int .i64) 3 wc w.heap.size (fun _ => True) (.slice Ao22 t345.length co22) t345) ∧ zA1 (Kd.R k58 58 wc w.heap.size (fun _ => True) (.slice Ao21 t351.length co21) t351) ∧ zA1 (wc.heap[gb354]? = some (.cells #[.int .i64 t350, (.slice Ao21 t351.length co21)] 28 (0, 0))) ∧ zA1 (Below w.heap.size w wc))
    case first =>
     have H := HC17.out
     clear HC17
     by_cases c26 : t356 = 0
     ·rw [if_pos c26] at H
      have c26b0 : (t356 == 0) = true := beq_iff_eq.mpr c26
      have c26b1 : (t356 != 0) = false := bne_eq_false_iff_eq.mpr c26
      clear c26
      (first | rw [c26b0] | (simp only [i64_w, i32_w]; rw [c26b0]) | skip)
      by_cases c27 : t360 = 0
      ·rw [if_pos c27] at H
       have c27b0 : (t360 == 0) = true := beq_iff_eq.mpr c27
       have c27b1 : (t360 != 0) = false := bne_eq_false_iff_eq.mpr c27
       clear c27
       have H' := zA1.mk H
       clear H
       obtain ⟨Ao28, co28, eo28⟩ := Kd.S_slice HO359.out
       subst eo28
       go_wp2
       go_meet
       case rel => exact ⟨_, ((t355 != ((t357.length : Int) == 1))), (by first | rfl | (simp; done) | (simp [*]; done)), H', ⟨by have := HJ3.out; first | omega | exact Nat.le_refl _⟩, ⟨by (with_reducible repeat (first | apply Kd.zAf | apply Kd.zAe | apply Kd.zAh)); exact HO_5.out⟩, ⟨by (with_reducible repeat (first | apply Kd.zAf | apply Kd.zAe | apply Kd.zAh)); exact HO353.out⟩, ⟨by (with_reducible repeat (first | refine zA7 ?_ _ | refine zA8 ?_ | refine zA6 ?_ _)); exact BK354.out⟩, ⟨by repeat (first | (with_reducible first | exact HB.out | apply zA2 | apply zA0 | apply zA3 | refine zA5 ?_ GE354.out) | exact HB.out)⟩⟩
      ·rw [if_neg c27] at H
       have c27b0 : (t360 == 0) = false := beq_eq_false_iff_ne.mpr c27
       have c27b1 : (t360 != 0) = true := bne_iff_ne.mpr c27
       have H' := zA1.mk H
       clear H
       go_wp2
       go_meet
       case rel => exact ⟨_, (true), (by first | rfl | (simp; done) | (simp [*]; done)), H', ⟨by have := HJ3.out; first | omega | exact Nat.le_refl _⟩, ⟨by (with_reducible repeat (first | apply Kd.zAf | apply Kd.zAe | apply Kd.zAh)); exact HO_5.out⟩, ⟨by (with_reducible repeat (first | apply Kd.zAf | apply Kd.zAe | apply Kd.zAh)); exact HO353.out⟩, ⟨by (with_reducible repeat (first | refine zA7 ?_ _ | refine zA8 ?_ | refine zA6 ?_ _)); exact BK354.out⟩, ⟨by repeat (first | (with_reducible first | exact HB.out | apply zA2 | apply zA0 | apply zA3 | refine zA5 ?_ GE354.out) | exact HB.out)⟩⟩
     ·rw [if_neg c26] at H
      have c26b0 : (t356 == 0) = false := beq_eq_false_iff_ne.mpr c26
      have c26b1 : (t356 != 0) = true := bne_iff_ne.mpr c26
      (first | rw [c26b0] | (simp only [i64_w, i32_w]; rw [c26b0]) | skip)
      have H' := zA1.mk H
      clear H
      go_wp2
      go_meet
      case rel => exact ⟨_, (true), (by first | rfl | (simp; done) | (simp [*]; done)), H', ⟨by have := HJ3.out; first | omega | exact Nat.le_refl _⟩, ⟨by (with_reducible repeat (first | apply Kd.zAf | apply Kd.zAe | apply Kd.zAh)); exact HO_5.out⟩, ⟨by (with_reducible repeat (first | apply Kd.zAf | apply Kd.zAe | apply Kd.zAh)); exact HO353.out⟩, ⟨by (with_reducible repeat (first | refine zA7 ?_ _ | refine zA8 ?_ | refine zA6 ?_ _)); exact BK354.out⟩, ⟨by repeat (first | (with_reducible first | exact HB.out | apply zA2 | apply zA0 | apply zA3 | refine zA5 ?_ GE354.out) | exact HB.out)⟩⟩
    case rest =>
     clear HC17
     try clear c1
     try clear c2
     try clear p2
     try clear c4
     try clear c6
     try clear c7
     try clear c8
     try clear c11
     try clear c12
     try clear c13
     try clear c26
     try clear c26b0
     try clear c26b1
     try clear c27
     try clear c27b0
     try clear c27b1
     try clear hcz20_0
     try clear hcz20_1
     try clear hcz24_0
     try clear hcz24_1
     try clear hfz20_0
     try clear hfz20_1
     try clear hfz24_0
     try clear hfz24_1
     try clear p2
     obtain ⟨kq, x60_16, rfl, HA, HJ16, HO_5, HO_355001, BK354, HB⟩ := hcut
     cases kq with
     | zero => exact absurd HA.out (by simp [zA4.j1])
     | succ kj16 =>
      have H := HA.out
      clear HA
      simp only [zA4.j1] at H
      by_cases c29 : x60_16 = true
      ·subst c29
       have H1 : (some false) = some r := by rw [if_pos rfl] at H; exact H
       clear H
       have H := H1
       clear H1
       obtain rfl := Option.some.inj H
       go_wp2
       go_ret
       exact ⟨by first | rfl | (simp [zAp, zAo] <;> rfl) | (simp [*, zAp, zAo] <;> rfl), by repeat (first | (with_reducible first | exact HB.out | apply zA2 | apply zA0 | apply zA3 | refine zA5 ?_ GE354.out) | exact HB.out)⟩
      ·replace c29 := Bool.eq_false_iff.mpr c29
       subst c29
       have H1 : (if t355 = true then ((liaison_Cuts.f t350 t351 t345).bind fun bt361 => ((zB4.f kj16 t350 t351 t345).bind fun bt365 => ((liaison_Subsets.f t350 t351 t345 (t345.length : Int)).bind fun bt369 => (if bt361.2 = 0 then (if bt365.2 = 0 then (if bt369.2 = 0 then (if (bt361.1.length : Int) = 0 then (zA4.j2 kj16 t345 bt361.1 bt365.1 bt369.1 true t350 t351) else (zA4.j2 kj16 t345 bt361.1 bt365.1 bt369.1 (decide ((bt365.1.length : Int) ≥ (t345.length : Int))) t350 t351)) else (zA4.j2 kj16 t345 bt361.1 bt365.1 bt369.1 true t350 t351)) else (zA4.j2 kj16 t345 bt361.1 bt365.1 bt369.1 true t350 t351)) else (zA4.j2 kj16 t345 bt361.1 bt365.1 bt369.1 true t350 t351))))) else (some true)) = some r := by rw [if_neg (show ¬ (false = true) by decide)] at H; exact H
       clear H
       have H := H1
       clear H1
       by_cases c30 : t355 = true
       ·subst c30
        have H1 : ((liaison_Cuts.f t350 t351 t345).bind fun bt361 => ((zB4.f kj16 t350 t351 t345).bind fun bt365 => ((liaison_Subsets.f t350 t351 t345 (t345.length : Int)).bind fun bt369 => (if bt361.2 = 0 then (if bt365.2 = 0 then (if bt369.2 = 0 then (if (bt361.1.length : Int) = 0 then (zA4.j2 kj16 t345 bt361.1 bt365.1 bt369.1 true t350 t351) else (zA4.j2 kj16 t345 bt361.1 bt365.1 bt369.1 (decide ((bt365.1.length : Int) ≥ (t345.length : Int))) t350 t351)) else (zA4.j2 kj16 t345 bt361.1 bt365.1 bt369.1 true t350 t351)) else (zA4.j2 kj16 t345 bt361.1 bt365.1 bt369.1 true t350 t351)) else (zA4.j2 kj16 t345 bt361.1 bt365.1 bt369.1 true t350 t351))))) = some r := by rw [if_pos rfl] at H; exact H
        clear H
        have H := H1
        clear H1
        replace H := Option.bind_eq_some_iff.mp H
        obtain ⟨⟨t361, t364⟩, A310, H⟩ := H
        replace H : ((zB4.f kj16 t350 t351 t345).bind fun bt365 => ((liaison_Subsets.f t350 t351 t345 (t345.length : Int)).bind fun bt369 => (if t364 = 0 then (if bt365.2 = 0 then (if bt369.2 = 0 then (if (t361.length : Int) = 0 then (zA4.j2 kj16 t345 t361 bt365.1 bt369.1 true t350 t351) else (zA4.j2 kj16 t345 t361 bt365.1 bt369.1 (decide ((bt365.1.length : Int) ≥ (t345.length : Int))) t350 t351)) else (zA4.j2 kj16 t345 t361 bt365.1 bt369.1 true t350 t351)) else (zA4.j2 kj16 t345 t361 bt365.1 bt369.1 true t350 t351)) else (zA4.j2 kj16 t345 t361 bt365.1 bt369.1 true t350 t351)))) = some r := H
        have A31 := zA1.mk A310
        clear A310
        replace H := Option.bind_eq_some_iff.mp H
        obtain ⟨⟨t365, t368⟩, A320, H⟩ := H
        replace H : ((liaison_Subsets.f t350 t351 t345 (t345.length : Int)).bind fun bt369 => (if t364 = 0 then (if t368 = 0 then (if bt369.2 = 0 then (if (t361.length : Int) = 0 then (zA4.j2 kj16 t345 t361 t365 bt369.1 true t350 t351) else (zA4.j2 kj16 t345 t361 t365 bt369.1 (decide ((t365.length : Int) ≥ (t345.length : Int))) t350 t351)) else (zA4.j2 kj16 t345 t361 t365 bt369.1 true t350 t351)) else (zA4.j2 kj16 t345 t361 t365 bt369.1 true t350 t351)) else (zA4.j2 kj16 t345 t361 t365 bt369.1 true t350 t351))) = some r := H
        have A32 := zA1.mk A320
        clear A320
        replace H := Option.bind_eq_some_iff.mp H
        obtain ⟨⟨t369, t372⟩, A330, H⟩ := H
        replace H : (if t364 = 0 then (if t368 = 0 then (if t372 = 0 then (if (t361.length : Int) = 0 then (zA4.j2 kj16 t345 t361 t365 t369 true t350 t351) else (zA4.j2 kj16 t345 t361 t365 t369 (decide ((t365.length : Int) ≥ (t345.length : Int))) t350 t351)) else (zA4.j2 kj16 t345 t361 t365 t369 true t350 t351)) else (zA4.j2 kj16 t345 t361 t365 t369 true t350 t351)) else (zA4.j2 kj16 t345 t361 t365 t369 true t350 t351)) = some r := H
        have A33 := zA1.mk A330
        clear A330
        have HC34 := zA1.mk H
        clear H
        have hcz35_0 : wc.cell? ⟨gb354, 0, none⟩ = some (.int .i64 t350) := (zA9 BK354.out 0).trans rfl
        have hcz35_1 : wc.cell? ⟨gb354, 1, none⟩ = some (.slice Ao21 t351.length co21) := (zA9 BK354.out 1).trans rfl
        have hfz35_0 := zAd BK354.out 0
        have hfz35_1 := zAd BK354.out 1
        go_upto_region 14 with (first | ((with_reducible refine zAy (f := 14) rfl ?_); refine zBz (some 66) rfl rfl Tryz.func14 (by kernel_rfl) rfl #[.agg #[.int .i64 t350, .slice Ao21 t351.length co21], .slice Ao22 t345.length co22] rfl (by (try simp only [List.map_toArray, List.map_cons, List.map_nil]); first | done | rfl | (simp only [List.length_drop, List.length_take]; rfl)) ?_; (with_reducible refine (liaison_Cuts.calls t350 _ _ t351 _ _ t345 t361 t364 _ ?side1 ?side2 ?side3 ?side4 ?side5 A31.out).mono ?_); (case side1 => repeat (first | exact (Kd.zAz HO_355001.out).2.2 | (with_reducible refine Kd.zAj ?_ _) | (with_reducible refine Kd.zAr ?_ _) | (with_reducible refine Kd.zB9 ?_))); (case side2 => exact (Kd.zAz HO_355001.out).2.1); (case side3 => repeat (first | exact (Kd.zAz HO_5.out).2.2 | (with_reducible refine Kd.zAj ?_ _) | (with_reducible refine Kd.zAr ?_ _) | (with_reducible refine Kd.zB9 ?_))); (case side4 => exact (Kd.zAz HO_5.out).2.1); (case side5 => repeat (first | exact (Kd.zAx HG.out HB.out) | (with_reducible refine Kd.zAj ?_ _) | (with_reducible refine Kd.zAr ?_ _) | (with_reducible refine Kd.zB9 ?_))); rintro e w36 ⟨v362, rfl, ho0, hb⟩; refine ⟨_, rfl, ?_⟩; have n0_ := zA1.mk (Kd.zBg (by (with_reducible repeat (first | apply Kd.zAf | apply Kd.zAe | apply Kd.zAh)); exact HO_5.out) hb); have n1_ := zA1.mk (Kd.zBg (by (with_reducible repeat (first | apply Kd.zAf | apply Kd.zAe | apply Kd.zAh)); exact HO_355001.out) hb); have n2_ := zA1.mk (Kd.S_lower (Kd.S_new' ho0 (Kd.R_lt (by (with_reducible repeat (first | apply Kd.zAf | apply Kd.zAe | apply Kd.zAh)); exact HO_5.out))) (zAb (by repeat (first | (with_reducible first | exact HB.out | apply zA2 | apply zA0 | apply zA3 | refine zA5 ?_ GE354.out) | exact HB.out)))); have n3_ := zA1.mk (zAq (g := gb354) (o := .cells #[.int .i64 t350, .slice Ao21 t351.length co21] 28 (0, 0)) (by (with_reducible repeat (first | refine zA7 ?_ _ | refine zA8 ?_ | refine zA6 ?_ _)); exact BK354.out) hb); have n4_ := zA1.mk (zAg (by repeat (first | (with_reducible first | exact HB.out | apply zA2 | apply zA0 | apply zA3 | refine zA5 ?_ GE354.out) | exact HB.out)) hb); clear HO_5; clear HO_355001; clear BK354; clear HB; have HO_5 := n0_; have HO_355001 := n1_; have HO363 := n2_; have BK354 := n3_; have HB := n4_; clear n0_ n1_ n2_ n3_ n4_; (try clear hb); (try clear hb2); (try clear hk); (try clear hi); (try clear ho0); have hcz37_0 : w36.cell? ⟨gb354, 0, none⟩ = some (.int .i64 t350) := (zA9 BK354.out 0).trans rfl; have hcz37_1 : w36.cell? ⟨gb354, 1, none⟩ = some (.slice Ao21 t351.length co21) := (zA9 BK354.out 1).trans rfl; have hfz37_0 := zAd BK354.out 0; have hfz37_1 := zAd BK354.out 1) | ((with_reducible refine zAy (f := 15) rfl ?_); refine zBz (some 72) rfl rfl Tryz.func15 (by kernel_rfl) rfl #[.agg #[.int .i64 t350, .slice Ao21 t351.length co21], .slice Ao22 t345.length co22] rfl (by (try simp only [List.map_toArray, List.map_cons, List.map_nil]); first | done | rfl | (simp only [List.length_drop, List.length_take]; rfl)) ?_; (with_reducible refine (zB4.calls kj16 t350 _ _ t351 _ _ t345 t365 t368 _ ?side1 ?side2 ?side3 ?side4 ?side5 A32.out).mono ?_); (case side1 => repeat (first | exact (Kd.zAz HO_355001.out).2.2 | (with_reducible refine Kd.zAj ?_ _) | (with_reducible refine Kd.zAr ?_ _) | (with_reducible refine Kd.zB9 ?_))); (case side2 => exact (Kd.zAz HO_355001.out).2.1); (case side3 => repeat (first | exact (Kd.zAz HO_5.out).2.2 | (with_reducible refine Kd.zAj ?_ _) | (with_reducible refine Kd.zAr ?_ _) | (with_reducible refine Kd.zB9 ?_))); (case side4 => exact (Kd.zAz HO_5.out).2.1); (case side5 => repeat (first | exact (Kd.zAx HG.out HB.out) | (with_reducible refine Kd.zAj ?_ _) | (with_reducible refine Kd.zAr ?_ _) | (with_reducible refine Kd.zB9 ?_))); rintro e w38 ⟨v366, rfl, ho0, hb⟩; refine ⟨_, rfl, ?_⟩; have n0_ := zA1.mk (Kd.R_elder' (by (with_reducible repeat (first | apply Kd.zAf | apply Kd.zAe | apply Kd.zAh)); exact HO_5.out) (Kd.R_base ho0) hb); have n1_ := zA1.mk (Kd.zBg (by (with_reducible repeat (first | apply Kd.zAf | apply Kd.zAe | apply Kd.zAh)); exact HO_355001.out) hb); have n2_ := zA1.mk (Kd.S_elder' (by (with_reducible repeat (first | apply Kd.zCh | apply Kd.zCg | apply Kd.S_drew)); exact HO363.out) (Kd.R_base ho0) hb); have n3_ := zA1.mk (Kd.R_lower (Kd.R_new' ho0 (Kd.R_lt (by (with_reducible repeat (first | apply Kd.zAf | apply Kd.zAe | apply Kd.zAh)); exact HO_5.out))) (zAb (by repeat (first | (with_reducible first | exact HB.out | apply zA2 | apply zA0 | apply zA3 | refine zA5 ?_ GE354.out) | exact HB.out)))); have n4_ := zA1.mk (zAq (g := gb354) (o := .cells #[.int .i64 t350, .slice Ao21 t351.length co21] 28 (0, 0)) (by (with_reducible repeat (first | refine zA7 ?_ _ | refine zA8 ?_ | refine zA6 ?_ _)); exact BK354.out) hb); have n5_ := zA1.mk (zAg (by repeat (first | (with_reducible first | exact HB.out | apply zA2 | apply zA0 | apply zA3 | refine zA5 ?_ GE354.out) | exact HB.out)) hb); clear HO_5; clear HO_355001; clear HO363; clear BK354; clear HB; have HO_5 := n0_; have HO_355001 := n1_; have HO363 := n2_; have HO367 := n3_; have BK354 := n4_; have HB := n5_; clear n0_ n1_ n2_ n3_ n4_ n5_; (try clear hb); (try clear hb2); (try clear hk); (try clear hi); (try clear ho0); have hcz39_0 : w38.cell? ⟨gb354, 0, none⟩ = some (.int .i64 t350) := (zA9 BK354.out 0).trans rfl; have hcz39_1 : w38.cell? ⟨gb354, 1, none⟩ = some (.slice Ao21 t351.length co21) := (zA9 BK354.out 1).trans rfl; have hfz39_0 := zAd BK354.out 0; have hfz39_1 := zAd BK354.out 1) | ((with_reducible refine zAy (f := 9) rfl ?_); refine zBz (some 80) rfl rfl Tryz.func9 (by kernel_rfl) rfl #[.agg #[.int .i64 t350, .slice Ao21 t351.length co21], .slice Ao22 t345.length co22, .int .i64 (t345.length : Int)] rfl (by (try simp only [List.map_toArray, List.map_cons, List.map_nil]); first | done | rfl | (simp only [List.length_drop, List.length_take]; rfl)) ?_; (with_reducible refine (liaison_Subsets.calls t350 _ _ t351 _ _ t345 (t345.length : Int) t369 t372 _ ?side1 ?side2 ?side3 ?side4 ?side5 A33.out).mono ?_); (case side1 => repeat (first | exact (Kd.zAz HO_355001.out).2.2 | (with_reducible refine Kd.zAj ?_ _) | (with_reducible refine Kd.zAr ?_ _) | (with_reducible refine Kd.zB9 ?_))); (case side2 => exact (Kd.zAz HO_355001.out).2.1); (case side3 => repeat (first | exact (Kd.zAz HO_5.out).2.2 | (with_reducible refine Kd.zAj ?_ _) | (with_reducible refine Kd.zAr ?_ _) | (with_reducible refine Kd.zB9 ?_))); (case side4 => exact (Kd.zAz HO_5.out).2.1); (case side5 => repeat (first | exact (Kd.zAx HG.out HB.out) | (with_reducible refine Kd.zAj ?_ _) | (with_reducible refine Kd.zAr ?_ _) | (with_reducible refine Kd.zB9 ?_))); rintro e w40 ⟨v370, rfl, ho0, hb⟩; refine ⟨_, rfl, ?_⟩; have n0_ := zA1.mk (Kd.zBg (by (with_reducible repeat (first | apply Kd.zAf | apply Kd.zAe | apply Kd.zAh)); exact HO_5.out) hb); have n1_ := zA1.mk (Kd.zBg (by (with_reducible repeat (first | apply Kd.zAf | apply Kd.zAe | apply Kd.zAh)); exact HO_355001.out) hb); have n2_ := zA1.mk (Kd.S_below (by (with_reducible repeat (first | apply Kd.zCh | apply Kd.zCg | apply Kd.S_drew)); exact HO363.out) hb); have n3_ := zA1.mk (Kd.zBg (by (with_reducible repeat (first | apply Kd.zAf | apply Kd.zAe | apply Kd.zAh)); exact HO367.out) hb); have n4_ := zA1.mk (Kd.S_lower (Kd.S_new' (Kd.S_new' ho0 (Kd.R_lt (by (with_reducible repeat (first | apply Kd.zAf | apply Kd.zAe | apply Kd.zAh)); exact HO_5.out))) (Kd.R_lt (by (with_reducible repeat (first | apply Kd.zAf | apply Kd.zAe | apply Kd.zAh)); exact HO367.out))) (zAb (by repeat (first | (with_reducible first | exact HB.out | apply zA2 | apply zA0 | apply zA3 | refine zA5 ?_ GE354.out) | exact HB.out)))); have n5_ := zA1.mk (zAq (g := gb354) (o := .cells #[.int .i64 t350, .slice Ao21 t351.length co21] 28 (0, 0)) (by (with_reducible repeat (first | refine zA7 ?_ _ | refine zA8 ?_ | refine zA6 ?_ _)); exact BK354.out) hb); have n6_ := zA1.mk (zAg (by repeat (first | (with_reducible first | exact HB.out | apply zA2 | apply zA0 | apply zA3 | refine zA5 ?_ GE354.out) | exact HB.out)) hb); clear HO_5; clear HO_355001; clear HO363; clear HO367; clear BK354; clear HB; have HO_5 := n0_; have HO_355001 := n1_; have HO363 := n2_; have HO367 := n3_; have HO371 := n4_; have BK354 := n5_; have HB := n6_; clear n0_ n1_ n2_ n3_ n4_ n5_ n6_; (try clear hb); (try clear hb2); (try clear hk); (try clear hi); (try clear ho0)))
        (try simp only [Act.put, List.setIfInBounds_toArray, List.set_cons_zero, List.set_cons_succ])
        go_cut [104] (fun v104 wc => ∃ (kq : Nat) (x104_33 : Bool), v104 = .bool x104_33 ∧ zA1 (zA4.j2 kq t345 t361 t365 t369 x104_33 t350 t351 = some r) ∧ zA1 (kq ≤ kj16) ∧ zA1 (Kd.R (Kd.int .i64) 3 wc w.heap.size (fun k_ => some k_ ≠ (v366 : Value).ownBlock) (.slice Ao22 t345.length co22) t345) ∧ zA1 (Kd.S k46 46 wc w.heap.size (fun k_ => some k_ ≠ ((.slice Ao22 t345.length co22) : Value).ownBlock ∧ some k_ ≠ (v366 : Value).ownBlock) v362 t361) ∧ zA1 (Kd.R (Kd.int .i64) 3 wc w.heap.size (fun k_ => some k_ ≠ ((.slice Ao22 t345.length co22) : Value).ownBlock) v366 t365) ∧ zA1 (Kd.S (Kd.slice 3 (Kd.int .i64)) 23 wc w.heap.size (fun k_ => some k_ ≠ ((.slice Ao22 t345.length co22) : Value).ownBlock ∧ some k_ ≠ (v366 : Value).ownBlock) v370 t369) ∧ zA1 (Kd.R k58 58 wc w.heap.size (fun _ => True) (.slice Ao21 t351.length co21) t351) ∧ zA1 (wc.heap[gb354]? = some (.cells #[.int .i64 t350, (.slice Ao21 t351.length co21)] 28 (0, 0))) ∧ zA1 (Below w.heap.size w wc))
        case first =>
         have H := HC34.out
         clear HC34
         by_cases c41 : t364 = 0
         ·rw [if_pos c41] at H
          have c41b0 : (t364 == 0) = true := beq_iff_eq.mpr c41
          have c41b1 : (t364 != 0) = false := bne_eq_false_iff_eq.mpr c41
          clear c41
          (first | rw [c41b0] | (simp only [i64_w, i32_w]; rw [c41b0]) | skip)
          by_cases c42 : t368 = 0
          ·rw [if_pos c42] at H
           have c42b0 : (t368 == 0) = true := beq_iff_eq.mpr c42
           have c42b1 : (t368 != 0) = false := bne_eq_false_iff_eq.mpr c42
           clear c42
           by_cases c43 : t372 = 0
           ·rw [if_pos c43] at H
            have c43b0 : (t372 == 0) = true := beq_iff_eq.mpr c43
            have c43b1 : (t372 != 0) = false := bne_eq_false_iff_eq.mpr c43
            clear c43
            by_cases c44 : (t361.length : Int) = 0
            ·rw [if_pos c44] at H
             have c44b0 : ((t361.length : Int) == 0) = true := beq_iff_eq.mpr c44
             have c44b1 : ((t361.length : Int) != 0) = false := bne_eq_false_iff_eq.mpr c44
             clear c44
             have H' := zA1.mk H
             clear H
             obtain ⟨Ao45, co45, eo45⟩ := Kd.S_slice HO363.out
             subst eo45
             go_wp2
             go_meet
             case rel => exact ⟨_, (true), (by first | rfl | (simp; done) | (simp [*]; done)), H', ⟨by have := HJ3.out; have := HJ16.out; first | omega | exact Nat.le_refl _⟩, ⟨by (with_reducible repeat (first | apply Kd.zAf | apply Kd.zAe | apply Kd.zAh)); exact Kd.zC0 HO_5.out (fun _ hk => hk.2)⟩, ⟨by (with_reducible repeat (first | apply Kd.zCh | apply Kd.zCg | apply Kd.S_drew)); exact Kd.S_mono HO363.out (fun _ hk => ⟨hk.1.2, hk.2⟩)⟩, ⟨by (with_reducible repeat (first | apply Kd.zAf | apply Kd.zAe | apply Kd.zAh)); exact Kd.zC0 HO367.out (fun _ hk => hk.2)⟩, ⟨by (with_reducible repeat (first | apply Kd.zCh | apply Kd.zCg | apply Kd.S_drew)); exact Kd.S_mono HO371.out (fun _ hk => ⟨hk.1.2, hk.2⟩)⟩, ⟨by (with_reducible repeat (first | apply Kd.zAf | apply Kd.zAe | apply Kd.zAh)); exact HO_355001.out⟩, ⟨by (with_reducible repeat (first | refine zA7 ?_ _ | refine zA8 ?_ | refine zA6 ?_ _)); exact BK354.out⟩, ⟨by repeat (first | (with_reducible first | exact HB.out | apply zA2 | apply zA0 | apply zA3 | refine zA5 ?_ GE354.out) | exact HB.out)⟩⟩
            ·rw [if_neg c44] at H
             have c44b0 : ((t361.length : Int) == 0) = false := beq_eq_false_iff_ne.mpr c44
             have c44b1 : ((t361.length : Int) != 0) = true := bne_iff_ne.mpr c44
             have c44b2 : ¬ (t361 = []) := fun h_ => c44 (by rw [h_]; rfl)
             have H' := zA1.mk H
             clear H
             obtain ⟨Ao46, co46, eo46⟩ := Kd.S_slice HO363.out
             subst eo46
             obtain ⟨Ao47, co47, eo47⟩ := Kd.zC3 HO367.out
             subst eo47
             go_wp2
             go_meet
             case rel => exact ⟨_, (decide ((t365.length : Int) ≥ (t345.length : Int))), (by first | rfl | (simp; done) | (simp [*]; done)), H', ⟨by have := HJ3.out; have := HJ16.out; first | omega | exact Nat.le_refl _⟩, ⟨by (with_reducible repeat (first | apply Kd.zAf | apply Kd.zAe | apply Kd.zAh)); exact Kd.zC0 HO_5.out (fun _ hk => hk.2)⟩, ⟨by (with_reducible repeat (first | apply Kd.zCh | apply Kd.zCg | apply Kd.S_drew)); exact Kd.S_mono HO363.out (fun _ hk => ⟨hk.1.2, hk.2⟩)⟩, ⟨by (with_reducible repeat (first | apply Kd.zAf | apply Kd.zAe | apply Kd.zAh)); exact Kd.zC0 HO367.out (fun _ hk => hk.2)⟩, ⟨by (with_reducible repeat (first | apply Kd.zCh | apply Kd.zCg | apply Kd.S_drew)); exact Kd.S_mono HO371.out (fun _ hk => ⟨hk.1.2, hk.2⟩)⟩, ⟨by (with_reducible repeat (first | apply Kd.zAf | apply Kd.zAe | apply Kd.zAh)); exact HO_355001.out⟩, ⟨by (with_reducible repeat (first | refine zA7 ?_ _ | refine zA8 ?_ | refine zA6 ?_ _)); exact BK354.out⟩, ⟨by repeat (first | (with_reducible first | exact HB.out | apply zA2 | apply zA0 | apply zA3 | refine zA5 ?_ GE354.out) | exact HB.out)⟩⟩
           ·rw [if_neg c43] at H
            have c43b0 : (t372 == 0) = false := beq_eq_false_iff_ne.mpr c43
            have c43b1 : (t372 != 0) = true := bne_iff_ne.mpr c43
            have H' := zA1.mk H
            clear H
            go_wp2
            go_meet
            case rel => exact ⟨_, (true), (by first | rfl | (simp; done) | (simp [*]; done)), H', ⟨by have := HJ3.out; have := HJ16.out; first | omega | exact Nat.le_refl _⟩, ⟨by (with_reducible repeat (first | apply Kd.zAf | apply Kd.zAe | apply Kd.zAh)); exact Kd.zC0 HO_5.out (fun _ hk => hk.2)⟩, ⟨by (with_reducible repeat (first | apply Kd.zCh | apply Kd.zCg | apply Kd.S_drew)); exact Kd.S_mono HO363.out (fun _ hk => ⟨hk.1.2, hk.2⟩)⟩, ⟨by (with_reducible repeat (first | apply Kd.zAf | apply Kd.zAe | apply Kd.zAh)); exact Kd.zC0 HO367.out (fun _ hk => hk.2)⟩, ⟨by (with_reducible repeat (first | apply Kd.zCh | apply Kd.zCg | apply Kd.S_drew)); exact Kd.S_mono HO371.out (fun _ hk => ⟨hk.1.2, hk.2⟩)⟩, ⟨by (with_reducible repeat (first | apply Kd.zAf | apply Kd.zAe | apply Kd.zAh)); exact HO_355001.out⟩, ⟨by (with_reducible repeat (first | refine zA7 ?_ _ | refine zA8 ?_ | refine zA6 ?_ _)); exact BK354.out⟩, ⟨by repeat (first | (with_reducible first | exact HB.out | apply zA2 | apply zA0 | apply zA3 | refine zA5 ?_ GE354.out) | exact HB.out)⟩⟩
          ·rw [if_neg c42] at H
           have c42b0 : (t368 == 0) = false := beq_eq_false_iff_ne.mpr c42
           have c42b1 : (t368 != 0) = true := bne_iff_ne.mpr c42
           have H' := zA1.mk H
           clear H
           go_wp2
           go_meet
           case rel => exact ⟨_, (true), (by first | rfl | (simp; done) | (simp [*]; done)), H', ⟨by have := HJ3.out; have := HJ16.out; first | omega | exact Nat.le_refl _⟩, ⟨by (with_reducible repeat (first | apply Kd.zAf | apply Kd.zAe | apply Kd.zAh)); exact Kd.zC0 HO_5.out (fun _ hk => hk.2)⟩, ⟨by (with_reducible repeat (first | apply Kd.zCh | apply Kd.zCg | apply Kd.S_drew)); exact Kd.S_mono HO363.out (fun _ hk => ⟨hk.1.2, hk.2⟩)⟩, ⟨by (with_reducible repeat (first | apply Kd.zAf | apply Kd.zAe | apply Kd.zAh)); exact Kd.zC0 HO367.out (fun _ hk => hk.2)⟩, ⟨by (with_reducible repeat (first | apply Kd.zCh | apply Kd.zCg | apply Kd.S_drew)); exact Kd.S_mono HO371.out (fun _ hk => ⟨hk.1.2, hk.2⟩)⟩, ⟨by (with_reducible repeat (first | apply Kd.zAf | apply Kd.zAe | apply Kd.zAh)); exact HO_355001.out⟩, ⟨by (with_reducible repeat (first | refine zA7 ?_ _ | refine zA8 ?_ | refine zA6 ?_ _)); exact BK354.out⟩, ⟨by repeat (first | (with_reducible first | exact HB.out | apply zA2 | apply zA0 | apply zA3 | refine zA5 ?_ GE354.out) | exact HB.out)⟩⟩
         ·rw [if_neg c41] at H
          have c41b0 : (t364 == 0) = false := beq_eq_false_iff_ne.mpr c41
          have c41b1 : (t364 != 0) = true := bne_iff_ne.mpr c41
          (first | rw [c41b0] | (simp only [i64_w, i32_w]; rw [c41b0]) | skip)
          have H' := zA1.mk H
          clear H
          go_wp2
          go_meet
          case rel => exact ⟨_, (true), (by first | rfl | (simp; done) | (simp [*]; done)), H', ⟨by have := HJ3.out; have := HJ16.out; first | omega | exact Nat.le_refl _⟩, ⟨by (with_reducible repeat (first | apply Kd.zAf | apply Kd.zAe | apply Kd.zAh)); exact Kd.zC0 HO_5.out (fun _ hk => hk.2)⟩, ⟨by (with_reducible repeat (first | apply Kd.zCh | apply Kd.zCg | apply Kd.S_drew)); exact Kd.S_mono HO363.out (fun _ hk => ⟨hk.1.2, hk.2⟩)⟩, ⟨by (with_reducible repeat (first | apply Kd.zAf | apply Kd.zAe | apply Kd.zAh)); exact Kd.zC0 HO367.out (fun _ hk => hk.2)⟩, ⟨by (with_reducible repeat (first | apply Kd.zCh | apply Kd.zCg | apply Kd.S_drew)); exact Kd.S_mono HO371.out (fun _ hk => ⟨hk.1.2, hk.2⟩)⟩, ⟨by (with_reducible repeat (first | apply Kd.zAf | apply Kd.zAe | apply Kd.zAh)); exact HO_355001.out⟩, ⟨by (with_reducible repeat (first | refine zA7 ?_ _ | refine zA8 ?_ | refine zA6 ?_ _)); exact BK354.out⟩, ⟨by repeat (first | (with_reducible first | exact HB.out | apply zA2 | apply zA0 | apply zA3 | refine zA5 ?_ GE354.out) | exact HB.out)⟩⟩
        case rest =>
         clear HC34
         try clear c1
         try clear c2
         try clear p2
         try clear c3
         try clear c4
         try clear c6
         try clear c7
         try clear c8
         try clear c9
         try clear c11
         try clear c12
         try clear c13
         try clear c14
         try clear c15
         try clear c26
         try clear c26b0
         try clear c26b1
         try clear c27
         try clear c27b0
         try clear c27b1
         try clear c29
         try clear c30
         try clear c41
         try clear c41b0
         try clear c41b1
         try clear c42
         try clear c42b0
         try clear c42b1
         try clear c43
         try clear c43b0
         try clear c43b1
         try clear c44
         try clear c44b0
         try clear c44b1
         try clear c44b2
         try clear hcz20_0
         try clear hcz20_1
         try clear hcz24_0
         try clear hcz24_1
         try clear hcz35_0
         try clear hcz35_1
         try clear hcz37_0
         try clear hcz37_1
         try clear hcz39_0
         try clear hcz39_1
         try clear hfz20_0
         try clear hfz20_1
         try clear hfz24_0
         try clear hfz24_1
         try clear hfz35_0
         try clear hfz35_1
         try clear hfz37_0
         try clear hfz37_1
         try clear hfz39_0
         try clear hfz39_1
         try clear p2
         obtain ⟨kq, x104_33, rfl, HA, HJ33, HO_5, HO_11, HO_13, HO_15, HO_355001, BK354, HB⟩ := hcut
         cases kq with
         | zero => exact absurd HA.out (by simp [zA4.j2])
         | succ kj33 =>
          have H := HA.out
          clear HA
          simp only [zA4.j2] at H
          by_cases c48 : x104_33 = true
          ·subst c48
           have H1 : (some false) = some r := by rw [if_pos rfl] at H; exact H
           clear H
           have H := H1
           clear H1
           obtain rfl := Option.some.inj H
           go_wp2
           go_ret
           exact ⟨by first | rfl | (simp [zAp, zAo] <;> rfl) | (simp [*, zAp, zAo] <;> rfl), by repeat (first | (with_reducible first | exact HB.out | apply zA2 | apply zA0 | apply zA3 | refine zA5 ?_ GE354.out) | exact HB.out)⟩
          ·replace c48 := Bool.eq_false_iff.mpr c48
           subst c48
           have H1 : (zA4.l0 kj33 t345 t365 t369 t361 (t361.length : Int) 0 t350 t351) = some r := by rw [if_neg (show ¬ (false = true) by decide)] at H; exact H
           clear H
           have H := H1
           clear H1
           have H' := zA1.mk H
           clear H
           obtain ⟨Ao49, co49, eo49⟩ := Kd.S_slice HO_11.out
           subst eo49
           go_wp2
           go_loopg [107] kj33 (fun kq v107 w' => ∃ (x107_4 : Int), v107 = .int .i64 x107_4 ∧ zA1 (zA4.l0 kq t345 t365 t369 t361 (t361.length : Int) x107_4 t350 t351 = some r) ∧ zA1 (kq ≤ kj33) ∧ zA1 (Kd.R (Kd.int .i64) 3 w' w.heap.size (fun k_ => some k_ ≠ (v366 : Value).ownBlock) (.slice Ao22 t345.length co22) t345) ∧ zA1 (Kd.R (Kd.int .i64) 3 w' w.heap.size (fun k_ => some k_ ≠ ((.slice Ao22 t345.length co22) : Value).ownBlock) v366 t365) ∧ zA1 (Kd.S (Kd.slice 3 (Kd.int .i64)) 23 w' w.heap.size (fun k_ => some k_ ≠ ((.slice Ao22 t345.length co22) : Value).ownBlock ∧ some k_ ≠ (v366 : Value).ownBlock) v370 t369) ∧ zA1 (Kd.S k46 46 w' w.heap.size (fun k_ => some k_ ≠ ((.slice Ao22 t345.length co22) : Value).ownBlock ∧ some k_ ≠ (v366 : Value).ownBlock) (.slice Ao49 t361.length co49) t361) ∧ zA1 (Kd.R k58 58 w' w.heap.size (fun _ => True) (.slice Ao21 t351.length co21) t351) ∧ zA1 (w'.heap[gb354]? = some (.cells #[.int .i64 t350, (.slice Ao21 t351.length co21)] 28 (0, 0))) ∧ zA1 (Below w.heap.size w w'))
           case atStart => exact ⟨(0), (by first | rfl | (simp; done) | (simp [*]; done)), H', ⟨Nat.le_refl _⟩, ⟨by (with_reducible repeat (first | apply Kd.zAf | apply Kd.zAe | apply Kd.zAh)); exact HO_5.out⟩, ⟨by (with_reducible repeat (first | apply Kd.zAf | apply Kd.zAe | apply Kd.zAh)); exact HO_13.out⟩, ⟨by (with_reducible repeat (first | apply Kd.zCh | apply Kd.zCg | apply Kd.S_drew)); exact HO_15.out⟩, ⟨by (with_reducible repeat (first | apply Kd.zCh | apply Kd.zCg | apply Kd.S_drew)); exact HO_11.out⟩, ⟨by (with_reducible repeat (first | apply Kd.zAf | apply Kd.zAe | apply Kd.zAh)); exact HO_355001.out⟩, ⟨by (with_reducible repeat (first | refine zA7 ?_ _ | refine zA8 ?_ | refine zA6 ?_ _)); exact BK354.out⟩, ⟨by repeat (first | (with_reducible first | exact HB.out | apply zA2 | apply zA0 | apply zA3 | refine zA5 ?_ GE354.out) | exact HB.out)⟩⟩
           case round =>
            clear H'
            try clear c1
            try clear c2
            try clear p2
            try clear c3
            try clear c4
            try clear c6
            try clear c7
            try clear c8
            try clear c9
            try clear c11
            try clear c12
            try clear c13
            try clear c14
            try clear c15
            try clear c26
            try clear c26b0
            try clear c26b1
            try clear c27
            try clear c27b0
            try clear c27b1
            try clear c29
            try clear c30
            try clear c41
            try clear c41b0
            try clear c41b1
            try clear c42
            try clear c42b0
            try clear c42b1
            try clear c43
            try clear c43b0
            try clear c43b1
            try clear c44
            try clear c44b0
            try clear c44b1
            try clear c44b2
            try clear c48
            try clear hcz20_0
            try clear hcz20_1
            try clear hcz24_0
            try clear hcz24_1
            try clear hcz35_0
            try clear hcz35_1
            try clear hcz37_0
            try clear hcz37_1
            try clear hcz39_0
            try clear hcz39_1
            try clear hfz20_0
            try clear hfz20_1
            try clear hfz24_0
            try clear hfz24_1
            try clear hfz35_0
            try clear hfz35_1
            try clear hfz37_0
            try clear hfz37_1
            try clear hfz39_0
            try clear hfz39_1
            try clear p2
            obtain ⟨x107_4, rfl, HA, HK4, HO_5, HO_13, HO_15, HO_105, HO_355001, BK354, HB⟩ := hrel
            cases gk with
            | zero => exact absurd HA.out (by simp [zA4.l0])
            | succ k4 =>
             have H := HA.out
             clear HA
             simp only [zA4.l0] at H
             by_cases c50 : x107_4 < (t361.length : Int)
             ·rw [if_pos c50] at H
              have c50b0 : decide (x107_4 < (t361.length : Int)) = true := decide_eq_true c50
              clear c50
              by_cases c51 : 0 ≤ x107_4
              rotate_left
              ·rw [if_neg c51] at H
               exact absurd H (by simp)
              rw [if_pos c51] at H
              have c51b0 : decide (0 ≤ x107_4) = true := decide_eq_true c51
              clear c51
              by_cases c52 : x107_4 < (t361.length : Int)
              rotate_left
              ·rw [if_neg c52] at H
               exact absurd H (by simp)
              rw [if_pos c52] at H
              have c52b0 : decide (x107_4 < (t361.length : Int)) = true := decide_eq_true c52
              clear c52
              by_cases c53 : (wrap64 ((((zBm t361 x107_4).f0).length : Int) + (((zBm t361 x107_4).f1).length : Int))) = (t345.length : Int)
              ·rw [if_pos c53] at H
               have c53b0 : ((wrap64 ((((zBm t361 x107_4).f0).length : Int) + (((zBm t361 x107_4).f1).length : Int))) == (t345.length : Int)) = true := beq_iff_eq.mpr c53
               have c53b1 : ((wrap64 ((((zBm t361 x107_4).f0).length : Int) + (((zBm t361 x107_4).f1).length : Int))) != (t345.length : Int)) = false := bne_eq_false_iff_eq.mpr c53
               clear c53
               replace H := Option.bind_eq_some_iff.mp H
               obtain ⟨t375, A540, H⟩ := H
               replace H : (if t375 = true then ((zAt.f k4 t369 ((zBm t361 x107_4).f0)).bind fun t376 => (if t376 = true then ((zAt.f k4 t369 ((zBm t361 x107_4).f1)).bind fun t377 => (if t377 = true then (zA4.l0 k4 t345 t365 t369 t361 (t361.length : Int) (wrap64 (x107_4 + 1)) t350 t351) else (some false))) else (some false))) else (some false)) = some r := H
               have A54 := zA1.mk A540
               clear A540
               by_cases c55 : t375 = true
               ·subst c55
                have H1 : ((zAt.f k4 t369 ((zBm t361 x107_4).f0)).bind fun t376 => (if t376 = true then ((zAt.f k4 t369 ((zBm t361 x107_4).f1)).bind fun t377 => (if t377 = true then (zA4.l0 k4 t345 t365 t369 t361 (t361.length : Int) (wrap64 (x107_4 + 1)) t350 t351) else (some false))) else (some false))) = some r := by rw [if_pos rfl] at H; exact H
                clear H
                have H := H1
                clear H1
                replace H := Option.bind_eq_some_iff.mp H
                obtain ⟨t376, A560, H⟩ := H
                replace H : (if t376 = true then ((zAt.f k4 t369 ((zBm t361 x107_4).f1)).bind fun t377 => (if t377 = true then (zA4.l0 k4 t345 t365 t369 t361 (t361.length : Int) (wrap64 (x107_4 + 1)) t350 t351) else (some false))) else (some false)) = some r := H
                have A56 := zA1.mk A560
                clear A560
                by_cases c57 : t376 = true
                ·subst c57
                 have H1 : ((zAt.f k4 t369 ((zBm t361 x107_4).f1)).bind fun t377 => (if t377 = true then (zA4.l0 k4 t345 t365 t369 t361 (t361.length : Int) (wrap64 (x107_4 + 1)) t350 t351) else (some false))) = some r := by rw [if_pos rfl] at H; exact H
                 clear H
                 have H := H1
                 clear H1
                 replace H := Option.bind_eq_some_iff.mp H
                 obtain ⟨t377, A580, H⟩ := H
                 replace H : (if t377 = true then (zA4.l0 k4 t345 t365 t369 t361 (t361.length : Int) (wrap64 (x107_4 + 1)) t350 t351) else (some false)) = some r := H
                 have A58 := zA1.mk A580
                 clear A580
                 by_cases c59 : t377 = true
                 ·subst c59
                  have H1 : (zA4.l0 k4 t345 t365 t369 t361 (t361.length : Int) (wrap64 (x107_4 + 1)) t350 t351) = some r := by rw [if_pos rfl] at H; exact H
                  clear H
                  have H := H1
                  clear H1
                  have H' := zA1.mk H
                  clear H
                  have p373 : 0 ≤ (x107_4 : Int) := of_decide_eq_true (by first | (with_reducible assumption) | assumption)
                  have q373 : x107_4 < (t361.length : Int) := of_decide_eq_true (by first | (with_reducible assumption) | assumption)
                  obtain ⟨ad373, A373_0, c373_0, A373_1, c373_1, e373, hx373_0, hx373_1, hl373_0, hi373_0, hl373_1, hi373_1⟩ := at_T46 (Kd.S_reads' HO_105.out).2.2 x107_4 p373 q373
                  cases e373
                  obtain ⟨ce373, hce373, hMe373, hcc373⟩ := Kd.S_get HO_105.out z46 x107_4 p373 (by first | exact q373 | exact of_decide_eq_true (by first | (with_reducible assumption) | assumption) | (have e_ := (Kd.S_reads' HO_105.out).1; omega))
                  obtain ⟨ve373_0, ve373_1, rfl, ge373_0, ge373_1⟩ := k46_openM hMe373
                  have hv373_0 := hcc373 0 _ rfl
                  rw [Nat.add_zero] at hv373_0
                  replace hv373_0 := Option.some.inj (hv373_0.symm.trans hx373_0)
                  rw [hv373_0] at ge373_0
                  have HL373_0 := zA1.mk (show Kd.R (Kd.int .i64) 3 _ _ _ _ ((zBm t361 x107_4).f0) from ge373_0)
                  clear hv373_0 ge373_0
                  have hv373_1 := hcc373 1 _ rfl
                  rw [add_field _ _ 1 (by omega)] at hv373_1
                  replace hv373_1 := Option.some.inj (hv373_1.symm.trans hx373_1)
                  rw [hv373_1] at ge373_1
                  have HL373_1 := zA1.mk (show Kd.R (Kd.int .i64) 3 _ _ _ _ ((zBm t361 x107_4).f1) from ge373_1)
                  clear hv373_1 ge373_1
                  clear hcc373 hce373
                  have HR373_0 := zA1.mk hi373_0
                  have HC373_0 := zA1.mk hl373_0
                  clear hi373_0 hl373_0
                  have HR373_1 := zA1.mk hi373_1
                  have HC373_1 := zA1.mk hl373_1
                  clear hi373_1 hl373_1
                  replace p373 := eq_true p373
                  replace q373 := eq_true q373
                  go_wp2_with (first | ((with_reducible refine zBk (N := 18) rfl ?_); (try (refine gate_guard (by rfl) ?_; dsimp only)); refine zBl ?hg (N := 18) ?hd (cs := #[.slice none 0 0, .slice none 0 0]) (t := 46) ?hr ?_; (case hd => rfl); (case hg => rfl); (case hr => first | (go_simp; done) | (go_simp; rfl)); intro gb374 hg w60 hbox hb; have n0_ := zA1.mk (Kd.zBg (by (with_reducible repeat (first | apply Kd.zAf | apply Kd.zAe | apply Kd.zAh)); exact HO_5.out) hb); have n1_ := zA1.mk (Kd.zBg (by (with_reducible repeat (first | apply Kd.zAf | apply Kd.zAe | apply Kd.zAh)); exact HO_13.out) hb); have n2_ := zA1.mk (Kd.S_below (by (with_reducible repeat (first | apply Kd.zCh | apply Kd.zCg | apply Kd.S_drew)); exact HO_15.out) hb); have n3_ := zA1.mk (Kd.S_below (Kd.S_elderB (by (with_reducible repeat (first | apply Kd.zCh | apply Kd.zCg | apply Kd.S_drew)); exact HO_105.out) gb374 (Nat.le_of_eq hg.symm)) hb); have n4_ := zA1.mk (Kd.zBg (by (with_reducible repeat (first | apply Kd.zAf | apply Kd.zAe | apply Kd.zAh)); exact HO_355001.out) hb); have n5_ := zA1.mk (Kd.zBg (by (with_reducible repeat (first | apply Kd.zAf | apply Kd.zAe | apply Kd.zAh)); exact HL373_0.out) hb); have n6_ := zA1.mk (Kd.zBg (by (with_reducible repeat (first | apply Kd.zAf | apply Kd.zAe | apply Kd.zAh)); exact HL373_1.out) hb); have n7_ := zA1.mk (zAq (g := gb354) (o := .cells #[.int .i64 t350, .slice Ao21 t351.length co21] 28 (0, 0)) (by (with_reducible repeat (first | refine zA7 ?_ _ | refine zA8 ?_ | refine zA6 ?_ _)); exact BK354.out) hb); have n8_ := zA1.mk (Kd.zAx (by repeat (first | (with_reducible exact HR373_0.out) | (with_reducible refine Kd.zAj ?_ _) | (with_reducible refine Kd.zAr ?_ _) | (with_reducible refine Kd.zB9 ?_) | exact HR373_0.out)) hb); have n9_ := zA1.mk (Kd.zAx (by repeat (first | (with_reducible exact HR373_1.out) | (with_reducible refine Kd.zAj ?_ _) | (with_reducible refine Kd.zAr ?_ _) | (with_reducible refine Kd.zB9 ?_) | exact HR373_1.out)) hb); have n10_ := zA1.mk (zAg (by repeat (first | (with_reducible first | exact HB.out | apply zA2 | apply zA0 | apply zA3 | refine zA5 ?_ GE354.out) | exact HB.out)) hb); have n11_ := zA1.mk (hbox); have n12_ := zA1.mk ((by rw [hg]; exact (zAb (by repeat (first | (with_reducible first | exact HB.out | apply zA2 | apply zA0 | apply zA3 | refine zA5 ?_ GE354.out) | exact HB.out))) : w.heap.size ≤ gb374)); have n13_ := zA1.mk ((by rw [hg]; exact (zAb (by repeat (first | (with_reducible first | exact HB.out | apply zA2 | apply zA0 | apply zA3 | refine zA5 ?_ GE354.out) | exact HB.out))) : w.heap.size ≤ gb374)); have n14_ := zA1.mk ((by rw [hg]; exact Nat.ne_of_lt (zC7 (g := gb354) (o := .cells #[.int .i64 t350, .slice Ao21 t351.length co21] 28 (0, 0)) (by (with_reducible repeat (first | refine zA7 ?_ _ | refine zA8 ?_ | refine zA6 ?_ _)); exact BK354.out)) : gb354 ≠ gb374)); have n15_ := zA1.mk ((by rw [hg]; exact Nat.ne_of_gt (zC7 (g := gb354) (o := .cells #[.int .i64 t350, .slice Ao21 t351.length co21] 28 (0, 0)) (by (with_reducible repeat (first | refine zA7 ?_ _ | refine zA8 ?_ | refine zA6 ?_ _)); exact BK354.out)) : gb374 ≠ gb354)); clear HO_5; clear HO_13; clear HO_15; clear HO_105; clear HO_355001; clear HL373_0; clear HL373_1; clear BK354; clear HR373_0; clear HR373_1; clear HB; have HO_5 := n0_; have HO_13 := n1_; have HO_15 := n2_; have HO_105 := n3_; have HO_355001 := n4_; have HL373_0 := n5_; have HL373_1 := n6_; have BK354 := n7_; have HR373_0 := n8_; have HR373_1 := n9_; have HB := n10_; have BK374 := n11_; have GW374 := n12_; have GE374 := n13_; have NB354_374 := n14_; have NB374_354 := n15_; clear n0_ n1_ n2_ n3_ n4_ n5_ n6_ n7_ n8_ n9_ n10_ n11_ n12_ n13_ n14_ n15_; clear hb hbox hg; have hnb61 := NB374_354.out; have hnc61 := NB354_374.out; have hcz62_0 : w60.cell? ⟨gb374, 0, none⟩ = some (.slice none 0 0) := (zA9 BK374.out 0).trans rfl; have hcz62_1 : w60.cell? ⟨gb374, 1, none⟩ = some (.slice none 0 0) := (zA9 BK374.out 1).trans rfl; have hfz62_0 := zAd BK374.out 0; have hfz62_1 := zAd BK374.out 1) | (go_at_call 16; (with_reducible refine (zB8.calls k4 _ _ ((zBm t361 x107_4).f0) _ _ ((zBm t361 x107_4).f1) true _ ?side1 ?side2 ?side3 ?side4 A54.out).mono ?_); (case side1 => repeat (first | exact ((Kd.zAz (by (with_reducible repeat (first | apply Kd.zAf | apply Kd.zAe | apply Kd.zAh)); exact (Kd.zC0 (Kd.R_far (p := ⟨gb374, 1, none⟩) (Kd.R_far (p := ⟨gb374, 0, none⟩) (Kd.R_types HL373_0.out BK374.out (by decide)) (fun _ hk => hk.2) (.slice A373_0 ((zBm t361 x107_4).f0).length c373_0)) (fun _ hk => hk.2) (.slice A373_1 ((zBm t361 x107_4).f1).length c373_1)) (fun _ h_ => h_.1)))).2.2) | (with_reducible refine Kd.zAj ?_ _) | (with_reducible refine Kd.zAr ?_ _) | (with_reducible refine Kd.zB9 ?_))); (case side2 => exact HC373_0.out); (case side3 => repeat (first | exact ((Kd.zAz (by (with_reducible repeat (first | apply Kd.zAf | apply Kd.zAe | apply Kd.zAh)); exact (Kd.zC0 (Kd.R_far (p := ⟨gb374, 1, none⟩) (Kd.R_far (p := ⟨gb374, 0, none⟩) (Kd.R_types HL373_1.out BK374.out (by decide)) (fun _ hk => hk.2) (.slice A373_0 ((zBm t361 x107_4).f0).length c373_0)) (fun _ hk => hk.2) (.slice A373_1 ((zBm t361 x107_4).f1).length c373_1)) (fun _ h_ => h_.1)))).2.2) | (with_reducible refine Kd.zAj ?_ _) | (with_reducible refine Kd.zAr ?_ _) | (with_reducible refine Kd.zB9 ?_))); (case side4 => exact HC373_1.out); rintro e w' ⟨rfl, ⟨nd, rfl⟩⟩; obtain ⟨Ao63, co63, eo63⟩ := Kd.S_slice HO_15.out; subst eo63) | (go_at_call 17; (with_reducible refine (zAt.calls k4 _ _ t369 _ _ ((zBm t361 x107_4).f0) true _ ?side1 ?side2 ?side3 ?side4 A56.out).mono ?_); (case side1 => refine (Kd.S_reads' (e := 23) (base := w.heap.size) (ok := fun k_ => (some k_ ≠ (.slice Ao22 t345.length co22 : Value).ownBlock ∧ some k_ ≠ (v366 : Value).ownBlock)) (n := t369.length) (c := co63) ?_).2.2; exact (by (with_reducible repeat (first | apply Kd.zCh | apply Kd.zCg | apply Kd.S_drew)); exact (Kd.S_mono (Kd.S_far (p := ⟨gb374, 1, none⟩) (Kd.S_far (p := ⟨gb374, 0, none⟩) (Kd.S_types HO_15.out BK374.out (by decide)) (fun _ hk => hk.2) (.slice A373_0 ((zBm t361 x107_4).f0).length c373_0)) (fun _ hk => hk.2) (.slice A373_1 ((zBm t361 x107_4).f1).length c373_1)) (fun _ h_ => h_.1)))); (case side2 => exact (Kd.S_reads' HO_15.out).2.1); (case side3 => repeat (first | exact ((Kd.zAz (by (with_reducible repeat (first | apply Kd.zAf | apply Kd.zAe | apply Kd.zAh)); exact (Kd.zC0 (Kd.R_far (p := ⟨gb374, 1, none⟩) (Kd.R_far (p := ⟨gb374, 0, none⟩) (Kd.R_types HL373_0.out BK374.out (by decide)) (fun _ hk => hk.2) (.slice A373_0 ((zBm t361 x107_4).f0).length c373_0)) (fun _ hk => hk.2) (.slice A373_1 ((zBm t361 x107_4).f1).length c373_1)) (fun _ h_ => h_.1)))).2.2) | (with_reducible refine Kd.zAj ?_ _) | (with_reducible refine Kd.zAr ?_ _) | (with_reducible refine Kd.zB9 ?_))); (case side4 => exact HC373_0.out); rintro e w' ⟨rfl, ⟨nd, rfl⟩⟩) | (go_at_call 17; (with_reducible refine (zAt.calls k4 _ _ t369 _ _ ((zBm t361 x107_4).f1) true _ ?side1 ?side2 ?side3 ?side4 A58.out).mono ?_); (case side1 => refine (Kd.S_reads' (e := 23) (base := w.heap.size) (ok := fun k_ => (some k_ ≠ (.slice Ao22 t345.length co22 : Value).ownBlock ∧ some k_ ≠ (v366 : Value).ownBlock)) (n := t369.length) (c := co63) ?_).2.2; exact (by (with_reducible repeat (first | apply Kd.zCh | apply Kd.zCg | apply Kd.S_drew)); exact (Kd.S_mono (Kd.S_far (p := ⟨gb374, 1, none⟩) (Kd.S_far (p := ⟨gb374, 0, none⟩) (Kd.S_types HO_15.out BK374.out (by decide)) (fun _ hk => hk.2) (.slice A373_0 ((zBm t361 x107_4).f0).length c373_0)) (fun _ hk => hk.2) (.slice A373_1 ((zBm t361 x107_4).f1).length c373_1)) (fun _ h_ => h_.1)))); (case side2 => exact (Kd.S_reads' HO_15.out).2.1); (case side3 => repeat (first | exact ((Kd.zAz (by (with_reducible repeat (first | apply Kd.zAf | apply Kd.zAe | apply Kd.zAh)); exact (Kd.zC0 (Kd.R_far (p := ⟨gb374, 1, none⟩) (Kd.R_far (p := ⟨gb374, 0, none⟩) (Kd.R_types HL373_1.out BK374.out (by decide)) (fun _ hk => hk.2) (.slice A373_0 ((zBm t361 x107_4).f0).length c373_0)) (fun _ hk => hk.2) (.slice A373_1 ((zBm t361 x107_4).f1).length c373_1)) (fun _ h_ => h_.1)))).2.2) | (with_reducible refine Kd.zAj ?_ _) | (with_reducible refine Kd.zAr ?_ _) | (with_reducible refine Kd.zB9 ?_))); (case side4 => exact HC373_1.out); rintro e w' ⟨rfl, ⟨nd, rfl⟩⟩))
                  go_roundg k4
                  case measure => have := HJ3.out; have := HJ16.out; have := HJ33.out; have := HK4.out; omega
                  case rel => exact ⟨(wrap64 (x107_4 + 1)), (by first | rfl | (simp; done) | (simp [*]; done)), H', ⟨by have := HJ3.out; have := HJ16.out; have := HJ33.out; have := HK4.out; omega⟩, ⟨by (with_reducible repeat (first | apply Kd.zAf | apply Kd.zAe | apply Kd.zAh)); exact Kd.zC0 (Kd.R_far (p := ⟨gb374, 1, none⟩) (Kd.R_far (p := ⟨gb374, 0, none⟩) (Kd.R_types HO_5.out BK374.out (by decide)) (fun _ hk => hk.2) (.slice A373_0 ((zBm t361 x107_4).f0).length c373_0)) (fun _ hk => hk.2) (.slice A373_1 ((zBm t361 x107_4).f1).length c373_1)) (fun _ hk => hk.1)⟩, ⟨by (with_reducible repeat (first | apply Kd.zAf | apply Kd.zAe | apply Kd.zAh)); exact Kd.zC0 (Kd.R_far (p := ⟨gb374, 1, none⟩) (Kd.R_far (p := ⟨gb374, 0, none⟩) (Kd.R_types HO_13.out BK374.out (by decide)) (fun _ hk => hk.2) (.slice A373_0 ((zBm t361 x107_4).f0).length c373_0)) (fun _ hk => hk.2) (.slice A373_1 ((zBm t361 x107_4).f1).length c373_1)) (fun _ hk => hk.1)⟩, ⟨by (with_reducible repeat (first | apply Kd.zCh | apply Kd.zCg | apply Kd.S_drew)); exact Kd.S_mono (Kd.S_far (p := ⟨gb374, 1, none⟩) (Kd.S_far (p := ⟨gb374, 0, none⟩) (Kd.S_types HO_15.out BK374.out (by decide)) (fun _ hk => hk.2) (.slice A373_0 ((zBm t361 x107_4).f0).length c373_0)) (fun _ hk => hk.2) (.slice A373_1 ((zBm t361 x107_4).f1).length c373_1)) (fun _ hk => ⟨hk.1.1, hk.1.2⟩)⟩, ⟨by (with_reducible repeat (first | apply Kd.zCh | apply Kd.zCg | apply Kd.S_drew)); exact Kd.S_mono (Kd.S_far (p := ⟨gb374, 1, none⟩) (Kd.S_far (p := ⟨gb374, 0, none⟩) (Kd.S_mono HO_105.out (fun k_ hk => (⟨hk, hk.2⟩ : _ ∧ k_ ≠ gb374))) (fun _ hk => hk.2) (.slice A373_0 ((zBm t361 x107_4).f0).length c373_0)) (fun _ hk => hk.2) (.slice A373_1 ((zBm t361 x107_4).f1).length c373_1)) (fun _ hk => ⟨hk.1.1.1, hk.1.1.2⟩)⟩, ⟨by (with_reducible repeat (first | apply Kd.zAf | apply Kd.zAe | apply Kd.zAh)); exact Kd.zC0 (Kd.R_far (p := ⟨gb374, 1, none⟩) (Kd.R_far (p := ⟨gb374, 0, none⟩) (Kd.R_types HO_355001.out BK374.out (by decide)) (fun _ hk => hk.2) (.slice A373_0 ((zBm t361 x107_4).f0).length c373_0)) (fun _ hk => hk.2) (.slice A373_1 ((zBm t361 x107_4).f1).length c373_1)) (fun _ hk => trivial)⟩, ⟨by (with_reducible repeat (first | refine zA7 ?_ _ | refine zA8 ?_ | refine zA6 ?_ _)); refine blk_far ?_ NB354_374.out _; (with_reducible repeat (first | refine zA7 ?_ _ | refine zA8 ?_ | refine zA6 ?_ _)); refine blk_far ?_ NB354_374.out _; (with_reducible repeat (first | refine zA7 ?_ _ | refine zA8 ?_ | refine zA6 ?_ _)); exact BK354.out⟩, ⟨by repeat (first | (with_reducible first | exact HB.out | apply zA2 | apply zA0 | apply zA3 | refine zA5 ?_ GE354.out | refine zA5 ?_ GE374.out) | exact HB.out)⟩⟩
                 ·replace c59 := Bool.eq_false_iff.mpr c59
                  subst c59
                  have H1 : (some false) = some r := by rw [if_neg (show ¬ (false = true) by decide)] at H; exact H
                  clear H
                  have H := H1
                  clear H1
                  obtain rfl := Option.some.inj H
                  have p373 : 0 ≤ (x107_4 : Int) := of_decide_eq_true (by first | (with_reducible assumption) | assumption)
                  have q373 : x107_4 < (t361.length : Int) := of_decide_eq_true (by first | (with_reducible assumption) | assumption)
                  obtain ⟨ad373, A373_0, c373_0, A373_1, c373_1, e373, hx373_0, hx373_1, hl373_0, hi373_0, hl373_1, hi373_1⟩ := at_T46 (Kd.S_reads' HO_105.out).2.2 x107_4 p373 q373
                  cases e373
                  obtain ⟨ce373, hce373, hMe373, hcc373⟩ := Kd.S_get HO_105.out z46 x107_4 p373 (by first | exact q373 | exact of_decide_eq_true (by first | (with_reducible assumption) | assumption) | (have e_ := (Kd.S_reads' HO_105.out).1; omega))
                  obtain ⟨ve373_0, ve373_1, rfl, ge373_0, ge373_1⟩ := k46_openM hMe373
                  have hv373_0 := hcc373 0 _ rfl
                  rw [Nat.add_zero] at hv373_0
                  replace hv373_0 := Option.some.inj (hv373_0.symm.trans hx373_0)
                  rw [hv373_0] at ge373_0
                  have HL373_0 := zA1.mk (show Kd.R (Kd.int .i64) 3 _ _ _ _ ((zBm t361 x107_4).f0) from ge373_0)
                  clear hv373_0 ge373_0
                  have hv373_1 := hcc373 1 _ rfl
                  rw [add_field _ _ 1 (by omega)] at hv373_1
                  replace hv373_1 := Option.some.inj (hv373_1.symm.trans hx373_1)
                  rw [hv373_1] at ge373_1
                  have HL373_1 := zA1.mk (show Kd.R (Kd.int .i64) 3 _ _ _ _ ((zBm t361 x107_4).f1) from ge373_1)
                  clear hv373_1 ge373_1
                  clear hcc373 hce373
                  have HR373_0 := zA1.mk hi373_0
                  have HC373_0 := zA1.mk hl373_0
                  clear hi373_0 hl373_0
                  have HR373_1 := zA1.mk hi373_1
                  have HC373_1 := zA1.mk hl373_1
                  clear hi373_1 hl373_1
                  replace p373 := eq_true p373
                  replace q373 := eq_true q373
                  go_wp2_with (first | ((with_reducible refine zBk (N := 18) rfl ?_); (try (refine gate_guard (by rfl) ?_; dsimp only)); refine zBl ?hg (N := 18) ?hd (cs := #[.slice none 0 0, .slice none 0 0]) (t := 46) ?hr ?_; (case hd => rfl); (case hg => rfl); (case hr => first | (go_simp; done) | (go_simp; rfl)); intro gb374 hg w64 hbox hb; have n0_ := zA1.mk (Kd.zBg (by (with_reducible repeat (first | apply Kd.zAf | apply Kd.zAe | apply Kd.zAh)); exact HO_5.out) hb); have n1_ := zA1.mk (Kd.zBg (by (with_reducible repeat (first | apply Kd.zAf | apply Kd.zAe | apply Kd.zAh)); exact HO_13.out) hb); have n2_ := zA1.mk (Kd.S_below (by (with_reducible repeat (first | apply Kd.zCh | apply Kd.zCg | apply Kd.S_drew)); exact HO_15.out) hb); have n3_ := zA1.mk (Kd.S_below (Kd.S_elderB (by (with_reducible repeat (first | apply Kd.zCh | apply Kd.zCg | apply Kd.S_drew)); exact HO_105.out) gb374 (Nat.le_of_eq hg.symm)) hb); have n4_ := zA1.mk (Kd.zBg (by (with_reducible repeat (first | apply Kd.zAf | apply Kd.zAe | apply Kd.zAh)); exact HO_355001.out) hb); have n5_ := zA1.mk (Kd.zBg (by (with_reducible repeat (first | apply Kd.zAf | apply Kd.zAe | apply Kd.zAh)); exact HL373_0.out) hb); have n6_ := zA1.mk (Kd.zBg (by (with_reducible repeat (first | apply Kd.zAf | apply Kd.zAe | apply Kd.zAh)); exact HL373_1.out) hb); have n7_ := zA1.mk (zAq (g := gb354) (o := .cells #[.int .i64 t350, .slice Ao21 t351.length co21] 28 (0, 0)) (by (with_reducible repeat (first | refine zA7 ?_ _ | refine zA8 ?_ | refine zA6 ?_ _)); exact BK354.out) hb); have n8_ := zA1.mk (Kd.zAx (by repeat (first | (with_reducible exact HR373_0.out) | (with_reducible refine Kd.zAj ?_ _) | (with_reducible refine Kd.zAr ?_ _) | (with_reducible refine Kd.zB9 ?_) | exact HR373_0.out)) hb); have n9_ := zA1.mk (Kd.zAx (by repeat (first | (with_reducible exact HR373_1.out) | (with_reducible refine Kd.zAj ?_ _) | (with_reducible refine Kd.zAr ?_ _) | (with_reducible refine Kd.zB9 ?_) | exact HR373_1.out)) hb); have n10_ := zA1.mk (zAg (by repeat (first | (with_reducible first | exact HB.out | apply zA2 | apply zA0 | apply zA3 | refine zA5 ?_ GE354.out) | exact HB.out)) hb); have n11_ := zA1.mk (hbox); have n12_ := zA1.mk ((by rw [hg]; exact (zAb (by repeat (first | (with_reducible first | exact HB.out | apply zA2 | apply zA0 | apply zA3 | refine zA5 ?_ GE354.out) | exact HB.out))) : w.heap.size ≤ gb374)); have n13_ := zA1.mk ((by rw [hg]; exact (zAb (by repeat (first | (with_reducible first | exact HB.out | apply zA2 | apply zA0 | apply zA3 | refine zA5 ?_ GE354.out) | exact HB.out))) : w.heap.size ≤ gb374)); have n14_ := zA1.mk ((by rw [hg]; exact Nat.ne_of_lt (zC7 (g := gb354) (o := .cells #[.int .i64 t350, .slice Ao21 t351.length co21] 28 (0, 0)) (by (with_reducible repeat (first | refine zA7 ?_ _ | refine zA8 ?_ | refine zA6 ?_ _)); exact BK354.out)) : gb354 ≠ gb374)); have n15_ := zA1.mk ((by rw [hg]; exact Nat.ne_of_gt (zC7 (g := gb354) (o := .cells #[.int .i64 t350, .slice Ao21 t351.length co21] 28 (0, 0)) (by (with_reducible repeat (first | refine zA7 ?_ _ | refine zA8 ?_ | refine zA6 ?_ _)); exact BK354.out)) : gb374 ≠ gb354)); clear HO_5; clear HO_13; clear HO_15; clear HO_105; clear HO_355001; clear HL373_0; clear HL373_1; clear BK354; clear HR373_0; clear HR373_1; clear HB; have HO_5 := n0_; have HO_13 := n1_; have HO_15 := n2_; have HO_105 := n3_; have HO_355001 := n4_; have HL373_0 := n5_; have HL373_1 := n6_; have BK354 := n7_; have HR373_0 := n8_; have HR373_1 := n9_; have HB := n10_; have BK374 := n11_; have GW374 := n12_; have GE374 := n13_; have NB354_374 := n14_; have NB374_354 := n15_; clear n0_ n1_ n2_ n3_ n4_ n5_ n6_ n7_ n8_ n9_ n10_ n11_ n12_ n13_ n14_ n15_; clear hb hbox hg; have hnb65 := NB374_354.out; have hnc65 := NB354_374.out; have hcz66_0 : w64.cell? ⟨gb374, 0, none⟩ = some (.slice none 0 0) := (zA9 BK374.out 0).trans rfl; have hcz66_1 : w64.cell? ⟨gb374, 1, none⟩ = some (.slice none 0 0) := (zA9 BK374.out 1).trans rfl; have hfz66_0 := zAd BK374.out 0; have hfz66_1 := zAd BK374.out 1) | (go_at_call 16; (with_reducible refine (zB8.calls k4 _ _ ((zBm t361 x107_4).f0) _ _ ((zBm t361 x107_4).f1) true _ ?side1 ?side2 ?side3 ?side4 A54.out).mono ?_); (case side1 => repeat (first | exact ((Kd.zAz (by (with_reducible repeat (first | apply Kd.zAf | apply Kd.zAe | apply Kd.zAh)); exact (Kd.zC0 (Kd.R_far (p := ⟨gb374, 1, none⟩) (Kd.R_far (p := ⟨gb374, 0, none⟩) (Kd.R_types HL373_0.out BK374.out (by decide)) (fun _ hk => hk.2) (.slice A373_0 ((zBm t361 x107_4).f0).length c373_0)) (fun _ hk => hk.2) (.slice A373_1 ((zBm t361 x107_4).f1).length c373_1)) (fun _ h_ => h_.1)))).2.2) | (with_reducible refine Kd.zAj ?_ _) | (with_reducible refine Kd.zAr ?_ _) | (with_reducible refine Kd.zB9 ?_))); (case side2 => exact HC373_0.out); (case side3 => repeat (first | exact ((Kd.zAz (by (with_reducible repeat (first | apply Kd.zAf | apply Kd.zAe | apply Kd.zAh)); exact (Kd.zC0 (Kd.R_far (p := ⟨gb374, 1, none⟩) (Kd.R_far (p := ⟨gb374, 0, none⟩) (Kd.R_types HL373_1.out BK374.out (by decide)) (fun _ hk => hk.2) (.slice A373_0 ((zBm t361 x107_4).f0).length c373_0)) (fun _ hk => hk.2) (.slice A373_1 ((zBm t361 x107_4).f1).length c373_1)) (fun _ h_ => h_.1)))).2.2) | (with_reducible refine Kd.zAj ?_ _) | (with_reducible refine Kd.zAr ?_ _) | (with_reducible refine Kd.zB9 ?_))); (case side4 => exact HC373_1.out); rintro e w' ⟨rfl, ⟨nd, rfl⟩⟩; obtain ⟨Ao67, co67, eo67⟩ := Kd.S_slice HO_15.out; subst eo67) | (go_at_call 17; (with_reducible refine (zAt.calls k4 _ _ t369 _ _ ((zBm t361 x107_4).f0) true _ ?side1 ?side2 ?side3 ?side4 A56.out).mono ?_); (case side1 => refine (Kd.S_reads' (e := 23) (base := w.heap.size) (ok := fun k_ => (some k_ ≠ (.slice Ao22 t345.length co22 : Value).ownBlock ∧ some k_ ≠ (v366 : Value).ownBlock)) (n := t369.length) (c := co67) ?_).2.2; exact (by (with_reducible repeat (first | apply Kd.zCh | apply Kd.zCg | apply Kd.S_drew)); exact (Kd.S_mono (Kd.S_far (p := ⟨gb374, 1, none⟩) (Kd.S_far (p := ⟨gb374, 0, none⟩) (Kd.S_types HO_15.out BK374.out (by decide)) (fun _ hk => hk.2) (.slice A373_0 ((zBm t361 x107_4).f0).length c373_0)) (fun _ hk => hk.2) (.slice A373_1 ((zBm t361 x107_4).f1).length c373_1)) (fun _ h_ => h_.1)))); (case side2 => exact (Kd.S_reads' HO_15.out).2.1); (case side3 => repeat (first | exact ((Kd.zAz (by (with_reducible repeat (first | apply Kd.zAf | apply Kd.zAe | apply Kd.zAh)); exact (Kd.zC0 (Kd.R_far (p := ⟨gb374, 1, none⟩) (Kd.R_far (p := ⟨gb374, 0, none⟩) (Kd.R_types HL373_0.out BK374.out (by decide)) (fun _ hk => hk.2) (.slice A373_0 ((zBm t361 x107_4).f0).length c373_0)) (fun _ hk => hk.2) (.slice A373_1 ((zBm t361 x107_4).f1).length c373_1)) (fun _ h_ => h_.1)))).2.2) | (with_reducible refine Kd.zAj ?_ _) | (with_reducible refine Kd.zAr ?_ _) | (with_reducible refine Kd.zB9 ?_))); (case side4 => exact HC373_0.out); rintro e w' ⟨rfl, ⟨nd, rfl⟩⟩) | (go_at_call 17; (with_reducible refine (zAt.calls k4 _ _ t369 _ _ ((zBm t361 x107_4).f1) false _ ?side1 ?side2 ?side3 ?side4 A58.out).mono ?_); (case side1 => refine (Kd.S_reads' (e := 23) (base := w.heap.size) (ok := fun k_ => (some k_ ≠ (.slice Ao22 t345.length co22 : Value).ownBlock ∧ some k_ ≠ (v366 : Value).ownBlock)) (n := t369.length) (c := co67) ?_).2.2; exact (by (with_reducible repeat (first | apply Kd.zCh | apply Kd.zCg | apply Kd.S_drew)); exact (Kd.S_mono (Kd.S_far (p := ⟨gb374, 1, none⟩) (Kd.S_far (p := ⟨gb374, 0, none⟩) (Kd.S_types HO_15.out BK374.out (by decide)) (fun _ hk => hk.2) (.slice A373_0 ((zBm t361 x107_4).f0).length c373_0)) (fun _ hk => hk.2) (.slice A373_1 ((zBm t361 x107_4).f1).length c373_1)) (fun _ h_ => h_.1)))); (case side2 => exact (Kd.S_reads' HO_15.out).2.1); (case side3 => repeat (first | exact ((Kd.zAz (by (with_reducible repeat (first | apply Kd.zAf | apply Kd.zAe | apply Kd.zAh)); exact (Kd.zC0 (Kd.R_far (p := ⟨gb374, 1, none⟩) (Kd.R_far (p := ⟨gb374, 0, none⟩) (Kd.R_types HL373_1.out BK374.out (by decide)) (fun _ hk => hk.2) (.slice A373_0 ((zBm t361 x107_4).f0).length c373_0)) (fun _ hk => hk.2) (.slice A373_1 ((zBm t361 x107_4).f1).length c373_1)) (fun _ h_ => h_.1)))).2.2) | (with_reducible refine Kd.zAj ?_ _) | (with_reducible refine Kd.zAr ?_ _) | (with_reducible refine Kd.zB9 ?_))); (case side4 => exact HC373_1.out); rintro e w' ⟨rfl, ⟨nd, rfl⟩⟩))
                  go_ret
                  exact ⟨by first | rfl | (simp [zAp, zAo] <;> rfl) | (simp [*, zAp, zAo] <;> rfl), by repeat (first | (with_reducible first | exact HB.out | apply zA2 | apply zA0 | apply zA3 | refine zA5 ?_ GE354.out | refine zA5 ?_ GE374.out) | exact HB.out)⟩
                ·replace c57 := Bool.eq_false_iff.mpr c57
                 subst c57
                 have H1 : (some false) = some r := by rw [if_neg (show ¬ (false = true) by decide)] at H; exact H
                 clear H
                 have H := H1
                 clear H1
                 obtain rfl := Option.some.inj H
                 have p373 : 0 ≤ (x107_4 : Int) := of_decide_eq_true (by first | (with_reducible assumption) | assumption)
                 have q373 : x107_4 < (t361.length : Int) := of_decide_eq_true (by first | (with_reducible assumption) | assumption)
                 obtain ⟨ad373, A373_0, c373_0, A373_1, c373_1, e373, hx373_0, hx373_1, hl373_0, hi373_0, hl373_1, hi373_1⟩ := at_T46 (Kd.S_reads' HO_105.out).2.2 x107_4 p373 q373
                 cases e373
                 obtain ⟨ce373, hce373, hMe373, hcc373⟩ := Kd.S_get HO_105.out z46 x107_4 p373 (by first | exact q373 | exact of_decide_eq_true (by first | (with_reducible assumption) | assumption) | (have e_ := (Kd.S_reads' HO_105.out).1; omega))
                 obtain ⟨ve373_0, ve373_1, rfl, ge373_0, ge373_1⟩ := k46_openM hMe373
                 have hv373_0 := hcc373 0 _ rfl
                 rw [Nat.add_zero] at hv373_0
                 replace hv373_0 := Option.some.inj (hv373_0.symm.trans hx373_0)
                 rw [hv373_0] at ge373_0
                 have HL373_0 := zA1.mk (show Kd.R (Kd.int .i64) 3 _ _ _ _ ((zBm t361 x107_4).f0) from ge373_0)
                 clear hv373_0 ge373_0
                 have hv373_1 := hcc373 1 _ rfl
                 rw [add_field _ _ 1 (by omega)] at hv373_1
                 replace hv373_1 := Option.some.inj (hv373_1.symm.trans hx373_1)
                 rw [hv373_1] at ge373_1
                 have HL373_1 := zA1.mk (show Kd.R (Kd.int .i64) 3 _ _ _ _ ((zBm t361 x107_4).f1) from ge373_1)
                 clear hv373_1 ge373_1
                 clear hcc373 hce373
                 have HR373_0 := zA1.mk hi373_0
                 have HC373_0 := zA1.mk hl373_0
                 clear hi373_0 hl373_0
                 have HR373_1 := zA1.mk hi373_1
                 have HC373_1 := zA1.mk hl373_1
                 clear hi373_1 hl373_1
                 replace p373 := eq_true p373
                 replace q373 := eq_true q373
                 go_wp2_with (first | ((with_reducible refine zBk (N := 18) rfl ?_); (try (refine gate_guard (by rfl) ?_; dsimp only)); refine zBl ?hg (N := 18) ?hd (cs := #[.slice none 0 0, .slice none 0 0]) (t := 46) ?hr ?_; (case hd => rfl); (case hg => rfl); (case hr => first | (go_simp; done) | (go_simp; rfl)); intro gb374 hg w68 hbox hb; have n0_ := zA1.mk (Kd.zBg (by (with_reducible repeat (first | apply Kd.zAf | apply Kd.zAe | apply Kd.zAh)); exact HO_5.out) hb); have n1_ := zA1.mk (Kd.zBg (by (with_reducible repeat (first | apply Kd.zAf | apply Kd.zAe | apply Kd.zAh)); exact HO_13.out) hb); have n2_ := zA1.mk (Kd.S_below (by (with_reducible repeat (first | apply Kd.zCh | apply Kd.zCg | apply Kd.S_drew)); exact HO_15.out) hb); have n3_ := zA1.mk (Kd.S_below (Kd.S_elderB (by (with_reducible repeat (first | apply Kd.zCh | apply Kd.zCg | apply Kd.S_drew)); exact HO_105.out) gb374 (Nat.le_of_eq hg.symm)) hb); have n4_ := zA1.mk (Kd.zBg (by (with_reducible repeat (first | apply Kd.zAf | apply Kd.zAe | apply Kd.zAh)); exact HO_355001.out) hb); have n5_ := zA1.mk (Kd.zBg (by (with_reducible repeat (first | apply Kd.zAf | apply Kd.zAe | apply Kd.zAh)); exact HL373_0.out) hb); have n6_ := zA1.mk (Kd.zBg (by (with_reducible repeat (first | apply Kd.zAf | apply Kd.zAe | apply Kd.zAh)); exact HL373_1.out) hb); have n7_ := zA1.mk (zAq (g := gb354) (o := .cells #[.int .i64 t350, .slice Ao21 t351.length co21] 28 (0, 0)) (by (with_reducible repeat (first | refine zA7 ?_ _ | refine zA8 ?_ | refine zA6 ?_ _)); exact BK354.out) hb); have n8_ := zA1.mk (Kd.zAx (by repeat (first | (with_reducible exact HR373_0.out) | (with_reducible refine Kd.zAj ?_ _) | (with_reducible refine Kd.zAr ?_ _) | (with_reducible refine Kd.zB9 ?_) | exact HR373_0.out)) hb); have n9_ := zA1.mk (Kd.zAx (by repeat (first | (with_reducible exact HR373_1.out) | (with_reducible refine Kd.zAj ?_ _) | (with_reducible refine Kd.zAr ?_ _) | (with_reducible refine Kd.zB9 ?_) | exact HR373_1.out)) hb); have n10_ := zA1.mk (zAg (by repeat (first | (with_reducible first | exact HB.out | apply zA2 | apply zA0 | apply zA3 | refine zA5 ?_ GE354.out) | exact HB.out)) hb); have n11_ := zA1.mk (hbox); have n12_ := zA1.mk ((by rw [hg]; exact (zAb (by repeat (first | (with_reducible first | exact HB.out | apply zA2 | apply zA0 | apply zA3 | refine zA5 ?_ GE354.out) | exact HB.out))) : w.heap.size ≤ gb374)); have n13_ := zA1.mk ((by rw [hg]; exact (zAb (by repeat (first | (with_reducible first | exact HB.out | apply zA2 | apply zA0 | apply zA3 | refine zA5 ?_ GE354.out) | exact HB.out))) : w.heap.size ≤ gb374)); have n14_ := zA1.mk ((by rw [hg]; exact Nat.ne_of_lt (zC7 (g := gb354) (o := .cells #[.int .i64 t350, .slice Ao21 t351.length co21] 28 (0, 0)) (by (with_reducible repeat (first | refine zA7 ?_ _ | refine zA8 ?_ | refine zA6 ?_ _)); exact BK354.out)) : gb354 ≠ gb374)); have n15_ := zA1.mk ((by rw [hg]; exact Nat.ne_of_gt (zC7 (g := gb354) (o := .cells #[.int .i64 t350, .slice Ao21 t351.length co21] 28 (0, 0)) (by (with_reducible repeat (first | refine zA7 ?_ _ | refine zA8 ?_ | refine zA6 ?_ _)); exact BK354.out)) : gb374 ≠ gb354)); clear HO_5; clear HO_13; clear HO_15; clear HO_105; clear HO_355001; clear HL373_0; clear HL373_1; clear BK354; clear HR373_0; clear HR373_1; clear HB; have HO_5 := n0_; have HO_13 := n1_; have HO_15 := n2_; have HO_105 := n3_; have HO_355001 := n4_; have HL373_0 := n5_; have HL373_1 := n6_; have BK354 := n7_; have HR373_0 := n8_; have HR373_1 := n9_; have HB := n10_; have BK374 := n11_; have GW374 := n12_; have GE374 := n13_; have NB354_374 := n14_; have NB374_354 := n15_; clear n0_ n1_ n2_ n3_ n4_ n5_ n6_ n7_ n8_ n9_ n10_ n11_ n12_ n13_ n14_ n15_; clear hb hbox hg; have hnb69 := NB374_354.out; have hnc69 := NB354_374.out; have hcz70_0 : w68.cell? ⟨gb374, 0, none⟩ = some (.slice none 0 0) := (zA9 BK374.out 0).trans rfl; have hcz70_1 : w68.cell? ⟨gb374, 1, none⟩ = some (.slice none 0 0) := (zA9 BK374.out 1).trans rfl; have hfz70_0 := zAd BK374.out 0; have hfz70_1 := zAd BK374.out 1) | (go_at_call 16; (with_reducible refine (zB8.calls k4 _ _ ((zBm t361 x107_4).f0) _ _ ((zBm t361 x107_4).f1) true _ ?side1 ?side2 ?side3 ?side4 A54.out).mono ?_); (case side1 => repeat (first | exact ((Kd.zAz (by (with_reducible repeat (first | apply Kd.zAf | apply Kd.zAe | apply Kd.zAh)); exact (Kd.zC0 (Kd.R_far (p := ⟨gb374, 1, none⟩) (Kd.R_far (p := ⟨gb374, 0, none⟩) (Kd.R_types HL373_0.out BK374.out (by decide)) (fun _ hk => hk.2) (.slice A373_0 ((zBm t361 x107_4).f0).length c373_0)) (fun _ hk => hk.2) (.slice A373_1 ((zBm t361 x107_4).f1).length c373_1)) (fun _ h_ => h_.1)))).2.2) | (with_reducible refine Kd.zAj ?_ _) | (with_reducible refine Kd.zAr ?_ _) | (with_reducible refine Kd.zB9 ?_))); (case side2 => exact HC373_0.out); (case side3 => repeat (first | exact ((Kd.zAz (by (with_reducible repeat (first | apply Kd.zAf | apply Kd.zAe | apply Kd.zAh)); exact (Kd.zC0 (Kd.R_far (p := ⟨gb374, 1, none⟩) (Kd.R_far (p := ⟨gb374, 0, none⟩) (Kd.R_types HL373_1.out BK374.out (by decide)) (fun _ hk => hk.2) (.slice A373_0 ((zBm t361 x107_4).f0).length c373_0)) (fun _ hk => hk.2) (.slice A373_1 ((zBm t361 x107_4).f1).length c373_1)) (fun _ h_ => h_.1)))).2.2) | (with_reducible refine Kd.zAj ?_ _) | (with_reducible refine Kd.zAr ?_ _) | (with_reducible refine Kd.zB9 ?_))); (case side4 => exact HC373_1.out); rintro e w' ⟨rfl, ⟨nd, rfl⟩⟩; obtain ⟨Ao71, co71, eo71⟩ := Kd.S_slice HO_15.out; subst eo71) | (go_at_call 17; (with_reducible refine (zAt.calls k4 _ _ t369 _ _ ((zBm t361 x107_4).f0) false _ ?side1 ?side2 ?side3 ?side4 A56.out).mono ?_); (case side1 => refine (Kd.S_reads' (e := 23) (base := w.heap.size) (ok := fun k_ => (some k_ ≠ (.slice Ao22 t345.length co22 : Value).ownBlock ∧ some k_ ≠ (v366 : Value).ownBlock)) (n := t369.length) (c := co71) ?_).2.2; exact (by (with_reducible repeat (first | apply Kd.zCh | apply Kd.zCg | apply Kd.S_drew)); exact (Kd.S_mono (Kd.S_far (p := ⟨gb374, 1, none⟩) (Kd.S_far (p := ⟨gb374, 0, none⟩) (Kd.S_types HO_15.out BK374.out (by decide)) (fun _ hk => hk.2) (.slice A373_0 ((zBm t361 x107_4).f0).length c373_0)) (fun _ hk => hk.2) (.slice A373_1 ((zBm t361 x107_4).f1).length c373_1)) (fun _ h_ => h_.1)))); (case side2 => exact (Kd.S_reads' HO_15.out).2.1); (case side3 => repeat (first | exact ((Kd.zAz (by (with_reducible repeat (first | apply Kd.zAf | apply Kd.zAe | apply Kd.zAh)); exact (Kd.zC0 (Kd.R_far (p := ⟨gb374, 1, none⟩) (Kd.R_far (p := ⟨gb374, 0, none⟩) (Kd.R_types HL373_0.out BK374.out (by decide)) (fun _ hk => hk.2) (.slice A373_0 ((zBm t361 x107_4).f0).length c373_0)) (fun _ hk => hk.2) (.slice A373_1 ((zBm t361 x107_4).f1).length c373_1)) (fun _ h_ => h_.1)))).2.2) | (with_reducible refine Kd.zAj ?_ _) | (with_reducible refine Kd.zAr ?_ _) | (with_reducible refine Kd.zB9 ?_))); (case side4 => exact HC373_0.out); rintro e w' ⟨rfl, ⟨nd, rfl⟩⟩))
                 go_ret
                 exact ⟨by first | rfl | (simp [zAp, zAo] <;> rfl) | (simp [*, zAp, zAo] <;> rfl), by repeat (first | (with_reducible first | exact HB.out | apply zA2 | apply zA0 | apply zA3 | refine zA5 ?_ GE354.out | refine zA5 ?_ GE374.out) | exact HB.out)⟩
               ·replace c55 := Bool.eq_false_iff.mpr c55
                subst c55
                have H1 : (some false) = some r := by rw [if_neg (show ¬ (false = true) by decide)] at H; exact H
                clear H
                have H := H1
                clear H1
                obtain rfl := Option.some.inj H
                have p373 : 0 ≤ (x107_4 : Int) := of_decide_eq_true (by first | (with_reducible assumption) | assumption)
                have q373 : x107_4 < (t361.length : Int) := of_decide_eq_true (by first | (with_reducible assumption) | assumption)
                obtain ⟨ad373, A373_0, c373_0, A373_1, c373_1, e373, hx373_0, hx373_1, hl373_0, hi373_0, hl373_1, hi373_1⟩ := at_T46 (Kd.S_reads' HO_105.out).2.2 x107_4 p373 q373
                cases e373
                obtain ⟨ce373, hce373, hMe373, hcc373⟩ := Kd.S_get HO_105.out z46 x107_4 p373 (by first | exact q373 | exact of_decide_eq_true (by first | (with_reducible assumption) | assumption) | (have e_ := (Kd.S_reads' HO_105.out).1; omega))
                obtain ⟨ve373_0, ve373_1, rfl, ge373_0, ge373_1⟩ := k46_openM hMe373
                have hv373_0 := hcc373 0 _ rfl
                rw [Nat.add_zero] at hv373_0
                replace hv373_0 := Option.some.inj (hv373_0.symm.trans hx373_0)
                rw [hv373_0] at ge373_0
                have HL373_0 := zA1.mk (show Kd.R (Kd.int .i64) 3 _ _ _ _ ((zBm t361 x107_4).f0) from ge373_0)
                clear hv373_0 ge373_0
                have hv373_1 := hcc373 1 _ rfl
                rw [add_field _ _ 1 (by omega)] at hv373_1
                replace hv373_1 := Option.some.inj (hv373_1.symm.trans hx373_1)
                rw [hv373_1] at ge373_1
                have HL373_1 := zA1.mk (show Kd.R (Kd.int .i64) 3 _ _ _ _ ((zBm t361 x107_4).f1) from ge373_1)
                clear hv373_1 ge373_1
                clear hcc373 hce373
                have HR373_0 := zA1.mk hi373_0
                have HC373_0 := zA1.mk hl373_0
                clear hi373_0 hl373_0
                have HR373_1 := zA1.mk hi373_1
                have HC373_1 := zA1.mk hl373_1
                clear hi373_1 hl373_1
                replace p373 := eq_true p373
                replace q373 := eq_true q373
                go_wp2_with (first | ((with_reducible refine zBk (N := 18) rfl ?_); (try (refine gate_guard (by rfl) ?_; dsimp only)); refine zBl ?hg (N := 18) ?hd (cs := #[.slice none 0 0, .slice none 0 0]) (t := 46) ?hr ?_; (case hd => rfl); (case hg => rfl); (case hr => first | (go_simp; done) | (go_simp; rfl)); intro gb374 hg w72 hbox hb; have n0_ := zA1.mk (Kd.zBg (by (with_reducible repeat (first | apply Kd.zAf | apply Kd.zAe | apply Kd.zAh)); exact HO_5.out) hb); have n1_ := zA1.mk (Kd.zBg (by (with_reducible repeat (first | apply Kd.zAf | apply Kd.zAe | apply Kd.zAh)); exact HO_13.out) hb); have n2_ := zA1.mk (Kd.S_below (by (with_reducible repeat (first | apply Kd.zCh | apply Kd.zCg | apply Kd.S_drew)); exact HO_15.out) hb); have n3_ := zA1.mk (Kd.S_below (Kd.S_elderB (by (with_reducible repeat (first | apply Kd.zCh | apply Kd.zCg | apply Kd.S_drew)); exact HO_105.out) gb374 (Nat.le_of_eq hg.symm)) hb); have n4_ := zA1.mk (Kd.zBg (by (with_reducible repeat (first | apply Kd.zAf | apply Kd.zAe | apply Kd.zAh)); exact HO_355001.out) hb); have n5_ := zA1.mk (Kd.zBg (by (with_reducible repeat (first | apply Kd.zAf | apply Kd.zAe | apply Kd.zAh)); exact HL373_0.out) hb); have n6_ := zA1.mk (Kd.zBg (by (with_reducible repeat (first | apply Kd.zAf | apply Kd.zAe | apply Kd.zAh)); exact HL373_1.out) hb); have n7_ := zA1.mk (zAq (g := gb354) (o := .cells #[.int .i64 t350, .slice Ao21 t351.length co21] 28 (0, 0)) (by (with_reducible repeat (first | refine zA7 ?_ _ | refine zA8 ?_ | refine zA6 ?_ _)); exact BK354.out) hb); have n8_ := zA1.mk (Kd.zAx (by repeat (first | (with_reducible exact HR373_0.out) | (with_reducible refine Kd.zAj ?_ _) | (with_reducible refine Kd.zAr ?_ _) | (with_reducible refine Kd.zB9 ?_) | exact HR373_0.out)) hb); have n9_ := zA1.mk (Kd.zAx (by repeat (first | (with_reducible exact HR373_1.out) | (with_reducible refine Kd.zAj ?_ _) | (with_reducible refine Kd.zAr ?_ _) | (with_reducible refine Kd.zB9 ?_) | exact HR373_1.out)) hb); have n10_ := zA1.mk (zAg (by repeat (first | (with_reducible first | exact HB.out | apply zA2 | apply zA0 | apply zA3 | refine zA5 ?_ GE354.out) | exact HB.out)) hb); have n11_ := zA1.mk (hbox); have n12_ := zA1.mk ((by rw [hg]; exact (zAb (by repeat (first | (with_reducible first | exact HB.out | apply zA2 | apply zA0 | apply zA3 | refine zA5 ?_ GE354.out) | exact HB.out))) : w.heap.size ≤ gb374)); have n13_ := zA1.mk ((by rw [hg]; exact (zAb (by repeat (first | (with_reducible first | exact HB.out | apply zA2 | apply zA0 | apply zA3 | refine zA5 ?_ GE354.out) | exact HB.out))) : w.heap.size ≤ gb374)); have n14_ := zA1.mk ((by rw [hg]; exact Nat.ne_of_lt (zC7 (g := gb354) (o := .cells #[.int .i64 t350, .slice Ao21 t351.length co21] 28 (0, 0)) (by (with_reducible repeat (first | refine zA7 ?_ _ | refine zA8 ?_ | refine zA6 ?_ _)); exact BK354.out)) : gb354 ≠ gb374)); have n15_ := zA1.mk ((by rw [hg]; exact Nat.ne_of_gt (zC7 (g := gb354) (o := .cells #[.int .i64 t350, .slice Ao21 t351.length co21] 28 (0, 0)) (by (with_reducible repeat (first | refine zA7 ?_ _ | refine zA8 ?_ | refine zA6 ?_ _)); exact BK354.out)) : gb374 ≠ gb354)); clear HO_5; clear HO_13; clear HO_15; clear HO_105; clear HO_355001; clear HL373_0; clear HL373_1; clear BK354; clear HR373_0; clear HR373_1; clear HB; have HO_5 := n0_; have HO_13 := n1_; have HO_15 := n2_; have HO_105 := n3_; have HO_355001 := n4_; have HL373_0 := n5_; have HL373_1 := n6_; have BK354 := n7_; have HR373_0 := n8_; have HR373_1 := n9_; have HB := n10_; have BK374 := n11_; have GW374 := n12_; have GE374 := n13_; have NB354_374 := n14_; have NB374_354 := n15_; clear n0_ n1_ n2_ n3_ n4_ n5_ n6_ n7_ n8_ n9_ n10_ n11_ n12_ n13_ n14_ n15_; clear hb hbox hg; have hnb73 := NB374_354.out; have hnc73 := NB354_374.out; have hcz74_0 : w72.cell? ⟨gb374, 0, none⟩ = some (.slice none 0 0) := (zA9 BK374.out 0).trans rfl; have hcz74_1 : w72.cell? ⟨gb374, 1, none⟩ = some (.slice none 0 0) := (zA9 BK374.out 1).trans rfl; have hfz74_0 := zAd BK374.out 0; have hfz74_1 := zAd BK374.out 1) | (go_at_call 16; (with_reducible refine (zB8.calls k4 _ _ ((zBm t361 x107_4).f0) _ _ ((zBm t361 x107_4).f1) false _ ?side1 ?side2 ?side3 ?side4 A54.out).mono ?_); (case side1 => repeat (first | exact ((Kd.zAz (by (with_reducible repeat (first | apply Kd.zAf | apply Kd.zAe | apply Kd.zAh)); exact (Kd.zC0 (Kd.R_far (p := ⟨gb374, 1, none⟩) (Kd.R_far (p := ⟨gb374, 0, none⟩) (Kd.R_types HL373_0.out BK374.out (by decide)) (fun _ hk => hk.2) (.slice A373_0 ((zBm t361 x107_4).f0).length c373_0)) (fun _ hk => hk.2) (.slice A373_1 ((zBm t361 x107_4).f1).length c373_1)) (fun _ h_ => h_.1)))).2.2) | (with_reducible refine Kd.zAj ?_ _) | (with_reducible refine Kd.zAr ?_ _) | (with_reducible refine Kd.zB9 ?_))); (case side2 => exact HC373_0.out); (case side3 => repeat (first | exact ((Kd.zAz (by (with_reducible repeat (first | apply Kd.zAf | apply Kd.zAe | apply Kd.zAh)); exact (Kd.zC0 (Kd.R_far (p := ⟨gb374, 1, none⟩) (Kd.R_far (p := ⟨gb374, 0, none⟩) (Kd.R_types HL373_1.out BK374.out (by decide)) (fun _ hk => hk.2) (.slice A373_0 ((zBm t361 x107_4).f0).length c373_0)) (fun _ hk => hk.2) (.slice A373_1 ((zBm t361 x107_4).f1).length c373_1)) (fun _ h_ => h_.1)))).2.2) | (with_reducible refine Kd.zAj ?_ _) | (with_reducible refine Kd.zAr ?_ _) | (with_reducible refine Kd.zB9 ?_))); (case side4 => exact HC373_1.out); rintro e w' ⟨rfl, ⟨nd, rfl⟩⟩))
                go_ret
                exact ⟨by first | rfl | (simp [zAp, zAo] <;> rfl) | (simp [*, zAp, zAo] <;> rfl), by repeat (first | (with_reducible first | exact HB.out | apply zA2 | apply zA0 | apply zA3 | refine zA5 ?_ GE354.out | refine zA5 ?_ GE374.out) | exact HB.out)⟩
              ·rw [if_neg c53] at H
               have c53b0 : ((wrap64 ((((zBm t361 x107_4).f0).length : Int) + (((zBm t361 x107_4).f1).length : Int))) == (t345.length : Int)) = false := beq_eq_false_iff_ne.mpr c53
               have c53b1 : ((wrap64 ((((zBm t361 x107_4).f0).length : Int) + (((zBm t361 x107_4).f1).length : Int))) != (t345.length : Int)) = true := bne_iff_ne.mpr c53
               obtain rfl := Option.some.inj H
               have p373 : 0 ≤ (x107_4 : Int) := of_decide_eq_true (by first | (with_reducible assumption) | assumption)
               have q373 : x107_4 < (t361.length : Int) := of_decide_eq_true (by first | (with_reducible assumption) | assumption)
               obtain ⟨ad373, A373_0, c373_0, A373_1, c373_1, e373, hx373_0, hx373_1, hl373_0, hi373_0, hl373_1, hi373_1⟩ := at_T46 (Kd.S_reads' HO_105.out).2.2 x107_4 p373 q373
               cases e373
               obtain ⟨ce373, hce373, hMe373, hcc373⟩ := Kd.S_get HO_105.out z46 x107_4 p373 (by first | exact q373 | exact of_decide_eq_true (by first | (with_reducible assumption) | assumption) | (have e_ := (Kd.S_reads' HO_105.out).1; omega))
               obtain ⟨ve373_0, ve373_1, rfl, ge373_0, ge373_1⟩ := k46_openM hMe373
               have hv373_0 := hcc373 0 _ rfl
               rw [Nat.add_zero] at hv373_0
               replace hv373_0 := Option.some.inj (hv373_0.symm.trans hx373_0)
               rw [hv373_0] at ge373_0
               have HL373_0 := zA1.mk (show Kd.R (Kd.int .i64) 3 _ _ _ _ ((zBm t361 x107_4).f0) from ge373_0)
               clear hv373_0 ge373_0
               have hv373_1 := hcc373 1 _ rfl
               rw [add_field _ _ 1 (by omega)] at hv373_1
               replace hv373_1 := Option.some.inj (hv373_1.symm.trans hx373_1)
               rw [hv373_1] at ge373_1
               have HL373_1 := zA1.mk (show Kd.R (Kd.int .i64) 3 _ _ _ _ ((zBm t361 x107_4).f1) from ge373_1)
               clear hv373_1 ge373_1
               clear hcc373 hce373
               have HR373_0 := zA1.mk hi373_0
               have HC373_0 := zA1.mk hl373_0
               clear hi373_0 hl373_0
               have HR373_1 := zA1.mk hi373_1
               have HC373_1 := zA1.mk hl373_1
               clear hi373_1 hl373_1
               replace p373 := eq_true p373
               replace q373 := eq_true q373
               go_wp2_with (first | ((with_reducible refine zBk (N := 18) rfl ?_); (try (refine gate_guard (by rfl) ?_; dsimp only)); refine zBl ?hg (N := 18) ?hd (cs := #[.slice none 0 0, .slice none 0 0]) (t := 46) ?hr ?_; (case hd => rfl); (case hg => rfl); (case hr => first | (go_simp; done) | (go_simp; rfl)); intro gb374 hg w75 hbox hb; have n0_ := zA1.mk (Kd.zBg (by (with_reducible repeat (first | apply Kd.zAf | apply Kd.zAe | apply Kd.zAh)); exact HO_5.out) hb); have n1_ := zA1.mk (Kd.zBg (by (with_reducible repeat (first | apply Kd.zAf | apply Kd.zAe | apply Kd.zAh)); exact HO_13.out) hb); have n2_ := zA1.mk (Kd.S_below (by (with_reducible repeat (first | apply Kd.zCh | apply Kd.zCg | apply Kd.S_drew)); exact HO_15.out) hb); have n3_ := zA1.mk (Kd.S_below (Kd.S_elderB (by (with_reducible repeat (first | apply Kd.zCh | apply Kd.zCg | apply Kd.S_drew)); exact HO_105.out) gb374 (Nat.le_of_eq hg.symm)) hb); have n4_ := zA1.mk (Kd.zBg (by (with_reducible repeat (first | apply Kd.zAf | apply Kd.zAe | apply Kd.zAh)); exact HO_355001.out) hb); have n5_ := zA1.mk (Kd.zBg (by (with_reducible repeat (first | apply Kd.zAf | apply Kd.zAe | apply Kd.zAh)); exact HL373_0.out) hb); have n6_ := zA1.mk (Kd.zBg (by (with_reducible repeat (first | apply Kd.zAf | apply Kd.zAe | apply Kd.zAh)); exact HL373_1.out) hb); have n7_ := zA1.mk (zAq (g := gb354) (o := .cells #[.int .i64 t350, .slice Ao21 t351.length co21] 28 (0, 0)) (by (with_reducible repeat (first | refine zA7 ?_ _ | refine zA8 ?_ | refine zA6 ?_ _)); exact BK354.out) hb); have n8_ := zA1.mk (Kd.zAx (by repeat (first | (with_reducible exact HR373_0.out) | (with_reducible refine Kd.zAj ?_ _) | (with_reducible refine Kd.zAr ?_ _) | (with_reducible refine Kd.zB9 ?_) | exact HR373_0.out)) hb); have n9_ := zA1.mk (Kd.zAx (by repeat (first | (with_reducible exact HR373_1.out) | (with_reducible refine Kd.zAj ?_ _) | (with_reducible refine Kd.zAr ?_ _) | (with_reducible refine Kd.zB9 ?_) | exact HR373_1.out)) hb); have n10_ := zA1.mk (zAg (by repeat (first | (with_reducible first | exact HB.out | apply zA2 | apply zA0 | apply zA3 | refine zA5 ?_ GE354.out) | exact HB.out)) hb); have n11_ := zA1.mk (hbox); have n12_ := zA1.mk ((by rw [hg]; exact (zAb (by repeat (first | (with_reducible first | exact HB.out | apply zA2 | apply zA0 | apply zA3 | refine zA5 ?_ GE354.out) | exact HB.out))) : w.heap.size ≤ gb374)); have n13_ := zA1.mk ((by rw [hg]; exact (zAb (by repeat (first | (with_reducible first | exact HB.out | apply zA2 | apply zA0 | apply zA3 | refine zA5 ?_ GE354.out) | exact HB.out))) : w.heap.size ≤ gb374)); have n14_ := zA1.mk ((by rw [hg]; exact Nat.ne_of_lt (zC7 (g := gb354) (o := .cells #[.int .i64 t350, .slice Ao21 t351.length co21] 28 (0, 0)) (by (with_reducible repeat (first | refine zA7 ?_ _ | refine zA8 ?_ | refine zA6 ?_ _)); exact BK354.out)) : gb354 ≠ gb374)); have n15_ := zA1.mk ((by rw [hg]; exact Nat.ne_of_gt (zC7 (g := gb354) (o := .cells #[.int .i64 t350, .slice Ao21 t351.length co21] 28 (0, 0)) (by (with_reducible repeat (first | refine zA7 ?_ _ | refine zA8 ?_ | refine zA6 ?_ _)); exact BK354.out)) : gb374 ≠ gb354)); clear HO_5; clear HO_13; clear HO_15; clear HO_105; clear HO_355001; clear HL373_0; clear HL373_1; clear BK354; clear HR373_0; clear HR373_1; clear HB; have HO_5 := n0_; have HO_13 := n1_; have HO_15 := n2_; have HO_105 := n3_; have HO_355001 := n4_; have HL373_0 := n5_; have HL373_1 := n6_; have BK354 := n7_; have HR373_0 := n8_; have HR373_1 := n9_; have HB := n10_; have BK374 := n11_; have GW374 := n12_; have GE374 := n13_; have NB354_374 := n14_; have NB374_354 := n15_; clear n0_ n1_ n2_ n3_ n4_ n5_ n6_ n7_ n8_ n9_ n10_ n11_ n12_ n13_ n14_ n15_; clear hb hbox hg; have hnb76 := NB374_354.out; have hnc76 := NB354_374.out; have hcz77_0 : w75.cell? ⟨gb374, 0, none⟩ = some (.slice none 0 0) := (zA9 BK374.out 0).trans rfl; have hcz77_1 : w75.cell? ⟨gb374, 1, none⟩ = some (.slice none 0 0) := (zA9 BK374.out 1).trans rfl; have hfz77_0 := zAd BK374.out 0; have hfz77_1 := zAd BK374.out 1))
               go_ret
               exact ⟨by first | rfl | (simp [zAp, zAo] <;> rfl) | (simp [*, zAp, zAo] <;> rfl), by repeat (first | (with_reducible first | exact HB.out | apply zA2 | apply zA0 | apply zA3 | refine zA5 ?_ GE354.out | refine zA5 ?_ GE374.out) | exact HB.out)⟩
             ·rw [if_neg c50] at H
              have c50b0 : decide (x107_4 < (t361.length : Int)) = false := decide_eq_false c50
              clear c50
              have H' := zA1.mk H
              clear H
              go_wp2
              go_loopg [146] k4 (fun kq v146 w' => ∃ (x146_5 : Int), v146 = .int .i64 x146_5 ∧ zA1 (zA4.l1 kq t345 t365 t345 (t345.length : Int) x146_5 t350 t351 = some r) ∧ zA1 (kq ≤ k4) ∧ zA1 (Kd.R (Kd.int .i64) 3 w' w.heap.size (fun k_ => some k_ ≠ (v366 : Value).ownBlock) (.slice Ao22 t345.length co22) t345) ∧ zA1 (Kd.R (Kd.int .i64) 3 w' w.heap.size (fun k_ => some k_ ≠ ((.slice Ao22 t345.length co22) : Value).ownBlock ∧ some k_ ≠ ((.slice Ao22 t345.length co22) : Value).ownBlock) v366 t365) ∧ zA1 (Kd.R (Kd.int .i64) 3 w' w.heap.size (fun k_ => some k_ ≠ (v366 : Value).ownBlock) (.slice Ao22 t345.length co22) t345) ∧ zA1 (Kd.R k58 58 w' w.heap.size (fun _ => True) (.slice Ao21 t351.length co21) t351) ∧ zA1 (w'.heap[gb354]? = some (.cells #[.int .i64 t350, (.slice Ao21 t351.length co21)] 28 (0, 0))) ∧ zA1 (Below w.heap.size w w'))
              case atStart => exact ⟨(0), (by first | rfl | (simp; done) | (simp [*]; done)), H', ⟨Nat.le_refl _⟩, ⟨by (with_reducible repeat (first | apply Kd.zAf | apply Kd.zAe | apply Kd.zAh)); exact HO_5.out⟩, ⟨by (with_reducible repeat (first | apply Kd.zAf | apply Kd.zAe | apply Kd.zAh)); exact Kd.zC0 HO_13.out (fun _ hk => ⟨hk, hk⟩)⟩, ⟨by (with_reducible repeat (first | apply Kd.zAf | apply Kd.zAe | apply Kd.zAh)); exact HO_5.out⟩, ⟨by (with_reducible repeat (first | apply Kd.zAf | apply Kd.zAe | apply Kd.zAh)); exact HO_355001.out⟩, ⟨by (with_reducible repeat (first | refine zA7 ?_ _ | refine zA8 ?_ | refine zA6 ?_ _)); exact BK354.out⟩, ⟨by repeat (first | (with_reducible first | exact HB.out | apply zA2 | apply zA0 | apply zA3 | refine zA5 ?_ GE354.out) | exact HB.out)⟩⟩
              case round =>
               clear H'
               try clear c1
               try clear c2
               try clear p2
               try clear c3
               try clear p3
               try clear q3
               try clear hx3
               try clear c4
               try clear c5
               try clear c6
               try clear p6
               try clear c7
               try clear c8
               try clear c9
               try clear c11
               try clear c12
               try clear c13
               try clear c14
               try clear c15
               try clear c26
               try clear c26b0
               try clear c26b1
               try clear c27
               try clear c27b0
               try clear c27b1
               try clear c29
               try clear c30
               try clear c37
               try clear p37
               try clear q37
               try clear hx37
               try clear c41
               try clear c41b0
               try clear c41b1
               try clear c42
               try clear c42b0
               try clear c42b1
               try clear c43
               try clear c43b0
               try clear c43b1
               try clear c44
               try clear c44b0
               try clear c44b1
               try clear c44b2
               try clear c48
               try clear c50
               try clear c50b0
               try clear c51
               try clear c51b0
               try clear c52
               try clear c52b0
               try clear c53
               try clear c53b0
               try clear c53b1
               try clear c55
               try clear c57
               try clear c59
               try clear c61
               try clear p64
               try clear c65
               try clear c69
               try clear c73
               try clear c76
               try clear hcz20_0
               try clear hcz20_1
               try clear hcz24_0
               try clear hcz24_1
               try clear hcz35_0
               try clear hcz35_1
               try clear hcz37_0
               try clear hcz37_1
               try clear hcz39_0
               try clear hcz39_1
               try clear hcz62_0
               try clear hcz62_1
               try clear hcz66_0
               try clear hcz66_1
               try clear hcz70_0
               try clear hcz70_1
               try clear hcz74_0
               try clear hcz74_1
               try clear hcz77_0
               try clear hcz77_1
               try clear hfz20_0
               try clear hfz20_1
               try clear hfz24_0
               try clear hfz24_1
               try clear hfz35_0
               try clear hfz35_1
               try clear hfz37_0
               try clear hfz37_1
               try clear hfz39_0
               try clear hfz39_1
               try clear hfz62_0
               try clear hfz62_1
               try clear hfz66_0
               try clear hfz66_1
               try clear hfz70_0
               try clear hfz70_1
               try clear hfz74_0
               try clear hfz74_1
               try clear hfz77_0
               try clear hfz77_1
               try clear hx373_0
               try clear hx373_1
               try clear p2
               try clear p373
               try clear q373
               obtain ⟨x146_5, rfl, HA, HK5, HO_5, HO_13, HO_144, HO_355001, BK354, HB⟩ := hrel
               cases gk with
               | zero => exact absurd HA.out (by simp [zA4.l1])
               | succ k5 =>
                have H := HA.out
                clear HA
                simp only [zA4.l1] at H
                by_cases c78 : x146_5 < (t345.length : Int)
                ·rw [if_pos c78] at H
                 have c78b0 : decide (x146_5 < (t345.length : Int)) = true := decide_eq_true c78
                 clear c78
                 by_cases c79 : 0 ≤ x146_5
                 rotate_left
                 ·rw [if_neg c79] at H
                  exact absurd H (by simp)
                 rw [if_pos c79] at H
                 have c79b0 : decide (0 ≤ x146_5) = true := decide_eq_true c79
                 clear c79
                 by_cases c80 : x146_5 < (t345.length : Int)
                 rotate_left
                 ·rw [if_neg c80] at H
                  exact absurd H (by simp)
                 rw [if_pos c80] at H
                 have c80b0 : decide (x146_5 < (t345.length : Int)) = true := decide_eq_true c80
                 clear c80
                 obtain ⟨y379, hy379⟩ : ∃ y_ : List Int, y_ = (([rd t345 x146_5] : List Int)) := ⟨_, rfl⟩
                 replace H : ((zAv.f k5 t345 y379).bind fun t382 => ((zB3.f k5 t350 t351 t382).bind fun bt385 => (if bt385.2 = 0 then ((zAs.f k5 t365 (rd t345 x146_5)).bind fun t389 => (if (t389 != (decide ((bt385.1.length : Int) > 1))) = true then (some false) else (zA4.l1 k5 t345 t365 t345 (t345.length : Int) (wrap64 (x146_5 + 1)) t350 t351))) else (some false)))) = some r := by first | (rw [hy379]; with_reducible exact H) | (have H2_ := (Option.bind_some _ _).symm.trans H; rw [hy379]; with_reducible exact H2_) | (have H2_ := (Option.bind_some _ _).symm.trans H; with_reducible exact H2_) | with_reducible exact H | (rw [hy379]; exact H) | exact H
                 have Ny379 := zA1.mk hy379
                 clear hy379
                 replace H := Option.bind_eq_some_iff.mp H
                 obtain ⟨t382, A810, H⟩ := H
                 replace H : ((zB3.f k5 t350 t351 t382).bind fun bt385 => (if bt385.2 = 0 then ((zAs.f k5 t365 (rd t345 x146_5)).bind fun t389 => (if (t389 != (decide ((bt385.1.length : Int) > 1))) = true then (some false) else (zA4.l1 k5 t345 t365 t345 (t345.length : Int) (wrap64 (x146_5 + 1)) t350 t351))) else (some false))) = some r := H
                 have A81 := zA1.mk A810
                 clear A810
                 replace H := Option.bind_eq_some_iff.mp H
                 obtain ⟨⟨t385, t388⟩, A820, H⟩ := H
                 replace H : (if t388 = 0 then ((zAs.f k5 t365 (rd t345 x146_5)).bind fun t389 => (if (t389 != (decide ((t385.length : Int) > 1))) = true then (some false) else (zA4.l1 k5 t345 t365 t345 (t345.length : Int) (wrap64 (x146_5 + 1)) t350 t351))) else (some false)) = some r := H
                 have A82 := zA1.mk A820
                 clear A820
                 by_cases c83 : t388 = 0
                 ·rw [if_pos c83] at H
                  have c83b0 : (t388 == 0) = true := beq_iff_eq.mpr c83
                  have c83b1 : (t388 != 0) = false := bne_eq_false_iff_eq.mpr c83
                  clear c83
                  replace H := Option.bind_eq_some_iff.mp H
                  obtain ⟨t389, A840, H⟩ := H
                  replace H : (if (t389 != (decide ((t385.length : Int) > 1))) = true then (some false) else (zA4.l1 k5 t345 t365 t345 (t345.length : Int) (wrap64 (x146_5 + 1)) t350 t351)) = some r := H
                  have A84 := zA1.mk A840
                  clear A840
                  by_cases c85 : (t389 != (decide ((t385.length : Int) > 1))) = true
                  ·rw [if_pos c85] at H
                   have c85b0 : (t389 != (decide ((t385.length : Int) > 1))) = true := c85
                   (try (have c85b1 : decide (t389 = (decide ((t385.length : Int) > 1))) = false := by simpa using c85))
                   (try (have c85b2 : (t389 == (decide ((t385.length : Int) > 1))) = false := by simpa using c85))
                   (try (have c85b3 : ¬ (t389 = (decide ((t385.length : Int) > 1))) := by simpa using c85))
                   clear c85
                   obtain rfl := Option.some.inj H
                   have p378 : 0 ≤ (x146_5 : Int) := of_decide_eq_true (by first | (with_reducible assumption) | assumption)
                   have q378 : x146_5 < (t345.length : Int) := of_decide_eq_true (by first | (with_reducible assumption) | assumption)
                   obtain ⟨ad378, e378, hx378_0⟩ := Kd.zCb (Kd.zAz HO_144.out).2.2 x146_5 p378 q378
                   cases e378
                   replace p378 := eq_true p378
                   replace q378 := eq_true q378
                   go_wp2_with (first | ((with_reducible refine zBk (N := 152) rfl ?_); (try (refine gate_guard (by rfl) ?_; dsimp only)); refine Kd.R_lit (Kd.int .i64) _ 3 ?hg (N := 152) ?hd (xs := ([rd t345 x146_5] : List Int)) (inner := [.int .i64 (rd t345 x146_5)]) (ok := fun _ => True) (okp := fun _ => True) ?hr ?hp (fun _ hk => hk) trivial (Below.refl _ _) (Nat.le_refl _) (by simp) ?_; (case hd => rfl); (case hg => rfl); (case hr => first | (go_simp; done) | (go_simp; rfl)); (case hp => exact (Reps.one (show Kd.M (Kd.int .i64) _ _ _ (rd t345 x146_5) [.int .i64 (rd t345 x146_5)] from rfl) (Reps.none _ _))); intro v380 w86 ho87 hb hg_ hnew_; clear hg_ hnew_; (first | rw [← Ny379.out] at ho87 | (simp only [Int.reduceToNat] at ho87; rw [← Ny379.out] at ho87)); have n0_ := zA1.mk (Kd.R_elder' (by (with_reducible repeat (first | apply Kd.zAf | apply Kd.zAe | apply Kd.zAh)); exact HO_5.out) (Kd.R_base ho87) hb); have n1_ := zA1.mk (Kd.R_elder' (by (with_reducible repeat (first | apply Kd.zAf | apply Kd.zAe | apply Kd.zAh)); exact HO_13.out) (Kd.R_base ho87) hb); have n2_ := zA1.mk (Kd.R_elder' (by (with_reducible repeat (first | apply Kd.zAf | apply Kd.zAe | apply Kd.zAh)); exact HO_144.out) (Kd.R_base ho87) hb); have n3_ := zA1.mk (Kd.zBg (by (with_reducible repeat (first | apply Kd.zAf | apply Kd.zAe | apply Kd.zAh)); exact HO_355001.out) hb); have n4_ := zA1.mk (Kd.R_lower (Kd.R_new' (Kd.R_new' (Kd.R_new' ho87 (Kd.R_lt (by (with_reducible repeat (first | apply Kd.zAf | apply Kd.zAe | apply Kd.zAh)); exact HO_5.out))) (Kd.R_lt (by (with_reducible repeat (first | apply Kd.zAf | apply Kd.zAe | apply Kd.zAh)); exact HO_13.out))) (Kd.R_lt (by (with_reducible repeat (first | apply Kd.zAf | apply Kd.zAe | apply Kd.zAh)); exact HO_144.out))) (zAb (by repeat (first | (with_reducible first | exact HB.out | apply zA2 | apply zA0 | apply zA3 | refine zA5 ?_ GE354.out) | exact HB.out)))); have n5_ := zA1.mk (zAq (g := gb354) (o := .cells #[.int .i64 t350, .slice Ao21 t351.length co21] 28 (0, 0)) (by (with_reducible repeat (first | refine zA7 ?_ _ | refine zA8 ?_ | refine zA6 ?_ _)); exact BK354.out) hb); have n6_ := zA1.mk (zAg (by repeat (first | (with_reducible first | exact HB.out | apply zA2 | apply zA0 | apply zA3 | refine zA5 ?_ GE354.out) | exact HB.out)) hb); clear HO_5; clear HO_13; clear HO_144; clear HO_355001; clear BK354; clear HB; have HO_5 := n0_; have HO_13 := n1_; have HO_144 := n2_; have HO_355001 := n3_; have HO381 := n4_; have BK354 := n5_; have HB := n6_; clear n0_ n1_ n2_ n3_ n4_ n5_ n6_; clear hb ho87; obtain ⟨Ao88, co88, eo88⟩ := Kd.zC3 HO381.out; subst eo88) | ((with_reducible refine zAy (f := 18) rfl ?_); refine zBz (some 153) rfl rfl Tryz.func18 (by kernel_rfl) rfl #[.slice (some ad378) t345.length co22, .slice Ao88 y379.length co88] rfl (by (try simp only [List.map_toArray, List.map_cons, List.map_nil]); first | done | rfl | (simp only [List.length_drop, List.length_take]; rfl)) ?_; (with_reducible refine (zAv.calls k5 _ _ t345 _ _ y379 t382 _ ?side1 ?side2 ?side3 ?side4 A81.out).mono ?_); (case side1 => repeat (first | exact (Kd.zAz HO_5.out).2.2 | (with_reducible refine Kd.zAj ?_ _) | (with_reducible refine Kd.zAr ?_ _) | (with_reducible refine Kd.zB9 ?_))); (case side2 => exact (Kd.zAz HO_5.out).2.1); (case side3 => repeat (first | exact (Kd.zAz HO381.out).2.2 | (with_reducible refine Kd.zAj ?_ _) | (with_reducible refine Kd.zAr ?_ _) | (with_reducible refine Kd.zB9 ?_))); (case side4 => exact (Kd.zAz HO381.out).2.1); rintro e w89 ⟨v383, rfl, ho0, hb⟩; refine ⟨_, rfl, ?_⟩; have n0_ := zA1.mk (Kd.R_elder' (by (with_reducible repeat (first | apply Kd.zAf | apply Kd.zAe | apply Kd.zAh)); exact HO_5.out) (Kd.R_base ho0) hb); have n1_ := zA1.mk (Kd.R_elder' (by (with_reducible repeat (first | apply Kd.zAf | apply Kd.zAe | apply Kd.zAh)); exact HO_13.out) (Kd.R_base ho0) hb); have n2_ := zA1.mk (Kd.R_elder' (by (with_reducible repeat (first | apply Kd.zAf | apply Kd.zAe | apply Kd.zAh)); exact HO_144.out) (Kd.R_base ho0) hb); have n3_ := zA1.mk (Kd.zBg (by (with_reducible repeat (first | apply Kd.zAf | apply Kd.zAe | apply Kd.zAh)); exact HO_355001.out) hb); have n4_ := zA1.mk (Kd.R_elder' (by (with_reducible repeat (first | apply Kd.zAf | apply Kd.zAe | apply Kd.zAh)); exact HO381.out) (Kd.R_base ho0) hb); have n5_ := zA1.mk (Kd.R_lower (Kd.R_new' (Kd.R_new' (Kd.R_new' (Kd.R_new' ho0 (Kd.R_lt (by (with_reducible repeat (first | apply Kd.zAf | apply Kd.zAe | apply Kd.zAh)); exact HO_5.out))) (Kd.R_lt (by (with_reducible repeat (first | apply Kd.zAf | apply Kd.zAe | apply Kd.zAh)); exact HO_13.out))) (Kd.R_lt (by (with_reducible repeat (first | apply Kd.zAf | apply Kd.zAe | apply Kd.zAh)); exact HO_144.out))) (Kd.R_lt (by (with_reducible repeat (first | apply Kd.zAf | apply Kd.zAe | apply Kd.zAh)); exact HO381.out))) (zAb (by repeat (first | (with_reducible first | exact HB.out | apply zA2 | apply zA0 | apply zA3 | refine zA5 ?_ GE354.out) | exact HB.out)))); have n6_ := zA1.mk (zAq (g := gb354) (o := .cells #[.int .i64 t350, .slice Ao21 t351.length co21] 28 (0, 0)) (by (with_reducible repeat (first | refine zA7 ?_ _ | refine zA8 ?_ | refine zA6 ?_ _)); exact BK354.out) hb); have n7_ := zA1.mk (zAg (by repeat (first | (with_reducible first | exact HB.out | apply zA2 | apply zA0 | apply zA3 | refine zA5 ?_ GE354.out) | exact HB.out)) hb); clear HO_5; clear HO_13; clear HO_144; clear HO_355001; clear HO381; clear BK354; clear HB; have HO_5 := n0_; have HO_13 := n1_; have HO_144 := n2_; have HO_355001 := n3_; have HO381 := n4_; have HO384 := n5_; have BK354 := n6_; have HB := n7_; clear n0_ n1_ n2_ n3_ n4_ n5_ n6_ n7_; (try clear hb); (try clear hb2); (try clear hk); (try clear hi); (try clear ho0); have hcz90_0 : w89.cell? ⟨gb354, 0, none⟩ = some (.int .i64 t350) := (zA9 BK354.out 0).trans rfl; have hcz90_1 : w89.cell? ⟨gb354, 1, none⟩ = some (.slice Ao21 t351.length co21) := (zA9 BK354.out 1).trans rfl; have hfz90_0 := zAd BK354.out 0; have hfz90_1 := zAd BK354.out 1; obtain ⟨Ao91, co91, eo91⟩ := Kd.zC3 HO384.out; subst eo91) | ((with_reducible refine zAy (f := 13) rfl ?_); refine zBz (some 157) rfl rfl Tryz.func13 (by kernel_rfl) rfl #[.agg #[.int .i64 t350, .slice Ao21 t351.length co21], .slice Ao91 t382.length co91] rfl (by (try simp only [List.map_toArray, List.map_cons, List.map_nil]); first | done | rfl | (simp only [List.length_drop, List.length_take]; rfl)) ?_; (with_reducible refine (zB3.calls k5 t350 _ _ t351 _ _ t382 t385 t388 _ ?side1 ?side2 ?side3 ?side4 ?side5 A82.out).mono ?_); (case side1 => repeat (first | exact (Kd.zAz HO_355001.out).2.2 | (with_reducible refine Kd.zAj ?_ _) | (with_reducible refine Kd.zAr ?_ _) | (with_reducible refine Kd.zB9 ?_))); (case side2 => exact (Kd.zAz HO_355001.out).2.1); (case side3 => repeat (first | exact (Kd.zAz HO384.out).2.2 | (with_reducible refine Kd.zAj ?_ _) | (with_reducible refine Kd.zAr ?_ _) | (with_reducible refine Kd.zB9 ?_))); (case side4 => exact (Kd.zAz HO384.out).2.1); (case side5 => repeat (first | exact (Kd.zAx HG.out HB.out) | (with_reducible refine Kd.zAj ?_ _) | (with_reducible refine Kd.zAr ?_ _) | (with_reducible refine Kd.zB9 ?_))); rintro e w92 ⟨v386, rfl, ho0, hb⟩; refine ⟨_, rfl, ?_⟩; have n0_ := zA1.mk (Kd.zBg (by (with_reducible repeat (first | apply Kd.zAf | apply Kd.zAe | apply Kd.zAh)); exact HO_5.out) hb); have n1_ := zA1.mk (Kd.zBg (by (with_reducible repeat (first | apply Kd.zAf | apply Kd.zAe | apply Kd.zAh)); exact HO_13.out) hb); have n2_ := zA1.mk (Kd.zBg (by (with_reducible repeat (first | apply Kd.zAf | apply Kd.zAe | apply Kd.zAh)); exact HO_144.out) hb); have n3_ := zA1.mk (Kd.zBg (by (with_reducible repeat (first | apply Kd.zAf | apply Kd.zAe | apply Kd.zAh)); exact HO_355001.out) hb); have n4_ := zA1.mk (Kd.zBg (by (with_reducible repeat (first | apply Kd.zAf | apply Kd.zAe | apply Kd.zAh)); exact HO381.out) hb); have n5_ := zA1.mk (Kd.zBg (by (with_reducible repeat (first | apply Kd.zAf | apply Kd.zAe | apply Kd.zAh)); exact HO384.out) hb); have n6_ := zA1.mk (Kd.S_lower (Kd.S_new' (Kd.S_new' (Kd.S_new' (Kd.S_new' (Kd.S_new' ho0 (Kd.R_lt (by (with_reducible repeat (first | apply Kd.zAf | apply Kd.zAe | apply Kd.zAh)); exact HO_5.out))) (Kd.R_lt (by (with_reducible repeat (first | apply Kd.zAf | apply Kd.zAe | apply Kd.zAh)); exact HO_13.out))) (Kd.R_lt (by (with_reducible repeat (first | apply Kd.zAf | apply Kd.zAe | apply Kd.zAh)); exact HO_144.out))) (Kd.R_lt (by (with_reducible repeat (first | apply Kd.zAf | apply Kd.zAe | apply Kd.zAh)); exact HO381.out))) (Kd.R_lt (by (with_reducible repeat (first | apply Kd.zAf | apply Kd.zAe | apply Kd.zAh)); exact HO384.out))) (zAb (by repeat (first | (with_reducible first | exact HB.out | apply zA2 | apply zA0 | apply zA3 | refine zA5 ?_ GE354.out) | exact HB.out)))); have n7_ := zA1.mk (zAq (g := gb354) (o := .cells #[.int .i64 t350, .slice Ao21 t351.length co21] 28 (0, 0)) (by (with_reducible repeat (first | refine zA7 ?_ _ | refine zA8 ?_ | refine zA6 ?_ _)); exact BK354.out) hb); have n8_ := zA1.mk (zAg (by repeat (first | (with_reducible first | exact HB.out | apply zA2 | apply zA0 | apply zA3 | refine zA5 ?_ GE354.out) | exact HB.out)) hb); clear HO_5; clear HO_13; clear HO_144; clear HO_355001; clear HO381; clear HO384; clear BK354; clear HB; have HO_5 := n0_; have HO_13 := n1_; have HO_144 := n2_; have HO_355001 := n3_; have HO381 := n4_; have HO384 := n5_; have HO387 := n6_; have BK354 := n7_; have HB := n8_; clear n0_ n1_ n2_ n3_ n4_ n5_ n6_ n7_ n8_; (try clear hb); (try clear hb2); (try clear hk); (try clear hi); (try clear ho0); obtain ⟨Ao93, co93, eo93⟩ := Kd.zC3 HO_13.out; subst eo93) | (go_at_call 19; (with_reducible refine (zAs.calls k5 _ _ t365 (rd t345 x146_5) t389 _ ?side1 ?side2 A84.out).mono ?_); (case side1 => repeat (first | exact (Kd.zAz HO_13.out).2.2 | (with_reducible refine Kd.zAj ?_ _) | (with_reducible refine Kd.zAr ?_ _) | (with_reducible refine Kd.zB9 ?_))); (case side2 => exact (Kd.zAz HO_13.out).2.1); rintro e w' ⟨rfl, ⟨nd, rfl⟩⟩; obtain ⟨Ao94, co94, eo94⟩ := Kd.S_slice HO387.out; subst eo94))
                   go_ret
                   exact ⟨by first | rfl | (simp [zAp, zAo] <;> rfl) | (simp [*, zAp, zAo] <;> rfl), by repeat (first | (with_reducible first | exact HB.out | apply zA2 | apply zA0 | apply zA3 | refine zA5 ?_ GE354.out) | exact HB.out)⟩
                  ·rw [if_neg c85] at H
                   have c85b0 : (t389 != (decide ((t385.length : Int) > 1))) = false := by simpa using c85
                   (try (have c85b1 : decide (t389 = (decide ((t385.length : Int) > 1))) = true := by simpa using c85))
                   (try (have c85b2 : (t389 == (decide ((t385.length : Int) > 1))) = true := by simpa using c85))
                   clear c85
                   have H' := zA1.mk H
                   clear H
                   have p378 : 0 ≤ (x146_5 : Int) := of_decide_eq_true (by first | (with_reducible assumption) | assumption)
                   have q378 : x146_5 < (t345.length : Int) := of_decide_eq_true (by first | (with_reducible assumption) | assumption)
                   obtain ⟨ad378, e378, hx378_0⟩ := Kd.zCb (Kd.zAz HO_144.out).2.2 x146_5 p378 q378
                   cases e378
                   replace p378 := eq_true p378
                   replace q378 := eq_true q378
                   go_wp2_with (first | ((with_reducible refine zBk (N := 152) rfl ?_); (try (refine gate_guard (by rfl) ?_; dsimp only)); refine Kd.R_lit (Kd.int .i64) _ 3 ?hg (N := 152) ?hd (xs := ([rd t345 x146_5] : List Int)) (inner := [.int .i64 (rd t345 x146_5)]) (ok := fun _ => True) (okp := fun _ => True) ?hr ?hp (fun _ hk => hk) trivial (Below.refl _ _) (Nat.le_refl _) (by simp) ?_; (case hd => rfl); (case hg => rfl); (case hr => first | (go_simp; done) | (go_simp; rfl)); (case hp => exact (Reps.one (show Kd.M (Kd.int .i64) _ _ _ (rd t345 x146_5) [.int .i64 (rd t345 x146_5)] from rfl) (Reps.none _ _))); intro v380 w95 ho96 hb hg_ hnew_; clear hg_ hnew_; (first | rw [← Ny379.out] at ho96 | (simp only [Int.reduceToNat] at ho96; rw [← Ny379.out] at ho96)); have n0_ := zA1.mk (Kd.R_elder' (by (with_reducible repeat (first | apply Kd.zAf | apply Kd.zAe | apply Kd.zAh)); exact HO_5.out) (Kd.R_base ho96) hb); have n1_ := zA1.mk (Kd.R_elder' (by (with_reducible repeat (first | apply Kd.zAf | apply Kd.zAe | apply Kd.zAh)); exact HO_13.out) (Kd.R_base ho96) hb); have n2_ := zA1.mk (Kd.R_elder' (by (with_reducible repeat (first | apply Kd.zAf | apply Kd.zAe | apply Kd.zAh)); exact HO_144.out) (Kd.R_base ho96) hb); have n3_ := zA1.mk (Kd.zBg (by (with_reducible repeat (first | apply Kd.zAf | apply Kd.zAe | apply Kd.zAh)); exact HO_355001.out) hb); have n4_ := zA1.mk (Kd.R_lower (Kd.R_new' (Kd.R_new' (Kd.R_new' ho96 (Kd.R_lt (by (with_reducible repeat (first | apply Kd.zAf | apply Kd.zAe | apply Kd.zAh)); exact HO_5.out))) (Kd.R_lt (by (with_reducible repeat (first | apply Kd.zAf | apply Kd.zAe | apply Kd.zAh)); exact HO_13.out))) (Kd.R_lt (by (with_reducible repeat (first | apply Kd.zAf | apply Kd.zAe | apply Kd.zAh)); exact HO_144.out))) (zAb (by repeat (first | (with_reducible first | exact HB.out | apply zA2 | apply zA0 | apply zA3 | refine zA5 ?_ GE354.out) | exact HB.out)))); have n5_ := zA1.mk (zAq (g := gb354) (o := .cells #[.int .i64 t350, .slice Ao21 t351.length co21] 28 (0, 0)) (by (with_reducible repeat (first | refine zA7 ?_ _ | refine zA8 ?_ | refine zA6 ?_ _)); exact BK354.out) hb); have n6_ := zA1.mk (zAg (by repeat (first | (with_reducible first | exact HB.out | apply zA2 | apply zA0 | apply zA3 | refine zA5 ?_ GE354.out) | exact HB.out)) hb); clear HO_5; clear HO_13; clear HO_144; clear HO_355001; clear BK354; clear HB; have HO_5 := n0_; have HO_13 := n1_; have HO_144 := n2_; have HO_355001 := n3_; have HO381 := n4_; have BK354 := n5_; have HB := n6_; clear n0_ n1_ n2_ n3_ n4_ n5_ n6_; clear hb ho96; obtain ⟨Ao97, co97, eo97⟩ := Kd.zC3 HO381.out; subst eo97) | ((with_reducible refine zAy (f := 18) rfl ?_); refine zBz (some 153) rfl rfl Tryz.func18 (by kernel_rfl) rfl #[.slice (some ad378) t345.length co22, .slice Ao97 y379.length co97] rfl (by (try simp only [List.map_toArray, List.map_cons, List.map_nil]); first | done | rfl | (simp only [List.length_drop, List.length_take]; rfl)) ?_; (with_reducible refine (zAv.calls k5 _ _ t345 _ _ y379 t382 _ ?side1 ?side2 ?side3 ?side4 A81.out).mono ?_); (case side1 => repeat (first | exact (Kd.zAz HO_5.out).2.2 | (with_reducible refine Kd.zAj ?_ _) | (with_reducible refine Kd.zAr ?_ _) | (with_reducible refine Kd.zB9 ?_))); (case side2 => exact (Kd.zAz HO_5.out).2.1); (case side3 => repeat (first | exact (Kd.zAz HO381.out).2.2 | (with_reducible refine Kd.zAj ?_ _) | (with_reducible refine Kd.zAr ?_ _) | (with_reducible refine Kd.zB9 ?_))); (case side4 => exact (Kd.zAz HO381.out).2.1); rintro e w98 ⟨v383, rfl, ho0, hb⟩; refine ⟨_, rfl, ?_⟩; have n0_ := zA1.mk (Kd.R_elder' (by (with_reducible repeat (first | apply Kd.zAf | apply Kd.zAe | apply Kd.zAh)); exact HO_5.out) (Kd.R_base ho0) hb); have n1_ := zA1.mk (Kd.R_elder' (by (with_reducible repeat (first | apply Kd.zAf | apply Kd.zAe | apply Kd.zAh)); exact HO_13.out) (Kd.R_base ho0) hb); have n2_ := zA1.mk (Kd.R_elder' (by (with_reducible repeat (first | apply Kd.zAf | apply Kd.zAe | apply Kd.zAh)); exact HO_144.out) (Kd.R_base ho0) hb); have n3_ := zA1.mk (Kd.zBg (by (with_reducible repeat (first | apply Kd.zAf | apply Kd.zAe | apply Kd.zAh)); exact HO_355001.out) hb); have n4_ := zA1.mk (Kd.R_elder' (by (with_reducible repeat (first | apply Kd.zAf | apply Kd.zAe | apply Kd.zAh)); exact HO381.out) (Kd.R_base ho0) hb); have n5_ := zA1.mk (Kd.R_lower (Kd.R_new' (Kd.R_new' (Kd.R_new' (Kd.R_new' ho0 (Kd.R_lt (by (with_reducible repeat (first | apply Kd.zAf | apply Kd.zAe | apply Kd.zAh)); exact HO_5.out))) (Kd.R_lt (by (with_reducible repeat (first | apply Kd.zAf | apply Kd.zAe | apply Kd.zAh)); exact HO_13.out))) (Kd.R_lt (by (with_reducible repeat (first | apply Kd.zAf | apply Kd.zAe | apply Kd.zAh)); exact HO_144.out))) (Kd.R_lt (by (with_reducible repeat (first | apply Kd.zAf | apply Kd.zAe | apply Kd.zAh)); exact HO381.out))) (zAb (by repeat (first | (with_reducible first | exact HB.out | apply zA2 | apply zA0 | apply zA3 | refine zA5 ?_ GE354.out) | exact HB.out)))); have n6_ := zA1.mk (zAq (g := gb354) (o := .cells #[.int .i64 t350, .slice Ao21 t351.length co21] 28 (0, 0)) (by (with_reducible repeat (first | refine zA7 ?_ _ | refine zA8 ?_ | refine zA6 ?_ _)); exact BK354.out) hb); have n7_ := zA1.mk (zAg (by repeat (first | (with_reducible first | exact HB.out | apply zA2 | apply zA0 | apply zA3 | refine zA5 ?_ GE354.out) | exact HB.out)) hb); clear HO_5; clear HO_13; clear HO_144; clear HO_355001; clear HO381; clear BK354; clear HB; have HO_5 := n0_; have HO_13 := n1_; have HO_144 := n2_; have HO_355001 := n3_; have HO381 := n4_; have HO384 := n5_; have BK354 := n6_; have HB := n7_; clear n0_ n1_ n2_ n3_ n4_ n5_ n6_ n7_; (try clear hb); (try clear hb2); (try clear hk); (try clear hi); (try clear ho0); have hcz99_0 : w98.cell? ⟨gb354, 0, none⟩ = some (.int .i64 t350) := (zA9 BK354.out 0).trans rfl; have hcz99_1 : w98.cell? ⟨gb354, 1, none⟩ = some (.slice Ao21 t351.length co21) := (zA9 BK354.out 1).trans rfl; have hfz99_0 := zAd BK354.out 0; have hfz99_1 := zAd BK354.out 1; obtain ⟨Ao100, co100, eo100⟩ := Kd.zC3 HO384.out; subst eo100) | ((with_reducible refine zAy (f := 13) rfl ?_); refine zBz (some 157) rfl rfl Tryz.func13 (by kernel_rfl) rfl #[.agg #[.int .i64 t350, .slice Ao21 t351.length co21], .slice Ao100 t382.length co100] rfl (by (try simp only [List.map_toArray, List.map_cons, List.map_nil]); first | done | rfl | (simp only [List.length_drop, List.length_take]; rfl)) ?_; (with_reducible refine (zB3.calls k5 t350 _ _ t351 _ _ t382 t385 t388 _ ?side1 ?side2 ?side3 ?side4 ?side5 A82.out).mono ?_); (case side1 => repeat (first | exact (Kd.zAz HO_355001.out).2.2 | (with_reducible refine Kd.zAj ?_ _) | (with_reducible refine Kd.zAr ?_ _) | (with_reducible refine Kd.zB9 ?_))); (case side2 => exact (Kd.zAz HO_355001.out).2.1); (case side3 => repeat (first | exact (Kd.zAz HO384.out).2.2 | (with_reducible refine Kd.zAj ?_ _) | (with_reducible refine Kd.zAr ?_ _) | (with_reducible refine Kd.zB9 ?_))); (case side4 => exact (Kd.zAz HO384.out).2.1); (case side5 => repeat (first | exact (Kd.zAx HG.out HB.out) | (with_reducible refine Kd.zAj ?_ _) | (with_reducible refine Kd.zAr ?_ _) | (with_reducible refine Kd.zB9 ?_))); rintro e w101 ⟨v386, rfl, ho0, hb⟩; refine ⟨_, rfl, ?_⟩; have n0_ := zA1.mk (Kd.zBg (by (with_reducible repeat (first | apply Kd.zAf | apply Kd.zAe | apply Kd.zAh)); exact HO_5.out) hb); have n1_ := zA1.mk (Kd.zBg (by (with_reducible repeat (first | apply Kd.zAf | apply Kd.zAe | apply Kd.zAh)); exact HO_13.out) hb); have n2_ := zA1.mk (Kd.zBg (by (with_reducible repeat (first | apply Kd.zAf | apply Kd.zAe | apply Kd.zAh)); exact HO_144.out) hb); have n3_ := zA1.mk (Kd.zBg (by (with_reducible repeat (first | apply Kd.zAf | apply Kd.zAe | apply Kd.zAh)); exact HO_355001.out) hb); have n4_ := zA1.mk (Kd.zBg (by (with_reducible repeat (first | apply Kd.zAf | apply Kd.zAe | apply Kd.zAh)); exact HO381.out) hb); have n5_ := zA1.mk (Kd.zBg (by (with_reducible repeat (first | apply Kd.zAf | apply Kd.zAe | apply Kd.zAh)); exact HO384.out) hb); have n6_ := zA1.mk (Kd.S_lower (Kd.S_new' (Kd.S_new' (Kd.S_new' (Kd.S_new' (Kd.S_new' ho0 (Kd.R_lt (by (with_reducible repeat (first | apply Kd.zAf | apply Kd.zAe | apply Kd.zAh)); exact HO_5.out))) (Kd.R_lt (by (with_reducible repeat (first | apply Kd.zAf | apply Kd.zAe | apply Kd.zAh)); exact HO_13.out))) (Kd.R_lt (by (with_reducible repeat (first | apply Kd.zAf | apply Kd.zAe | apply Kd.zAh)); exact HO_144.out))) (Kd.R_lt (by (with_reducible repeat (first | apply Kd.zAf | apply Kd.zAe | apply Kd.zAh)); exact HO381.out))) (Kd.R_lt (by (with_reducible repeat (first | apply Kd.zAf | apply Kd.zAe | apply Kd.zAh)); exact HO384.out))) (zAb (by repeat (first | (with_reducible first | exact HB.out | apply zA2 | apply zA0 | apply zA3 | refine zA5 ?_ GE354.out) | exact HB.out)))); have n7_ := zA1.mk (zAq (g := gb354) (o := .cells #[.int .i64 t350, .slice Ao21 t351.length co21] 28 (0, 0)) (by (with_reducible repeat (first | refine zA7 ?_ _ | refine zA8 ?_ | refine zA6 ?_ _)); exact BK354.out) hb); have n8_ := zA1.mk (zAg (by repeat (first | (with_reducible first | exact HB.out | apply zA2 | apply zA0 | apply zA3 | refine zA5 ?_ GE354.out) | exact HB.out)) hb); clear HO_5; clear HO_13; clear HO_144; clear HO_355001; clear HO381; clear HO384; clear BK354; clear HB; have HO_5 := n0_; have HO_13 := n1_; have HO_144 := n2_; have HO_355001 := n3_; have HO381 := n4_; have HO384 := n5_; have HO387 := n6_; have BK354 := n7_; have HB := n8_; clear n0_ n1_ n2_ n3_ n4_ n5_ n6_ n7_ n8_; (try clear hb); (try clear hb2); (try clear hk); (try clear hi); (try clear ho0); obtain ⟨Ao102, co102, eo102⟩ := Kd.zC3 HO_13.out; subst eo102) | (go_at_call 19; (with_reducible refine (zAs.calls k5 _ _ t365 (rd t345 x146_5) t389 _ ?side1 ?side2 A84.out).mono ?_); (case side1 => repeat (first | exact (Kd.zAz HO_13.out).2.2 | (with_reducible refine Kd.zAj ?_ _) | (with_reducible refine Kd.zAr ?_ _) | (with_reducible refine Kd.zB9 ?_))); (case side2 => exact (Kd.zAz HO_13.out).2.1); rintro e w' ⟨rfl, ⟨nd, rfl⟩⟩; obtain ⟨Ao103, co103, eo103⟩ := Kd.S_slice HO387.out; subst eo103))
                   go_roundg k5
                   case measure => have := HJ3.out; have := HJ16.out; have := HJ33.out; have := HK4.out; have := HK5.out; omega
                   case rel => exact ⟨(wrap64 (x146_5 + 1)), (by first | rfl | (simp; done) | (simp [*]; done)), H', ⟨by have := HJ3.out; have := HJ16.out; have := HJ33.out; have := HK4.out; have := HK5.out; omega⟩, ⟨by (with_reducible repeat (first | apply Kd.zAf | apply Kd.zAe | apply Kd.zAh)); exact Kd.zC0 HO_5.out (fun _ hk => hk.1.1)⟩, ⟨by (with_reducible repeat (first | apply Kd.zAf | apply Kd.zAe | apply Kd.zAh)); exact Kd.zC0 HO_13.out (fun _ hk => ⟨hk.1.1.1, hk.1.1.2⟩)⟩, ⟨by (with_reducible repeat (first | apply Kd.zAf | apply Kd.zAe | apply Kd.zAh)); exact Kd.zC0 HO_144.out (fun _ hk => hk.1.1)⟩, ⟨by (with_reducible repeat (first | apply Kd.zAf | apply Kd.zAe | apply Kd.zAh)); exact HO_355001.out⟩, ⟨by (with_reducible repeat (first | refine zA7 ?_ _ | refine zA8 ?_ | refine zA6 ?_ _)); exact BK354.out⟩, ⟨by repeat (first | (with_reducible first | exact HB.out | apply zA2 | apply zA0 | apply zA3 | refine zA5 ?_ GE354.out) | exact HB.out)⟩⟩
                 ·rw [if_neg c83] at H
                  have c83b0 : (t388 == 0) = false := beq_eq_false_iff_ne.mpr c83
                  have c83b1 : (t388 != 0) = true := bne_iff_ne.mpr c83
                  obtain rfl := Option.some.inj H
                  have p378 : 0 ≤ (x146_5 : Int) := of_decide_eq_true (by first | (with_reducible assumption) | assumption)
                  have q378 : x146_5 < (t345.length : Int) := of_decide_eq_true (by first | (with_reducible assumption) | assumption)
                  obtain ⟨ad378, e378, hx378_0⟩ := Kd.zCb (Kd.zAz HO_144.out).2.2 x146_5 p378 q378
                  cases e378
                  replace p378 := eq_true p378
                  replace q378 := eq_true q378
                  go_wp2_with (first | ((with_reducible refine zBk (N := 152) rfl ?_); (try (refine gate_guard (by rfl) ?_; dsimp only)); refine Kd.R_lit (Kd.int .i64) _ 3 ?hg (N := 152) ?hd (xs := ([rd t345 x146_5] : List Int)) (inner := [.int .i64 (rd t345 x146_5)]) (ok := fun _ => True) (okp := fun _ => True) ?hr ?hp (fun _ hk => hk) trivial (Below.refl _ _) (Nat.le_refl _) (by simp) ?_; (case hd => rfl); (case hg => rfl); (case hr => first | (go_simp; done) | (go_simp; rfl)); (case hp => exact (Reps.one (show Kd.M (Kd.int .i64) _ _ _ (rd t345 x146_5) [.int .i64 (rd t345 x146_5)] from rfl) (Reps.none _ _))); intro v380 w104 ho105 hb hg_ hnew_; clear hg_ hnew_; (first | rw [← Ny379.out] at ho105 | (simp only [Int.reduceToNat] at ho105; rw [← Ny379.out] at ho105)); have n0_ := zA1.mk (Kd.R_elder' (by (with_reducible repeat (first | apply Kd.zAf | apply Kd.zAe | apply Kd.zAh)); exact HO_5.out) (Kd.R_base ho105) hb); have n1_ := zA1.mk (Kd.R_elder' (by (with_reducible repeat (first | apply Kd.zAf | apply Kd.zAe | apply Kd.zAh)); exact HO_13.out) (Kd.R_base ho105) hb); have n2_ := zA1.mk (Kd.R_elder' (by (with_reducible repeat (first | apply Kd.zAf | apply Kd.zAe | apply Kd.zAh)); exact HO_144.out) (Kd.R_base ho105) hb); have n3_ := zA1.mk (Kd.zBg (by (with_reducible repeat (first | apply Kd.zAf | apply Kd.zAe | apply Kd.zAh)); exact HO_355001.out) hb); have n4_ := zA1.mk (Kd.R_lower (Kd.R_new' (Kd.R_new' (Kd.R_new' ho105 (Kd.R_lt (by (with_reducible repeat (first | apply Kd.zAf | apply Kd.zAe | apply Kd.zAh)); exact HO_5.out))) (Kd.R_lt (by (with_reducible repeat (first | apply Kd.zAf | apply Kd.zAe | apply Kd.zAh)); exact HO_13.out))) (Kd.R_lt (by (with_reducible repeat (first | apply Kd.zAf | apply Kd.zAe | apply Kd.zAh)); exact HO_144.out))) (zAb (by repeat (first | (with_reducible first | exact HB.out | apply zA2 | apply zA0 | apply zA3 | refine zA5 ?_ GE354.out) | exact HB.out)))); have n5_ := zA1.mk (zAq (g := gb354) (o := .cells #[.int .i64 t350, .slice Ao21 t351.length co21] 28 (0, 0)) (by (with_reducible repeat (first | refine zA7 ?_ _ | refine zA8 ?_ | refine zA6 ?_ _)); exact BK354.out) hb); have n6_ := zA1.mk (zAg (by repeat (first | (with_reducible first | exact HB.out | apply zA2 | apply zA0 | apply zA3 | refine zA5 ?_ GE354.out) | exact HB.out)) hb); clear HO_5; clear HO_13; clear HO_144; clear HO_355001; clear BK354; clear HB; have HO_5 := n0_; have HO_13 := n1_; have HO_144 := n2_; have HO_355001 := n3_; have HO381 := n4_; have BK354 := n5_; have HB := n6_; clear n0_ n1_ n2_ n3_ n4_ n5_ n6_; clear hb ho105; obtain ⟨Ao106, co106, eo106⟩ := Kd.zC3 HO381.out; subst eo106) | ((with_reducible refine zAy (f := 18) rfl ?_); refine zBz (some 153) rfl rfl Tryz.func18 (by kernel_rfl) rfl #[.slice (some ad378) t345.length co22, .slice Ao106 y379.length co106] rfl (by (try simp only [List.map_toArray, List.map_cons, List.map_nil]); first | done | rfl | (simp only [List.length_drop, List.length_take]; rfl)) ?_; (with_reducible refine (zAv.calls k5 _ _ t345 _ _ y379 t382 _ ?side1 ?side2 ?side3 ?side4 A81.out).mono ?_); (case side1 => repeat (first | exact (Kd.zAz HO_5.out).2.2 | (with_reducible refine Kd.zAj ?_ _) | (with_reducible refine Kd.zAr ?_ _) | (with_reducible refine Kd.zB9 ?_))); (case side2 => exact (Kd.zAz HO_5.out).2.1); (case side3 => repeat (first | exact (Kd.zAz HO381.out).2.2 | (with_reducible refine Kd.zAj ?_ _) | (with_reducible refine Kd.zAr ?_ _) | (with_reducible refine Kd.zB9 ?_))); (case side4 => exact (Kd.zAz HO381.out).2.1); rintro e w107 ⟨v383, rfl, ho0, hb⟩; refine ⟨_, rfl, ?_⟩; have n0_ := zA1.mk (Kd.R_elder' (by (with_reducible repeat (first | apply Kd.zAf | apply Kd.zAe | apply Kd.zAh)); exact HO_5.out) (Kd.R_base ho0) hb); have n1_ := zA1.mk (Kd.R_elder' (by (with_reducible repeat (first | apply Kd.zAf | apply Kd.zAe | apply Kd.zAh)); exact HO_13.out) (Kd.R_base ho0) hb); have n2_ := zA1.mk (Kd.R_elder' (by (with_reducible repeat (first | apply Kd.zAf | apply Kd.zAe | apply Kd.zAh)); exact HO_144.out) (Kd.R_base ho0) hb); have n3_ := zA1.mk (Kd.zBg (by (with_reducible repeat (first | apply Kd.zAf | apply Kd.zAe | apply Kd.zAh)); exact HO_355001.out) hb); have n4_ := zA1.mk (Kd.R_elder' (by (with_reducible repeat (first | apply Kd.zAf | apply Kd.zAe | apply Kd.zAh)); exact HO381.out) (Kd.R_base ho0) hb); have n5_ := zA1.mk (Kd.R_lower (Kd.R_new' (Kd.R_new' (Kd.R_new' (Kd.R_new' ho0 (Kd.R_lt (by (with_reducible repeat (first | apply Kd.zAf | apply Kd.zAe | apply Kd.zAh)); exact HO_5.out))) (Kd.R_lt (by (with_reducible repeat (first | apply Kd.zAf | apply Kd.zAe | apply Kd.zAh)); exact HO_13.out))) (Kd.R_lt (by (with_reducible repeat (first | apply Kd.zAf | apply Kd.zAe | apply Kd.zAh)); exact HO_144.out))) (Kd.R_lt (by (with_reducible repeat (first | apply Kd.zAf | apply Kd.zAe | apply Kd.zAh)); exact HO381.out))) (zAb (by repeat (first | (with_reducible first | exact HB.out | apply zA2 | apply zA0 | apply zA3 | refine zA5 ?_ GE354.out) | exact HB.out)))); have n6_ := zA1.mk (zAq (g := gb354) (o := .cells #[.int .i64 t350, .slice Ao21 t351.length co21] 28 (0, 0)) (by (with_reducible repeat (first | refine zA7 ?_ _ | refine zA8 ?_ | refine zA6 ?_ _)); exact BK354.out) hb); have n7_ := zA1.mk (zAg (by repeat (first | (with_reducible first | exact HB.out | apply zA2 | apply zA0 | apply zA3 | refine zA5 ?_ GE354.out) | exact HB.out)) hb); clear HO_5; clear HO_13; clear HO_144; clear HO_355001; clear HO381; clear BK354; clear HB; have HO_5 := n0_; have HO_13 := n1_; have HO_144 := n2_; have HO_355001 := n3_; have HO381 := n4_; have HO384 := n5_; have BK354 := n6_; have HB := n7_; clear n0_ n1_ n2_ n3_ n4_ n5_ n6_ n7_; (try clear hb); (try clear hb2); (try clear hk); (try clear hi); (try clear ho0); have hcz108_0 : w107.cell? ⟨gb354, 0, none⟩ = some (.int .i64 t350) := (zA9 BK354.out 0).trans rfl; have hcz108_1 : w107.cell? ⟨gb354, 1, none⟩ = some (.slice Ao21 t351.length co21) := (zA9 BK354.out 1).trans rfl; have hfz108_0 := zAd BK354.out 0; have hfz108_1 := zAd BK354.out 1; obtain ⟨Ao109, co109, eo109⟩ := Kd.zC3 HO384.out; subst eo109) | ((with_reducible refine zAy (f := 13) rfl ?_); refine zBz (some 157) rfl rfl Tryz.func13 (by kernel_rfl) rfl #[.agg #[.int .i64 t350, .slice Ao21 t351.length co21], .slice Ao109 t382.length co109] rfl (by (try simp only [List.map_toArray, List.map_cons, List.map_nil]); first | done | rfl | (simp only [List.length_drop, List.length_take]; rfl)) ?_; (with_reducible refine (zB3.calls k5 t350 _ _ t351 _ _ t382 t385 t388 _ ?side1 ?side2 ?side3 ?side4 ?side5 A82.out).mono ?_); (case side1 => repeat (first | exact (Kd.zAz HO_355001.out).2.2 | (with_reducible refine Kd.zAj ?_ _) | (with_reducible refine Kd.zAr ?_ _) | (with_reducible refine Kd.zB9 ?_))); (case side2 => exact (Kd.zAz HO_355001.out).2.1); (case side3 => repeat (first | exact (Kd.zAz HO384.out).2.2 | (with_reducible refine Kd.zAj ?_ _) | (with_reducible refine Kd.zAr ?_ _) | (with_reducible refine Kd.zB9 ?_))); (case side4 => exact (Kd.zAz HO384.out).2.1); (case side5 => repeat (first | exact (Kd.zAx HG.out HB.out) | (with_reducible refine Kd.zAj ?_ _) | (with_reducible refine Kd.zAr ?_ _) | (with_reducible refine Kd.zB9 ?_))); rintro e w110 ⟨v386, rfl, ho0, hb⟩; refine ⟨_, rfl, ?_⟩; have n0_ := zA1.mk (Kd.zBg (by (with_reducible repeat (first | apply Kd.zAf | apply Kd.zAe | apply Kd.zAh)); exact HO_5.out) hb); have n1_ := zA1.mk (Kd.zBg (by (with_reducible repeat (first | apply Kd.zAf | apply Kd.zAe | apply Kd.zAh)); exact HO_13.out) hb); have n2_ := zA1.mk (Kd.zBg (by (with_reducible repeat (first | apply Kd.zAf | apply Kd.zAe | apply Kd.zAh)); exact HO_144.out) hb); have n3_ := zA1.mk (Kd.zBg (by (with_reducible repeat (first | apply Kd.zAf | apply Kd.zAe | apply Kd.zAh)); exact HO_355001.out) hb); have n4_ := zA1.mk (Kd.zBg (by (with_reducible repeat (first | apply Kd.zAf | apply Kd.zAe | apply Kd.zAh)); exact HO381.out) hb); have n5_ := zA1.mk (Kd.zBg (by (with_reducible repeat (first | apply Kd.zAf | apply Kd.zAe | apply Kd.zAh)); exact HO384.out) hb); have n6_ := zA1.mk (Kd.S_lower (Kd.S_new' (Kd.S_new' (Kd.S_new' (Kd.S_new' (Kd.S_new' ho0 (Kd.R_lt (by (with_reducible repeat (first | apply Kd.zAf | apply Kd.zAe | apply Kd.zAh)); exact HO_5.out))) (Kd.R_lt (by (with_reducible repeat (first | apply Kd.zAf | apply Kd.zAe | apply Kd.zAh)); exact HO_13.out))) (Kd.R_lt (by (with_reducible repeat (first | apply Kd.zAf | apply Kd.zAe | apply Kd.zAh)); exact HO_144.out))) (Kd.R_lt (by (with_reducible repeat (first | apply Kd.zAf | apply Kd.zAe | apply Kd.zAh)); exact HO381.out))) (Kd.R_lt (by (with_reducible repeat (first | apply Kd.zAf | apply Kd.zAe | apply Kd.zAh)); exact HO384.out))) (zAb (by repeat (first | (with_reducible first | exact HB.out | apply zA2 | apply zA0 | apply zA3 | refine zA5 ?_ GE354.out) | exact HB.out)))); have n7_ := zA1.mk (zAq (g := gb354) (o := .cells #[.int .i64 t350, .slice Ao21 t351.length co21] 28 (0, 0)) (by (with_reducible repeat (first | refine zA7 ?_ _ | refine zA8 ?_ | refine zA6 ?_ _)); exact BK354.out) hb); have n8_ := zA1.mk (zAg (by repeat (first | (with_reducible first | exact HB.out | apply zA2 | apply zA0 | apply zA3 | refine zA5 ?_ GE354.out) | exact HB.out)) hb); clear HO_5; clear HO_13; clear HO_144; clear HO_355001; clear HO381; clear HO384; clear BK354; clear HB; have HO_5 := n0_; have HO_13 := n1_; have HO_144 := n2_; have HO_355001 := n3_; have HO381 := n4_; have HO384 := n5_; have HO387 := n6_; have BK354 := n7_; have HB := n8_; clear n0_ n1_ n2_ n3_ n4_ n5_ n6_ n7_ n8_; (try clear hb); (try clear hb2); (try clear hk); (try clear hi); (try clear ho0)))
                  go_ret
                  exact ⟨by first | rfl | (simp [zAp, zAo] <;> rfl) | (simp [*, zAp, zAo] <;> rfl), by repeat (first | (with_reducible first | exact HB.out | apply zA2 | apply zA0 | apply zA3 | refine zA5 ?_ GE354.out) | exact HB.out)⟩
                ·rw [if_neg c78] at H
                 have c78b0 : decide (x146_5 < (t345.length : Int)) = false := decide_eq_false c78
                 clear c78
                 obtain rfl := Option.some.inj H
                 go_wp2
                 go_ret
                 exact ⟨by first | rfl | (simp [zAp, zAo] <;> rfl) | (simp [*, zAp, zAo] <;> rfl), by repeat (first | (with_reducible first | exact HB.out | apply zA2 | apply zA0 | apply zA3 | refine zA5 ?_ GE354.out) | exact HB.out)⟩
       ·replace c30 := Bool.eq_false_iff.mpr c30
        subst c30
        have H1 : (some true) = some r := by rw [if_neg (show ¬ (false = true) by decide)] at H; exact H
        clear H
        have H := H1
        clear H1
        obtain rfl := Option.some.inj H
        go_wp2
        go_ret
        exact ⟨by first | rfl | (simp [zAp, zAo] <;> rfl) | (simp [*, zAp, zAo] <;> rfl), by repeat (first | (with_reducible first | exact HB.out | apply zA2 | apply zA0 | apply zA3 | refine zA5 ?_ GE354.out) | exact HB.out)⟩
end
end Go.Proofs.YtbghfbhlbfcloaaGreatDoor.PL
namespace Go.Proofs.YtbghfbhlbfcloaaGreatDoor.PL
section
set_option linter.unusedVariables false
set_option linter.unusedSimpArgs false
open Go.RowKit Go.Proofs.YtbghfbhlbfcloaaGreatDoorW.PrintWords Go.Proofs.YtbghfbhlbfcloaaGreatDoorW.PrintLast Go.Proofs.YtbghfbhlbfcloaaGreatDoorW.PrintMore
def jnB (A : List Nat) (m i : Nat) : Bool := !cB A (wo m (2 ^ i))
def jn (A : List Nat) (m : Nat) (s : List Nat) : List Int := if 2 < (EI m).length then (s.filter (jnB A m)).map fun i : Nat => (i : Int) else []
theorem one_tab : ((List.range 6).all fun i => EI (2 ^ i) == [((i : Nat) : Int)]) = true := by kernel_rfl
theorem one_f (i : Nat) (hi : i < 6) : EI (2 ^ i) = [((i : Nat) : Int)] := by
 have h := List.all_eq_true.1 one_tab i (List.mem_range.2 hi)
 exact eq_of_beq h
theorem big_tab : ((List.range 64).all fun m => (List.range 6).all fun i => !(decide (2 < (EI m).length)) || (wo m (2 ^ i) != 0)) = true := by kernel_rfl
theorem big_f {m i : Nat} (hm : m < 64) (hi : i < 6) (h : 2 < (EI m).length) : wo m (2 ^ i) ≠ 0 := by
 have h1 := List.all_eq_true.1 (List.all_eq_true.1 big_tab m (List.mem_range.2 hm)) i (List.mem_range.2 hi)
 rw [decide_eq_true h] at h1
 exact bne_iff_ne.1 h1
theorem rdEl {m i : Nat} (h : i < (El m).length) : rd (EI m) (i : Int) = (((El m)[i] : Nat) : Int) := by
 have hl : i < (EI m).length := by unfold EI; rw [List.length_map]; exact h
 rw [rdI _ i hl]
 exact List.getElem_map _
theorem joints_l {A : List Nat} (hA : Gd A) {m : Nat} (hm : m < 64) (n : Int) : ∀ (c i : Nat) (out : List Int), i + c = (El m).length → out.length ≤ i → ∀ k, 800 + c ≤ k →
  zB4.l0 k (EI m) (LI A) (m : Int) out (EI m) ((EI m).length : Int) (i : Int) = some (out ++ jn A m ((El m).drop i), 0)
 | 0, i, out, hi, ho, k, hk => by
  obtain ⟨k, rfl⟩ : ∃ q, k = q + 1 := ⟨k - 1, by omega⟩
  have hel : (EI m).length = (El m).length := by unfold EI; exact List.length_map _
  rw [zB4.l0, if_neg (by omega), List.drop_eq_nil_of_le (by omega)]
  unfold jn
  split <;> simp
 | c + 1, i, out, hi, ho, k, hk => by
  obtain ⟨k, rfl⟩ : ∃ q, k = q + 1 := ⟨k - 1, by omega⟩
  have hel : (EI m).length = (El m).length := by unfold EI; exact List.length_map _
  have hml := EI_len m
  have hlt : i < (El m).length := by omega
  have hi6 := (El_mem.1 (List.getElem_mem hlt)).1
  rw [zB4.l0, if_pos (by omega), if_pos (by omega), if_pos (by omega), rdEl hlt, wr1 i (by omega), List.drop_eq_getElem_cons hlt]
  by_cases hb : 2 < (EI m).length
  ·have hw := big_f hm hi6 hb
   rw [if_pos (by omega), if_pos (by omega), shl_f _ hi6, andNotI m _ hm (pow6 hi6), cB_f hA (wo_lt m _ hm) hw k (by omega), Option.bind_some]
   unfold jn
   rw [if_pos hb]
   cases e : cB A (wo m (2 ^ (El m)[i])) with
   | true =>
    rw [if_pos rfl, List.filter_cons_of_neg (by unfold jnB; rw [e]; decide)]
    have ih := joints_l hA hm n c (i + 1) out (by omega) (by omega) k (by omega)
    unfold jn at ih
    rw [if_pos hb] at ih
    exact ih
   | false =>
    rw [if_neg (by decide), if_pos (by omega), List.filter_cons_of_pos (by unfold jnB; rw [e]; rfl), List.map_cons]
    have ih := joints_l hA hm n c (i + 1) (out ++ [(((El m)[i] : Nat) : Int)]) (by omega) (by simp; omega) k (by omega)
    unfold jn at ih
    rw [if_pos hb, List.append_assoc] at ih
    exact ih
  ·rw [if_neg (by omega), joints_l hA hm n c (i + 1) out (by omega) (by omega) k (by omega)]
   unfold jn
   rw [if_neg hb, if_neg hb]
theorem holds_l (l : List (List Int)) (s : List Int) (hl : l.length < 1000) (hN : ∀ x ∈ l, x.length ≤ 6) : ∀ (c i : Nat), i + c = l.length → ∀ k, 20 + c ≤ k → zAt.l0 k l s (i : Int) = some (decide (s ∈ l.drop i))
 | 0, i, hi, k, hk => by
  obtain ⟨k, rfl⟩ : ∃ q, k = q + 1 := ⟨k - 1, by omega⟩
  rw [zAt.l0, if_neg (by omega), List.drop_eq_nil_of_le (by omega)]
  simp
 | c + 1, i, hi, k, hk => by
  obtain ⟨k, rfl⟩ : ∃ q, k = q + 1 := ⟨k - 1, by omega⟩
  have hlt : i < l.length := by omega
  have e : rd_L1 l (i : Int) = l[i] := by
   unfold rd_L1
   rw [Int.toNat_natCast, List.getD_eq_getElem?_getD, List.getElem?_eq_getElem hlt]; rfl
  have hx := hN l[i] (List.getElem_mem hlt)
  rw [zAt.l0, if_pos (by omega), if_pos (by omega), e, same_f k _ _ (by omega) (by omega), Option.bind_some, List.drop_eq_getElem_cons hlt, wr1 i (by omega)]
  by_cases h : l[i] = s
  ·rw [if_pos (decide_eq_true h), h]
   simp
  ·rw [if_neg (by simpa using h), holds_l l s hl hN c (i + 1) (by omega) k (by omega)]
   congr 1
   simp only [List.mem_cons]
   exact decide_eq_decide.2 ⟨.inr, fun h1 => h1.elim (fun e => absurd e.symm h) id⟩
theorem apart_l (a b : List Int) (ha : a.length < 1000) (hb : b.length < 1000) : ∀ (c i : Nat), i + c = a.length → ∀ k, c + 1000 ≤ k → zB8.l0 k a b (i : Int) = some ((a.drop i).all fun x => !decide (x ∈ b))
 | 0, i, hi, k, hk => by
  obtain ⟨k, rfl⟩ : ∃ q, k = q + 1 := ⟨k - 1, by omega⟩
  rw [zB8.l0, if_neg (by omega), List.drop_eq_nil_of_le (by omega)]
  rfl
 | c + 1, i, hi, k, hk => by
  obtain ⟨k, rfl⟩ : ∃ q, k = q + 1 := ⟨k - 1, by omega⟩
  rw [zB8.l0, if_pos (by omega), if_pos (by omega), has_f k b _ (by omega) (by omega), Option.bind_some, dropI a i (by omega), List.all_cons, wr1 i (by omega)]
  by_cases h : rd a (i : Int) ∈ b
  ·rw [if_pos (decide_eq_true h), decide_eq_true h]
   rfl
  ·rw [if_neg (by simpa using h), decide_eq_false h, apart_l a b ha hb c (i + 1) (by omega) k (by omega)]
   rfl
theorem cut_tab : ((List.range 64).all fun m => (SB m).all fun x => decide ((EI x).length + (EI (wo m x)).length = (EI m).length) && ((EI x).all fun v => !decide (v ∈ EI (wo m x)))) = true := by kernel_rfl
theorem cut_f {m x : Nat} (hm : m < 64) (hx : x ∈ SO m) : (EI x).length + (EI (wo m x)).length = (EI m).length ∧ ((EI x).all fun v => !decide (v ∈ EI (wo m x))) = true := by
 have h := List.all_eq_true.1 (List.all_eq_true.1 cut_tab m (List.mem_range.2 hm)) x ((isort_perm leM (SB m)).mem_iff.1 hx)
 rw [Bool.and_eq_true, decide_eq_true_eq] at h
 exact h
theorem two_tab : ((List.range 64).all fun m => (List.range 6).all fun i => !(m.testBit i) || !(decide (2 ≤ (EI m).length)) || ((wo m (2 ^ i) != 0) && (!(decide ((EI m).length = 2)) || ((List.range 6).any fun a => wo m (2 ^ i) == 2 ^ a)))) = true := by kernel_rfl
theorem two_f {m i : Nat} (hm : m < 64) (hi : i < 6) (hb : m.testBit i = true) (h2 : 2 ≤ (EI m).length) : wo m (2 ^ i) ≠ 0 ∧ ((EI m).length = 2 → ∃ a, a < 6 ∧ wo m (2 ^ i) = 2 ^ a) := by
 have h := List.all_eq_true.1 (List.all_eq_true.1 two_tab m (List.mem_range.2 hm)) i (List.mem_range.2 hi)
 rw [hb, decide_eq_true h2] at h
 have h' : ((wo m (2 ^ i) != 0) && (!(decide ((EI m).length = 2)) || ((List.range 6).any fun a => wo m (2 ^ i) == 2 ^ a))) = true := h
 rw [Bool.and_eq_true] at h'
 refine ⟨bne_iff_ne.1 h'.1, fun e => ?_⟩
 have h3 := h'.2
 rw [decide_eq_true e] at h3
 obtain ⟨a, ha, he⟩ := List.any_eq_true.1 (show ((List.range 6).any fun a => wo m (2 ^ i) == 2 ^ a) = true from h3)
 exact ⟨a, List.mem_range.1 ha, eq_of_beq he⟩
section
variable {A : List Nat} {t : Nat → Bool} {m : Nat} {x13 : List Int}
theorem jn_len (A : List Nat) (m : Nat) : (jn A m (El m)).length ≤ 6 := by
 have hel : (EI m).length = (El m).length := by unfold EI; exact List.length_map _
 have hml := EI_len m
 unfold jn
 split
 ·rw [List.length_map]
  have := List.length_filter_le (jnB A m) (El m)
  omega
 ·simp
theorem div_l1 (hA : Gd A) (hm : m < 64) (h2 : 2 ≤ (EI m).length) (hlk : ∀ k, 100 ≤ k → zB5.f k 6 (Eg t) = some (LI A)) (hj : x13 = jn A m (El m)) : ∀ (c i : Nat), i + c = (El m).length → ∀ k, 2000 + c ≤ k → zA4.l1 k (EI m) x13 (EI m) ((EI m).length : Int) (i : Int) 6 (Eg t) = some true
 | 0, i, hi, k, hk => by
  obtain ⟨k, rfl⟩ : ∃ q, k = q + 1 := ⟨k - 1, by omega⟩
  have hel : (EI m).length = (El m).length := by unfold EI; exact List.length_map _
  rw [zA4.l1, if_neg (by omega)]
 | c + 1, i, hi, k, hk => by
  obtain ⟨k, rfl⟩ : ∃ q, k = q + 1 := ⟨k - 1, by omega⟩
  have hel : (EI m).length = (El m).length := by unfold EI; exact List.length_map _
  have hml := EI_len m
  have hlt : i < (El m).length := by omega
  obtain ⟨hi6, hib⟩ := El_mem.1 (List.getElem_mem hlt)
  obtain ⟨hw0, hone⟩ := two_f hm hi6 hib h2
  have hwl := wo_lt m (2 ^ (El m)[i]) hm
  have hop := opened_f t A (wo m (2 ^ (El m)[i])) k hwl hw0 (by omega) (hlk k (by omega))
  obtain ⟨q, hq, _, hq1, hqp⟩ := pieces_one hA 64 (wo m (2 ^ (El m)[i])) (by omega) hwl k [] (by omega) (by simp; omega)
  rw [List.nil_append] at hq
  have hP : zB3.f k 6 (Eg t) (EI (wo m (2 ^ (El m)[i]))) = some (q, 0) := by
   unfold zB3.f
   rw [hop, Option.bind_some, if_pos rfl]
   exact hq
  have hconn : cB A (wo m (2 ^ (El m)[i])) = decide (q.length = 1) := by
   rw [Bool.eq_iff_iff, cB_iff hA hwl hw0, decide_eq_true_eq]
   constructor
   ·intro h
    exact (hqp _ h hw0).1 rfl
   ·intro h
    obtain ⟨p, hp⟩ := piece_ex hA _ hwl hw0
    have := (hqp p hp hw0).2 h
    rw [this] at hp
    exact hp
  have hjl := jn_len A m
  have hhas : decide ((((El m)[i] : Nat) : Int) ∈ jn A m (El m)) = decide ((q.length : Int) > 1) := by
   have h1 := hq1 hw0
   have e1 : decide ((q.length : Int) > 1) = !(cB A (wo m (2 ^ (El m)[i]))) := by
    rw [hconn]
    by_cases h : q.length = 1
    ·rw [decide_eq_true h, decide_eq_false (by omega)]
     rfl
    ·rw [decide_eq_false h, decide_eq_true (by omega)]
     rfl
   rw [e1]
   unfold jn
   by_cases h3 : 2 < (EI m).length
   ·rw [if_pos h3]
    have e2 : decide ((((El m)[i] : Nat) : Int) ∈ ((El m).filter (jnB A m)).map fun i : Nat => (i : Int)) = jnB A m (El m)[i] := by
     rw [Bool.eq_iff_iff, decide_eq_true_eq, List.mem_map]
     constructor
     ·rintro ⟨a, ha, he⟩
      obtain rfl : a = (El m)[i] := by omega
      exact (List.mem_filter.1 ha).2
     ·intro h
      exact ⟨_, List.mem_filter.2 ⟨List.getElem_mem hlt, h⟩, rfl⟩
    rw [e2]
    rfl
   ·rw [if_neg h3]
    obtain ⟨a, ha, he⟩ := hone (by omega)
    have hc : cB A (wo m (2 ^ (El m)[i])) = true := by
     rw [he, cB_iff hA (pow6 ha) (pow0 a)]
     exact con_one ha
    rw [hc]
    simp
  rw [zA4.l1, if_pos (by omega), if_pos (by omega), if_pos (by omega), rdEl hlt, ← one_f _ hi6, without_f k (EI m) _ (by omega) (by have := EI_len (2 ^ (El m)[i]); omega) (by have := EI_len (2 ^ (El m)[i]); omega), Option.bind_some, EI_wo, hP, Option.bind_some, if_pos rfl, has_f k x13 _ (by rw [hj]; omega) (by rw [hj]; omega), Option.bind_some, hj, hhas, if_neg (by simp), wr1 i (by omega)]
  exact hj ▸ div_l1 hA hm h2 hlk hj c (i + 1) (by omega) k (by omega)
theorem div_l0 (hA : Gd A) (hm : m < 64) (h2 : 2 ≤ (EI m).length) (hlk : ∀ k, 100 ≤ k → zB5.f k 6 (Eg t) = some (LI A)) (hj : x13 = jn A m (El m)) (l : List Nat) (hl : l.length ≤ 64) (hs : ∀ x ∈ l, x ∈ cutsM A m) : ∀ (c i : Nat), i + c = l.length → ∀ k, 2200 + c ≤ k →
  zA4.l0 k (EI m) x13 (((SO m).filter (kp A ((EI m).length : Int))).map EI) (l.map (cutOf m)) ((l.map (cutOf m)).length : Int) (i : Int) 6 (Eg t) = some true
 | 0, i, hi, k, hk => by
  obtain ⟨k, rfl⟩ : ∃ q, k = q + 1 := ⟨k - 1, by omega⟩
  have hlm : (l.map (cutOf m)).length = l.length := List.length_map _
  rw [zA4.l0, if_neg (by omega)]
  exact div_l1 hA hm h2 hlk hj (El m).length 0 (by omega) k (by have := El_len m; omega)
 | c + 1, i, hi, k, hk => by
  obtain ⟨k, rfl⟩ : ∃ q, k = q + 1 := ⟨k - 1, by omega⟩
  have hlm : (l.map (cutOf m)).length = l.length := List.length_map _
  have hlt : i < l.length := by omega
  have e : zBm (l.map (cutOf m)) (i : Int) = cutOf m l[i] := by
   unfold zBm
   rw [Int.toNat_natCast, List.getD_eq_getElem?_getD, List.getElem?_map, List.getElem?_eq_getElem hlt]; rfl
  have hc := hs l[i] (List.getElem_mem hlt)
  unfold cutsM at hc
  obtain ⟨hx, hq⟩ := List.mem_filter.1 hc
  rw [Bool.and_eq_true] at hq
  obtain ⟨hq, hcx⟩ := hq
  unfold cutQ at hq
  rw [Bool.and_eq_true, Bool.and_eq_true, bne_iff_ne] at hq
  obtain ⟨⟨_, hw⟩, hcw⟩ := hq
  obtain ⟨hlen, hap⟩ := cut_f hm hx
  have hsl := SO_len m
  have hfl := List.length_filter_le (kp A ((EI m).length : Int)) (SO m)
  have hN : ∀ y ∈ (((SO m).filter (kp A ((EI m).length : Int))).map EI), y.length ≤ 6 := fun y hy => by
   obtain ⟨z, _, rfl⟩ := List.mem_map.1 hy
   exact EI_len z
  have inn : ∀ z, z ∈ SO m → cB A z = true → ((EI z).length : Int) ≤ ((EI m).length : Int) → decide (EI z ∈ ((SO m).filter (kp A ((EI m).length : Int))).map EI) = true := fun z hz hcz hle => decide_eq_true (List.mem_map.2 ⟨z, List.mem_filter.2 ⟨hz, by unfold kp; rw [decide_eq_true hle, hcz]; rfl⟩, rfl⟩)
  have hwm : wo m l[i] ∈ SO m := SO_mem.2 ⟨wo_lt m _ hm, hw, bit_ext (Nat.lt_of_le_of_lt Nat.and_le_left (wo_lt m _ hm)) (wo_lt m _ hm) fun a ha => by
   rw [Nat.testBit_and, wo_bit m _ a ha]
   cases m.testBit a <;> simp⟩
  have h1 := EI_len l[i]
  have h3 := EI_len (wo m l[i])
  have hml := EI_len m
  have hh1 := holds_l (((SO m).filter (kp A ((EI m).length : Int))).map EI) (EI l[i]) (by rw [List.length_map]; omega) hN _ 0 (Nat.zero_add _) k (by rw [List.length_map]; omega)
  have hh2 := holds_l (((SO m).filter (kp A ((EI m).length : Int))).map EI) (EI (wo m l[i])) (by rw [List.length_map]; omega) hN _ 0 (Nat.zero_add _) k (by rw [List.length_map]; omega)
  rw [List.drop_zero, inn _ hx hcx (by omega)] at hh1
  rw [List.drop_zero, inn _ hwm hcw (by omega)] at hh2
  have ha := apart_l (EI l[i]) (EI (wo m l[i])) (by omega) (by omega) _ 0 (Nat.zero_add _) k (by omega)
  rw [List.drop_zero, hap] at ha
  have hsum : wrap64 (((EI l[i]).length : Int) + ((EI (wo m l[i])).length : Int)) = ((EI m).length : Int) := by unfold wrap64; omega
  rw [zA4.l0, if_pos (by omega), if_pos (by omega), if_pos (by omega), e]
  show (if wrap64 (((EI l[i]).length : Int) + ((EI (wo m l[i])).length : Int)) = ((EI m).length : Int) then (zB8.f k (EI l[i]) (EI (wo m l[i]))).bind _ else _) = _
  rw [if_pos hsum, show zB8.f k (EI l[i]) (EI (wo m l[i])) = some true from ha, Option.bind_some, if_pos rfl]
  show (zAt.f k _ (EI l[i])).bind _ = _
  rw [show zAt.f k (((SO m).filter (kp A ((EI m).length : Int))).map EI) (EI l[i]) = some true from hh1, Option.bind_some, if_pos rfl]
  show (zAt.f k _ (EI (wo m l[i]))).bind _ = _
  rw [show zAt.f k (((SO m).filter (kp A ((EI m).length : Int))).map EI) (EI (wo m l[i])) = some true from hh2, Option.bind_some, if_pos rfl, wr1 i (by omega)]
  exact div_l0 hA hm h2 hlk hj l hl hs c (i + 1) (by omega) k (by omega)
end
theorem divides_plain (bits set : Int) (h0 : 0 ≤ set) (h1 : set < 256) : zA4.f 20000 bits set = some true := by
 obtain ⟨s, rfl⟩ : ∃ s : Nat, set = (s : Int) := ⟨set.toNat, by omega⟩
 have hs : s < 256 := by omega
 have hm : s % 64 < 64 := Nat.mod_lt _ (by decide)
 unfold zA4.f
 rw [chosen_f 20000 (by decide) s hs, Option.bind_some]
 have hkn : zCd.f = some true := rfl
 rw [hkn, Option.bind_some, if_pos rfl]
 generalize hmm : s % 64 = m at hm
 by_cases h2 : ((EI m).length : Int) < 2
 ·rw [decide_eq_true h2]
  rfl
 ·rw [decide_eq_false h2]
  have hz : m ≠ 0 := fun e => h2 (by rw [e]; decide)
  have hel := EI_len m
  have heq : (EI m).length = (El m).length := by unfold EI; exact List.length_map _
  obtain ⟨A, hA, hlk, hE, hsym⟩ := linked_f (tb bits) 100 (by decide)
  have hlk2 : ∀ k, 100 ≤ k → zB5.f k 6 (Eg (tb bits)) = some (LI A) := fun k hk => up (fun k => zB5.mono 6 (Eg (tb bits)) k) hlk k hk
  have hop := fun k (hk : 100 ≤ k) => opened_f (tb bits) A m k hm hz hk (hlk2 k hk)
  obtain ⟨p, hp⟩ := piece_ex hA m hm hz
  have hC : zBr.f 19999 6 (Eg (tb bits)) (EI m) = some (decide (p = m), 0) := by
   unfold zBr.f
   rw [hop 19999 (by decide), Option.bind_some, if_pos rfl, connected_f hA m p hm hz hp 19999 (by decide), Option.bind_some]
  obtain ⟨q, hq, _, hq1, hqp⟩ := pieces_one hA 64 m (by omega) hm 19999 [] (by omega) (by simp; omega)
  rw [List.nil_append] at hq
  have hP : zB3.f 19999 6 (Eg (tb bits)) (EI m) = some (q, 0) := by
   unfold zB3.f
   rw [hop 19999 (by decide), Option.bind_some, if_pos rfl]
   exact hq
  have hpq := hqp p hp hz
  change zA4.j0 (19999 + 1) bits (EI m) false = some true
  rw [zA4.j0, if_neg (by decide), pairs_f bits 19999 (by decide), Option.bind_some, hC, Option.bind_some, hP, Option.bind_some, if_pos rfl, if_pos rfl]
  have hx : (decide (p = m) != ((q.length : Int) == 1)) = false := by
   by_cases h : p = m
   ·have := hpq.1 h
    rw [decide_eq_true h, this]
    rfl
   ·have : ¬ q.length = 1 := fun e => h (hpq.2 e)
    rw [decide_eq_false h, beq_eq_false_iff_ne.2 (show (q.length : Int) ≠ 1 by omega)]
    rfl
  show zA4.j1 (19998 + 1) (EI m) (decide (p = m)) (decide (p = m) != ((q.length : Int) == 1)) 6 (Eg (tb bits)) = some true
  rw [hx, zA4.j1, if_neg (by decide)]
  by_cases h : p = m
  ·rw [if_pos (decide_eq_true h)]
   rw [h] at hp
   have hc : cB A m = true := (cB_iff hA hm hz).2 hp
   have hCu : liaison_Cuts.f 6 (Eg (tb bits)) (EI m) = some ((cutsM A m).map (cutOf m), 0) := by
    have := CU_plain (tb bits) hA hm hz (hop CU.k (by decide))
    rw [if_pos hc] at this
    exact this
   have hJ : zB4.f 19998 6 (Eg (tb bits)) (EI m) = some (jn A m (El m), 0) := by
    unfold zB4.f
    rw [hop 19998 (by decide), Option.bind_some, if_pos rfl, cB_f hA hm hz 19998 (by decide), Option.bind_some, hc, if_pos rfl]
    exact joints_l hA hm 6 (El m).length 0 [] (Nat.zero_add _) (by simp) 19998 (by omega)
   have hS : liaison_Subsets.f 6 (Eg (tb bits)) (EI m) ((EI m).length : Int) = some (((SO m).filter (kp A ((EI m).length : Int))).map EI, 0) := by
    have := SU_plain (tb bits) hA hm (hop CU.k (by decide)) ((EI m).length : Int)
    rw [if_neg (by omega)] at this
    exact this
   obtain ⟨j, hj6, hjm, hjl, hcj⟩ := con_two hm hz hp (by omega)
   have hwl := wo_lt m (2 ^ j) hm
   have hw0 : wo m (2 ^ j) ≠ 0 := fun e => by
    have := hcj.low
    rw [e, Nat.zero_testBit] at this
    cases this
   have hcw : cB A (wo m (2 ^ j)) = true := (cB_iff hA hwl hw0).2 hcj
   have hne : (cutsM A m).length ≠ 0 := by
    have hin : wo m (2 ^ j) ∈ cutsM A m := by
     unfold cutsM
     refine List.mem_filter.2 ⟨SO_mem.2 ⟨hwl, hw0, bit_ext (Nat.lt_of_le_of_lt Nat.and_le_left hwl) hwl fun a ha => by
      rw [Nat.testBit_and, wo_bit m _ a ha]
      cases m.testBit a <;> simp⟩, ?_⟩
     have e1 : wo m (wo m (2 ^ j)) = 2 ^ j := bit_ext (wo_lt m _ hm) (pow6 hj6) fun a ha => by
      rw [wo_bit m _ a ha, wo_bit m _ a ha, Nat.testBit_two_pow]
      by_cases hja : j = a
      ·subst hja
       rw [hjm]
       simp
      ·rw [decide_eq_false hja]
       simp
     obtain ⟨_, l2, l3, _⟩ := lo_f m hm hz
     have e2 : (wo m (2 ^ j)).testBit (lo m) = true := by
      rw [wo_bit m _ _ l3, l2, Nat.testBit_two_pow, decide_eq_false hjl]
      rfl
     have e3 : cB A (2 ^ j) = true := (cB_iff hA (pow6 hj6) (pow0 j)).2 (con_one hj6)
     unfold cutQ
     rw [e1, e2, e3, hcw, bne_iff_ne.2 (pow0 j)]
     rfl
    exact fun e => by
     rw [List.length_eq_zero_iff.1 e] at hin
     simp at hin
   have hjlt : (jn A m (El m)).length < (EI m).length := by
    unfold jn
    split
    ·rw [List.length_map, heq]
     refine List.length_filter_lt_length_iff_exists.2 ⟨j, El_mem.2 ⟨hj6, hjm⟩, ?_⟩
     unfold jnB
     rw [hcw]
     decide
    ·simp
     omega
   rw [hCu, Option.bind_some, hJ, Option.bind_some, hS, Option.bind_some, if_pos rfl, if_pos rfl, if_pos rfl, if_neg (by show ¬ ((((cutsM A m).map (cutOf m)).length : Int) = 0); rw [List.length_map]; omega)]
   have hdf : decide (((jn A m (El m)).length : Int) ≥ ((EI m).length : Int)) = false := decide_eq_false (by omega)
   show zA4.j2 (19997 + 1) (EI m) ((cutsM A m).map (cutOf m)) (jn A m (El m)) (((SO m).filter (kp A ((EI m).length : Int))).map EI) (decide (((jn A m (El m)).length : Int) ≥ ((EI m).length : Int))) 6 (Eg (tb bits)) = some true
   rw [hdf, zA4.j2, if_neg (by decide)]
   have hl : (cutsM A m).length ≤ 64 := by
    have h1 := SO_len m
    have h2 := List.length_filter_le (fun x => cutQ A m x && cB A x) (SO m)
    exact Nat.le_trans h2 h1
   exact div_l0 hA hm (by omega) hlk2 rfl (cutsM A m) hl (fun x hx => hx) (cutsM A m).length 0 (by omega) 19997 (by omega)
  ·rw [if_neg (by simpa using h)]
end
end Go.Proofs.YtbghfbhlbfcloaaGreatDoor.PL
