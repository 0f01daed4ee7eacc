/-
  unit.Parse.
-/
import Derived.Test.YtjnheoelcahkaaaDoorUnLib
set_option linter.unusedVariables false
set_option linter.unusedSimpArgs false
namespace Go.Proofs.YtjnheoelcahkaaaDoor.Gv
open Go.RowKit Go.Proofs.YtjnheoelcahkaaaDoorW.PrintWords Go.Proofs.YtjnheoelcahkaaaDoorW.PrintLast Go.Proofs.YtjnheoelcahkaaaDoorW.PrintMore
def idxS (l : List ByteArray) (s : ByteArray) : Int := match l.findIdx? (fun x => s.toList == x.toList) with | some i => (i : Int) | none => -1
theorem idxS_hit {l : List ByteArray} {s : ByteArray} {k : Nat} (hk : k < l.length) (h : (s.toList == (nthS l k).toList) = true) (h0 : ∀ j, j < k → (s.toList == (nthS l j).toList) = false) : idxS l s = k := by
  have e : l.findIdx? (fun x => s.toList == x.toList) = some k := by
    rw [List.findIdx?_eq_some_iff_getElem]
    refine ⟨hk, ?_, fun j hj => ?_⟩
    · unfold nthS at h
      rw [List.getD_eq_getElem?_getD, List.getElem?_eq_getElem hk] at h
      exact h
    · have := h0 j hj
      unfold nthS at this
      rw [List.getD_eq_getElem?_getD, List.getElem?_eq_getElem (by omega)] at this
      simpa using this
  unfold idxS; rw [e]
theorem idxS_miss {l : List ByteArray} {s : ByteArray} (h0 : ∀ j, j < l.length → (s.toList == (nthS l j).toList) = false) : idxS l s = -1 := by
  have e : l.findIdx? (fun x => s.toList == x.toList) = none := by
    rw [List.findIdx?_eq_none_iff]
    intro x hx
    obtain ⟨j, hj, rfl⟩ := List.getElem_of_mem hx
    have := h0 j hj
    unfold nthS at this
    rw [List.getD_eq_getElem?_getD, List.getElem?_eq_getElem hj] at this
    exact this
  unfold idxS; rw [e]
set_option maxHeartbeats 2000000 in
theorem index_any (b : Nat) (l : List ByteArray) (t : TypeId) (c : Nat) (s : ByteArray) (w : World) (hl : l.length ≤ 1000000) (hS : Strs w b l t) :
    Calls Tryd.prog 58 #[.slice (some ⟨b, 0, none⟩) l.length c, .string s] w fun e w' => e = .returned (.int .i64 (idxS l s)) ∧ w = w' := by
  have HS := Aside0.mk hS
  clear hS
  generalize hn : l.length = n at hl ⊢
  have HN := Aside0.mk hn
  clear hn
  go_enter Tryd.func58, Tryd.ntmps58
  go_wp2
  go_loop [5, 8] (fun _ i => ∃ k : Nat, k ≤ n ∧ i = .int .i64 k ∧ Aside0 (∀ j, j < k → (s.toList == (nthS l j).toList) = false)) (fun _ i => n - (intOf i).toNat)
  case atStart => exact ⟨0, Nat.zero_le _, rfl, ⟨fun j hj => absurd hj (Nat.not_lt_zero _)⟩⟩
  case round =>
    obtain ⟨k, hk, rfl, A0⟩ := hrel
    by_cases hlt : k < n
    · have hx := HS.out.cell (k := k) (by have := HN.out; omega)
      have hl0 : (0 : Int) ≤ (k : Int) := by omega
      have hl7 : (k : Int) < (n : Int) := by omega
      cases he : (s.toList == (nthS l k).toList) with
      | true =>
        have HI := Aside0.mk (idxS_hit (by have := HN.out; omega) he A0.out)
        go_wp2
        go_ret
        rw [HI.out]
        exact ⟨rfl, rfl⟩
      | false =>
        have A1 : Aside0 (∀ j, j < k + 1 → (s.toList == (nthS l j).toList) = false) := ⟨fun j hj => by
          by_cases e : j = k
          · subst e; exact he
          · exact A0.out j (by omega)⟩
        go_wp2
        go_round
        case rel => exact ⟨k + 1, by omega, by go_num, A1⟩
        case measure => simp [intOf]; omega
    · have HI := Aside0.mk (idxS_miss (fun j hj => A0.out j (by have := HN.out; omega)))
      go_wp2
      go_ret
      rw [HI.out]
      exact ⟨rfl, rfl⟩
/-- the names of the base units -/
def baseL : List ByteArray := [⟨#[109]⟩, ⟨#[107, 103]⟩, ⟨#[115]⟩, ⟨#[65]⟩, ⟨#[75]⟩, ⟨#[109, 111, 108]⟩, ⟨#[99, 100]⟩]
theorem idxB_range (s : ByteArray) : idxS baseL s = -1 ∨ 0 ≤ idxS baseL s ∧ idxS baseL s < 7 := by
  unfold idxS
  split
  · rename_i i h
    have := (List.findIdx?_eq_some_iff_getElem.1 h).1
    right
    have e : baseL.length = 7 := rfl
    omega
  · exact .inl rfl
/-- one part of a text of a dimension -/
def stepD (d : Nat → Int) (p : ByteArray) : Option (Nat → Int) :=
  if idxS baseL ⟨(Lib.cut p.data.toList [94]).1.toArray⟩ < 0 then none
  else if (Lib.cut p.data.toList [94]).2.2 = true then (numO (Lib.cut p.data.toList [94]).2.1).map (updD d (idxS baseL ⟨(Lib.cut p.data.toList [94]).1.toArray⟩).toNat)
  else some (updD d (idxS baseL ⟨(Lib.cut p.data.toList [94]).1.toArray⟩).toNat 1)
def foldD (d : Nat → Int) : List ByteArray → Option (Nat → Int)
  | [] => some d
  | p :: r => (stepD d p).bind fun d' => foldD d' r
theorem foldD_snoc (p : ByteArray) : ∀ (l : List ByteArray) (d : Nat → Int), foldD d (l ++ [p]) = (foldD d l).bind fun d' => stepD d' p
  | [], d => by simp [foldD]
  | q :: r, d => by
    show (stepD d q).bind _ = ((stepD d q).bind _).bind _
    cases stepD d q with
    | none => rfl
    | some d' => exact foldD_snoc p r d'
theorem foldD_none : ∀ (l r : List ByteArray) (d : Nat → Int), foldD d l = none → foldD d (l ++ r) = none
  | [], _, _, h => by cases h
  | q :: l, r, d, h => by
    show (stepD d q).bind _ = none
    change (stepD d q).bind _ = none at h
    cases hq : stepD d q with
    | none => rfl
    | some d' => rw [hq] at h; exact foldD_none l r d' h
theorem updD_twice (d : Nat → Int) (k : Nat) (u v : Int) : updD (updD d k u) k v = updD d k v := by
  funext j
  unfold updD
  by_cases e : j = k
  · rw [if_pos e, if_pos e]
  · rw [if_neg e, if_neg e, if_neg e]
/-- what Parse answers -/
def parseD (s : ByteArray) (l : List ByteArray) : (Nat → Int) × Int :=
  if s = ⟨#[49]⟩ then (zeroD, 0) else match foldD zeroD l with
    | none => (zeroD, 3)
    | some d => if dimB d = true ∧ textD d = s then (d, 0) else (zeroD, 3)
end Go.Proofs.YtjnheoelcahkaaaDoor.Gv
