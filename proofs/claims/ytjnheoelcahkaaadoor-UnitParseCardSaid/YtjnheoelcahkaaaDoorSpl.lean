/-
  Lists of bytes cut at bytes of one kind.
-/
import Derived.Lib.Split
import Derived.Lib.CountLaws
import Derived.Lib.CutLaws
import Derived.Lib.IndexBytes
import Derived.Lib.IndexLaws
import Derived.Lib.Join
set_option linter.unusedVariables false
namespace Go.Proofs.YtjnheoelcahkaaaDoor.Spl
/-- the parts of a list between bytes of a kind -/
def splitL (c : UInt8) : List UInt8 → List (List UInt8)
  | [] => [[]]
  | x :: r => if x = c then [] :: splitL c r else match splitL c r with
    | [] => [[x]]
    | p :: q => (x :: p) :: q
theorem splitL_ne (c : UInt8) (l : List UInt8) : splitL c l ≠ [] := by
  cases l with
  | nil => simp [splitL]
  | cons x r =>
    unfold splitL
    split
    · simp
    · split <;> simp
theorem splitL_none {c : UInt8} : ∀ {a : List UInt8}, c ∉ a → splitL c a = [a]
  | [], _ => rfl
  | x :: r, h => by
    have hx : ¬ x = c := fun e => h (by simp [e])
    rw [splitL, if_neg hx, splitL_none (fun e => h (by simp [e]))]
theorem splitL_cut {c : UInt8} (b : List UInt8) : ∀ {a : List UInt8}, c ∉ a → splitL c (a ++ c :: b) = a :: splitL c b
  | [], _ => by simp [splitL]
  | x :: r, h => by
    have hx : ¬ x = c := fun e => h (by simp [e])
    rw [List.cons_append, splitL, if_neg hx, splitL_cut b (fun e => h (by simp [e]))]
theorem splitL_free {c : UInt8} : ∀ {l : List UInt8}, ∀ p ∈ splitL c l, c ∉ p
  | [], p, hp => by simp [splitL] at hp; subst hp; simp
  | x :: r, p, hp => by
    rw [splitL] at hp
    split at hp
    · rcases List.mem_cons.1 hp with rfl | hp
      · simp
      · exact splitL_free p hp
    · rename_i hx
      have hr := splitL_free (l := r) (c := c)
      generalize splitL c r = s at hp hr
      match s with
      | [] => simp at hp; subst hp; simpa using fun e : c = x => hx e.symm
      | q :: t =>
        rcases List.mem_cons.1 hp with rfl | hp
        · have := hr q (by simp)
          intro e
          rcases List.mem_cons.1 e with e | e
          · exact hx e.symm
          · exact this e
        · exact hr p (by simp [hp])
theorem splitL_join {c : UInt8} : ∀ (ps : List (List UInt8)), ps ≠ [] → (∀ p ∈ ps, c ∉ p) → splitL c (Lib.join ps [c]) = ps
  | [], h, _ => absurd rfl h
  | [p], _, h => by rw [Lib.join_one, splitL_none (h p (by simp))]
  | p :: q :: r, _, h => by
    have ih := splitL_join (q :: r) (by simp) (fun x hx => h x (by simp [hx]))
    rw [Lib.join_cons] at ih ⊢
    rw [Lib.joinTail, List.map_cons, List.flatten_cons, List.append_assoc, List.singleton_append, ← Lib.joinTail, splitL_cut _ (h p (by simp)), ih]
theorem join_splitL (c : UInt8) : ∀ l : List UInt8, Lib.join (splitL c l) [c] = l
  | [] => rfl
  | x :: r => by
    have ih := join_splitL c r
    have hne := splitL_ne c r
    rw [splitL]
    generalize splitL c r = s at ih hne
    match s with
    | [] => exact absurd rfl hne
    | p :: q =>
      rw [Lib.join_cons] at ih
      split
      · rename_i e
        rw [Lib.join_cons, Lib.joinTail, List.map_cons, List.flatten_cons, ← Lib.joinTail]
        simp [e, ih]
      · show Lib.join ((x :: p) :: q) [c] = x :: r
        rw [Lib.join_cons, List.cons_append, ih]
/-- where the first such byte is -/
theorem index_hit {l : List UInt8} {c : UInt8} {i : Nat} (h : Lib.index l [c] = i) : l = l.take i ++ c :: l.drop (i + 1) ∧ c ∉ l.take i := by
  rw [Lib.index_one] at h
  obtain ⟨h1, h2⟩ := Lib.indexByte_some h
  have hi : i < l.length := (List.getElem?_eq_some_iff.1 h1).1
  have h3 : l[i] = c := (List.getElem?_eq_some_iff.1 h1).2
  refine ⟨?_, fun hc => ?_⟩
  · conv => lhs; rw [← List.take_append_drop i l, List.drop_eq_getElem_cons hi, h3]
  · obtain ⟨k, hk, e⟩ := List.getElem_of_mem hc
    have hk' : k < i := by simp at hk; omega
    exact h2 k hk' (by rw [List.getElem?_eq_getElem (by omega), ← e]; simp)
theorem index_miss {l : List UInt8} {c : UInt8} (h : Lib.index l [c] = -1) : c ∉ l := by
  rw [Lib.index_one] at h
  intro hc
  obtain ⟨k, hk, e⟩ := List.getElem_of_mem hc
  exact Lib.indexByte_none h k (by rw [List.getElem?_eq_getElem hk, e])
theorem index_ways (l : List UInt8) (c : UInt8) : Lib.index l [c] = -1 ∨ ∃ i : Nat, Lib.index l [c] = i := by
  have := Lib.index_ge l [c]
  by_cases h : Lib.index l [c] = -1
  · exact .inl h
  · exact .inr ⟨(Lib.index l [c]).toNat, by omega⟩
theorem splitK_eq (c : UInt8) : ∀ (n : Nat) (l : List UInt8), l.length ≤ n → Lib.splitK [c] 0 (Lib.count l [c]) l = splitL c l
  | n, l, hn => by
    rcases index_ways l c with h | ⟨i, h⟩
    · rw [Lib.count_miss h, splitL_none (index_miss h)]; rfl
    · obtain ⟨h1, h2⟩ := index_hit h
      have hil : i < l.length := by
        have := congrArg List.length h1
        simp at this; omega
      obtain ⟨n, rfl⟩ : ∃ m, n = m + 1 := ⟨n - 1, by omega⟩
      have hm : ¬ (Lib.index l [c] == -1) = true := fun e => by have := beq_iff_eq.1 e; omega
      rw [Lib.count_hit (by simp) h, Nat.add_comm 1, Lib.splitK, if_neg hm]
      have e : (Lib.index l [c]).toNat = i := by omega
      rw [e, List.length_singleton, Nat.add_zero, splitK_eq c n (l.drop (i + 1)) (by simp; omega)]
      conv => rhs; rw [h1, splitL_cut _ h2]
theorem splitK_len (c : UInt8) : ∀ (n : Nat) (l : List UInt8), l.length ≤ n → (Lib.splitK [c] 0 (Lib.count l [c]) l).length = Lib.count l [c] + 1
  | n, l, hn => by
    rcases index_ways l c with h | ⟨i, h⟩
    · rw [Lib.count_miss h]; rfl
    · obtain ⟨h1, h2⟩ := index_hit h
      have hil : i < l.length := by
        have := congrArg List.length h1
        simp at this; omega
      obtain ⟨n, rfl⟩ : ∃ m, n = m + 1 := ⟨n - 1, by omega⟩
      have hm : ¬ (Lib.index l [c] == -1) = true := fun e => by have := beq_iff_eq.1 e; omega
      have e : (Lib.index l [c]).toNat = i := by omega
      rw [Lib.count_hit (by simp) h, Nat.add_comm 1, Lib.splitK, if_neg hm, e, List.length_singleton, Nat.add_zero, List.length_cons, splitK_len c n (l.drop (i + 1)) (by simp; omega)]
theorem splitB_len (c : UInt8) (s : ByteArray) : (Lib.splitB ⟨#[c]⟩ 0 (Lib.countB s ⟨#[c]⟩) s).length = Lib.countB s ⟨#[c]⟩ + 1 := by
  have h := congrArg List.length (Lib.splitB_data ⟨#[c]⟩ 0 (Lib.countB s ⟨#[c]⟩) s)
  rw [List.length_map] at h
  rw [h]
  exact splitK_len c _ s.data.toList (Nat.le_refl _)
theorem splitB_eq (c : UInt8) (s : ByteArray) : (Lib.splitB ⟨#[c]⟩ 0 (Lib.countB s ⟨#[c]⟩) s).map (·.data.toList) = splitL c s.data.toList := by
  rw [Lib.splitB_data]
  exact splitK_eq c _ s.data.toList (Nat.le_refl _)
/-- strings.Cut at one byte -/
theorem cut_eq (c : UInt8) (l : List UInt8) : Lib.cut l [c] = match splitL c l with
    | [] => (l, [], false)
    | [p] => (p, [], false)
    | p :: q :: r => (p, Lib.join (q :: r) [c], true) := by
  unfold Lib.cut
  rcases index_ways l c with h | ⟨i, h⟩
  · rw [if_neg (by omega), splitL_none (index_miss h)]
  · obtain ⟨h1, h2⟩ := index_hit h
    rw [if_pos (by omega), show (Lib.index l [c]).toNat = i by omega]
    have e : splitL c l = l.take i :: splitL c (l.drop (i + 1)) := by conv => lhs; rw [h1, splitL_cut _ h2]
    have hj := join_splitL c (l.drop (i + 1))
    have hne := splitL_ne c (l.drop (i + 1))
    rw [e]
    generalize splitL c (l.drop (i + 1)) = s at hj hne
    match s with
    | [] => exact absurd rfl hne
    | q :: r => simp [hj]
theorem cut_none {c : UInt8} {l : List UInt8} (h : c ∉ l) : Lib.cut l [c] = (l, [], false) := by rw [cut_eq, splitL_none h]
theorem cut_some {c : UInt8} {a b : List UInt8} (h : c ∉ a) : Lib.cut (a ++ c :: b) [c] = (a, b, true) := by
  have hj := join_splitL c b
  have hne := splitL_ne c b
  rw [cut_eq, splitL_cut _ h]
  generalize splitL c b = s at hj hne
  match s with
  | [] => exact absurd rfl hne
  | q :: r => simp [hj]
end Go.Proofs.YtjnheoelcahkaaaDoor.Spl
