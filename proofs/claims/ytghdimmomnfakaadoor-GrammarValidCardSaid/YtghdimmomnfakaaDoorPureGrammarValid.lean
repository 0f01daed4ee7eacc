/-
  The plain law GrammarValid: numbers and lists alone.
-/
import Derived.Test.YtghdimmomnfakaaDoorPureAll
import Derived.Test.YtghdimmomnfakaaDoorXx8
set_option linter.unusedVariables false
namespace Go.Proofs.YtghdimmomnfakaaDoor.Pure
open Go.RowKit Go.Proofs.YtghdimmomnfakaaDoorW.PrintWords Go.Proofs.YtghdimmomnfakaaDoorW.PrintLast Go.Proofs.YtghdimmomnfakaaDoorW.PrintMore Go.Proofs.YtghdimmomnfakaaDoor.Gv Go.Proofs.YtghdimmomnfakaaDoor.X
theorem short_says (l : List S38) (hl : l.length ≤ 9223372036854775807) : ∀ k i, i ≤ l.length → vinculumlaw49_short.l0 k l (i : Int) = some true →
    l.length ≤ 80 ∧ ∀ j, i ≤ j → j < l.length → (rd_T38 l (j : Int)).f1.size ≤ 100 ∧ (rd_T38 l (j : Int)).f2.size ≤ 100
  | 0, i, _, h => by simp [vinculumlaw49_short.l0] at h
  | k + 1, i, hi, h => by
    rw [vinculumlaw49_short.l0] at h
    by_cases c : (i : Int) < (l.length : Int)
    · rw [if_pos c, if_pos (by omega)] at h
      by_cases c1 : ((rd_T38 l (i : Int)).f1.size : Int) > 100
      · rw [if_pos c1] at h; simp at h
      rw [if_neg c1] at h
      by_cases c2 : ((rd_T38 l (i : Int)).f2.size : Int) > 100
      · rw [if_pos c2] at h; simp at h
      rw [if_neg c2, w64 (x := (i : Int) + 1) (by omega) (by omega)] at h
      obtain ⟨h1, h2⟩ := short_says l hl k (i + 1) (by omega) h
      refine ⟨h1, fun j hj hj2 => ?_⟩
      by_cases e : j = i
      · subst e; omega
      · exact h2 j (by omega) hj2
    · rw [if_neg c] at h
      have := of_decide_eq_true (Option.some.inj h)
      exact ⟨by omega, fun j hj hj2 => by omega⟩
/-- the symbols from place i on, each once -/
def symRest (l : List S38) : Nat → List ByteArray → Nat → List ByteArray
  | 0, acc, _ => acc
  | n + 1, acc, i => if (rd_T38 l (i : Int)).f1.toList = ([] : List UInt8) then symRest l n acc (i + 1) else if restIn acc (rd_T38 l (i : Int)).f1 0 = true then symRest l n acc (i + 1) else symRest l n (acc ++ [(rd_T38 l (i : Int)).f1]) (i + 1)
theorem x_index_l0 (l : List ByteArray) (s : ByteArray) (hl : l.length ≤ 9223372036854775807) : ∀ n i k, l.length = i + n → n < k →
    ∃ r, slices_Index_string_string.l0 k l s (l.length : Int) (i : Int) = some r ∧ decide (r ≥ 0) = restIn l s i
  | n, i, 0, _, hk => by omega
  | n, i, k + 1, hi, hk => by
    rw [slices_Index_string_string.l0]
    by_cases h : (i : Int) < (l.length : Int)
    · rw [if_pos h, if_pos (by omega), if_pos h, restIn_step (by omega)]
      by_cases c : s.toList = (rdOf ByteArray.empty l (i : Int)).toList
      · rw [if_pos c]
        exact ⟨_, rfl, by rw [decide_eq_true c.symm, decide_eq_true (by omega)]; rfl⟩
      · rw [if_neg c, decide_eq_false (fun e => c e.symm), w64 (x := (i : Int) + 1) (by omega) (by omega), Bool.false_or]
        obtain ⟨m, rfl⟩ : ∃ m, n = m + 1 := ⟨n - 1, by omega⟩
        exact x_index_l0 l s hl m (i + 1) k (by omega) (by omega)
    · rw [if_neg h, restIn_end (by omega)]
      exact ⟨_, rfl, by simp⟩
theorem x_contains (l : List ByteArray) (s : ByteArray) (hl : l.length ≤ 9223372036854775807) (k : Nat) (hk : l.length < k) : slices_Contains_string_string.f k l s = some (restIn l s 0) := by
  obtain ⟨r, h1, h2⟩ := x_index_l0 l s hl l.length 0 k (by omega) hk
  unfold slices_Contains_string_string.f slices_Index_string_string.f
  rw [show (0 : Int) = ((0 : Nat) : Int) from rfl, h1, Option.bind_some, ← h2]
  rfl
theorem ref_Has_l0 (l : List ByteArray) (s : ByteArray) (hl : l.length ≤ 9223372036854775807) : ∀ n i k, l.length = i + n → n < k → vinculumref48_Has.l0 k l s (i : Int) = some (restIn l s i)
  | n, i, 0, _, hk => by omega
  | n, i, k + 1, hi, hk => by
    rw [vinculumref48_Has.l0]
    by_cases h : (i : Int) < (l.length : Int)
    · rw [if_pos h, if_pos (by omega), restIn_step (by omega)]
      by_cases c : (rdOf ByteArray.empty l (i : Int)).toList = s.toList
      · rw [if_pos c, decide_eq_true c]; rfl
      · rw [if_neg c, decide_eq_false c, w64 (x := (i : Int) + 1) (by omega) (by omega), Bool.false_or]
        obtain ⟨m, rfl⟩ : ∃ m, n = m + 1 := ⟨n - 1, by omega⟩
        exact ref_Has_l0 l s hl m (i + 1) k (by omega) (by omega)
    · rw [if_neg h, restIn_end (by omega)]
theorem impl_syms (l : List S38) (hl : l.length ≤ 80) : ∀ n acc i k, l.length = i + n → acc.length ≤ i → n + 100 ≤ k → grammar_Symbols.l0 k acc l (l.length : Int) (i : Int) = some (symRest l n acc i)
  | n, acc, i, 0, _, _, hk => by omega
  | n, acc, i, k + 1, hi, ha, hk => by
    rw [grammar_Symbols.l0]
    by_cases h : (i : Int) < (l.length : Int)
    · obtain ⟨m, rfl⟩ : ∃ m, n = m + 1 := ⟨n - 1, by omega⟩
      rw [if_pos h, if_pos (by omega), if_pos h, x_contains acc _ (by omega) k (by omega), Option.bind_some, w64 (x := (i : Int) + 1) (by omega) (by omega), symRest]
      have e0 := impl_syms l hl m acc (i + 1) k (by omega) (by omega) (by omega)
      have e1 := impl_syms l hl m (acc ++ [(rd_T38 l (i : Int)).f1]) (i + 1) k (by omega) (by simp; omega) (by omega)
      split
      · exact e0
      · split
        · exact e0
        · rw [if_pos (by omega)]
          exact e1
    · rw [if_neg h]
      obtain rfl : n = 0 := by omega
      rfl
theorem ref_syms (l : List S38) (hl : l.length ≤ 80) : ∀ n acc i k, l.length = i + n → acc.length ≤ i → n + 100 ≤ k → vinculumref49_Symbols.l0 k l acc (i : Int) = some (symRest l n acc i)
  | n, acc, i, 0, _, _, hk => by omega
  | n, acc, i, k + 1, hi, ha, hk => by
    rw [vinculumref49_Symbols.l0]
    by_cases h : (i : Int) < (l.length : Int)
    · obtain ⟨m, rfl⟩ : ∃ m, n = m + 1 := ⟨n - 1, by omega⟩
      have has : vinculumref48_Has.f k acc (rd_T38 l (i : Int)).f1 = some (restIn acc (rd_T38 l (i : Int)).f1 0) := ref_Has_l0 acc _ (by omega) acc.length 0 k (by omega) (by omega)
      rw [if_pos h, if_pos (by omega), has, Option.bind_some, w64 (x := (i : Int) + 1) (by omega) (by omega), symRest]
      have e0 := ref_syms l hl m acc (i + 1) k (by omega) (by omega) (by omega)
      have e1 := ref_syms l hl m (acc ++ [(rd_T38 l (i : Int)).f1]) (i + 1) k (by omega) (by simp; omega) (by omega)
      split
      · exact e0
      · split
        · exact e0
        · rw [if_pos (by omega)]
          exact e1
    · rw [if_neg h]
      obtain rfl : n = 0 := by omega
      rfl
theorem law_l0 (l : List S38) (a : List ByteArray) (b : Bool) (K : Nat) (hv : ∀ k, K ≤ k → grammar_Valid.f k l = some b) (hr : ∀ k, K ≤ k → vinculumref49_Valid.f k l = some b) (ha : a.length ≤ 9223372036854775807) : ∀ n i k, a.length = i + n → n + K + 1 ≤ k →
    vinculumlaw49_GrammarValid.l0 k l a a (i : Int) = some true
  | n, i, 0, _, hk => by omega
  | n, i, k + 1, hi, hk => by
    rw [vinculumlaw49_GrammarValid.l0]
    by_cases h : (i : Int) < (a.length : Int)
    · obtain ⟨m, rfl⟩ : ∃ m, n = m + 1 := ⟨n - 1, by omega⟩
      rw [if_pos h, if_pos (by omega), if_pos h, if_pos rfl, w64 (x := (i : Int) + 1) (by omega) (by omega)]
      exact law_l0 l a b K hv hr ha m (i + 1) k (by omega) (by omega)
    · rw [if_neg h, hv k (by omega), hr k (by omega), Option.bind_some, Option.bind_some, beq_self_eq_true]
theorem symRest_len (l : List S38) : ∀ n acc i, (symRest l n acc i).length ≤ acc.length + n
  | 0, acc, i => by simp [symRest]
  | n + 1, acc, i => by
    rw [symRest]
    have e0 := symRest_len l n acc (i + 1)
    have e1 := symRest_len l n (acc ++ [(rd_T38 l (i : Int)).f1]) (i + 1)
    simp at e1
    split
    · omega
    · split <;> omega
theorem GrammarValid (l0 : List S38) (hl : l0.length ≤ 9223372036854775807) : ∃ k, vinculumlaw49_GrammarValid.f k l0 = some true := by
  refine ⟨l0.length * (l0.length + 2) + l0.length + 1000, ?_⟩
  generalize hK : l0.length * (l0.length + 2) + l0.length + 1000 = K
  obtain ⟨b, hb⟩ := short l0 hl K (by omega)
  unfold vinculumlaw49_GrammarValid.f
  rw [awake _ (by omega), Option.bind_some, if_pos rfl, hb, Option.bind_some]
  cases b with
  | false => rfl
  | true =>
    obtain ⟨h80, hsm⟩ := short_says l0 hl K 0 (by omega) hb
    have hs : smallR 100 l0 := fun j hj => hsm j (by omega) hj
    have hlen := symRest_len l0 l0.length [] 0
    simp at hlen
    rw [if_pos rfl]
    unfold grammar_Symbols.f vinculumref49_Symbols.f
    rw [show (0 : Int) = ((0 : Nat) : Int) from rfl, impl_syms l0 h80 l0.length [] 0 K (by omega) (by simp) (by omega), ref_syms l0 h80 l0.length [] 0 K (by omega) (by simp) (by omega), Option.bind_some, Option.bind_some, if_pos rfl]
    refine law_l0 l0 _ (decide (l0.length ≤ 64) && vRest l0 l0.length 0) (l0.length * (l0.length + 2) + 300 + l0.length) (fun k hk => impl_valid l0 100 (by omega) hl hs k (by omega)) (fun k hk => ?_) (by omega) (symRest l0 l0.length [] 0).length 0 K (by omega) (by omega)
    rw [ref_valid l0 100 (by omega) hl hs k (by omega), Bool.and_comm]
end Go.Proofs.YtghdimmomnfakaaDoor.Pure
