/-
  The line of a proper rule, as words with single spaces between them.
-/
import Derived.Test.YtghdimmomnfakaaDoorPureAll
import Derived.Test.YtghdimmomnfakaaDoorGvText
import Derived.Lib.ItoaLen
import Derived.Test.YtghdimmomnfakaaDoorXx8
import Derived.Test.YtghdimmomnfakaaDoorXx9
set_option linter.unusedVariables false
set_option linter.unusedSimpArgs false
namespace Go.Proofs.YtghdimmomnfakaaDoor.Pure
open Go.RowKit Go.Proofs.YtghdimmomnfakaaDoorW.PrintWords Go.Proofs.YtghdimmomnfakaaDoorW.PrintLast Go.Proofs.YtghdimmomnfakaaDoorW.PrintMore Go.Proofs.YtghdimmomnfakaaDoor.Gv Go.Proofs.YtghdimmomnfakaaDoor.X
def itoaB (n : Int) : ByteArray := ⟨(Lib.itoa n).toArray⟩
def sp : ByteArray := ⟨#[32]⟩
/-- the words of a rule's line -/
def wordsR (x : S38) : List ByteArray :=
  if x.f0 = 1 then [⟨#[105, 110, 102, 105, 120]⟩, x.f1, x.f2, itoaB x.f3, itoaB x.f4, itoaB x.f5]
  else if x.f0 = 2 then [⟨#[112, 114, 101, 102, 105, 120]⟩, x.f1, x.f2, itoaB x.f3, itoaB x.f5]
  else if x.f0 = 3 then [⟨#[112, 111, 115, 116, 102, 105, 120]⟩, x.f1, x.f2, itoaB x.f3, itoaB x.f4]
  else [⟨#[106, 117, 120, 116, 97, 112, 111, 115, 101]⟩, x.f2, itoaB x.f3, itoaB x.f4, itoaB x.f5]
def lineB (x : S38) : ByteArray := ⟨(joinB (wordsR x) sp).toArray⟩
theorem itoa_f (n : Int) (h0 : -9223372036854775808 ≤ n) (h1 : n ≤ 9223372036854775807) : strconv_Itoa.f n = some (itoaB n) := by
  unfold strconv_Itoa.f
  rw [if_pos h0, if_pos h1]; rfl
theorem itoaB_size (n : Int) (h0 : -9223372036854775808 ≤ n) (h1 : n ≤ 9223372036854775807) : (itoaB n).size ≤ 21 := by
  have := Lib.itoa_length_le n h0 h1
  show (Lib.itoa n).toArray.size ≤ 21
  rw [List.size_toArray]; exact this
theorem joinB_len : ∀ (l : List ByteArray) (M : Nat), (∀ x ∈ l, x.size ≤ M) → (joinB l sp).length ≤ l.length * (M + 1)
  | [], M, _ => by simp [joinB, Lib.join_nil]
  | [x], M, h => by
    have := h x (by simp)
    have e : x.data.toList.length = x.size := by simp
    simp only [joinB, List.map_cons, List.map_nil, Lib.join_one, e, List.length_cons, List.length_nil]
    omega
  | x :: y :: r, M, h => by
    have hx := h x (by simp)
    have ih := joinB_len (y :: r) M (fun z hz => h z (by simp [hz]))
    have e : x.data.toList.length = x.size := by simp
    have e2 : (joinB (x :: y :: r) sp).length = x.size + 1 + (joinB (y :: r) sp).length := by
      simp only [joinB, List.map_cons, Lib.join_cons, Lib.joinTail, List.flatten_cons, List.length_append, e]
      show x.size + (1 + y.data.toList.length + _) = _
      omega
    rw [e2, List.length_cons, Nat.succ_mul]
    omega
theorem join_f (l : List ByteArray) (M : Nat) (h : ∀ x ∈ l, x.size ≤ M) (hl : l.length ≤ 10) (hM : M ≤ 1000000000000) : strings_Join.f l sp = some ⟨(joinB l sp).toArray⟩ := by
  have h1 := joinB_len l M h
  have h2 : l.length * (M + 1) ≤ 10 * (M + 1) := Nat.mul_le_mul_right _ hl
  unfold strings_Join.f
  rw [if_pos (by omega), if_pos (by omega)]
theorem prB_parts {x : S38} (h : prR x = true) : (x.f0 = 1 ∨ x.f0 = 2 ∨ x.f0 = 3 ∨ x.f0 = 4) ∧ (1 ≤ x.f3 ∧ x.f3 ≤ 100) ∧ (0 ≤ x.f4 ∧ x.f4 ≤ 101) ∧ (0 ≤ x.f5 ∧ x.f5 ≤ 101) ∧ nameB x.f2 = true ∧ kindB x.f0 x.f1 x.f4 x.f5 = true := by
  unfold prR prB at h
  simp only [Bool.and_eq_true, decide_eq_true_eq] at h
  obtain ⟨hn, ⟨h1, h2⟩, ⟨h3, h4⟩, ⟨h5, h6⟩, hk⟩ := h
  refine ⟨?_, ⟨h1, h2⟩, ⟨h3, h4⟩, ⟨h5, h6⟩, hn, hk⟩
  unfold kindB at hk
  by_cases a : x.f0 = 1
  · exact .inl a
  · by_cases b : x.f0 = 2
    · exact .inr (.inl b)
    · by_cases c : x.f0 = 3
      · exact .inr (.inr (.inl c))
      · by_cases d : x.f0 = 4
        · exact .inr (.inr (.inr d))
        · rw [if_neg a, if_neg b, if_neg c, if_neg d] at hk; cases hk
theorem words_size (x : S38) (M : Nat) (hM : 30 ≤ M) (h : prR x = true) (h1 : x.f1.size ≤ M) (h2 : x.f2.size ≤ M) : ∀ y ∈ wordsR x, y.size ≤ M := by
  obtain ⟨hk, p3, p4, p5, _, _⟩ := prB_parts h
  have i3 := itoaB_size x.f3 (by omega) (by omega)
  have i4 := itoaB_size x.f4 (by omega) (by omega)
  have i5 := itoaB_size x.f5 (by omega) (by omega)
  have k1 : (⟨#[105, 110, 102, 105, 120]⟩ : ByteArray).size = 5 := rfl
  have k2 : (⟨#[112, 114, 101, 102, 105, 120]⟩ : ByteArray).size = 6 := rfl
  have k3 : (⟨#[112, 111, 115, 116, 102, 105, 120]⟩ : ByteArray).size = 7 := rfl
  have k4 : (⟨#[106, 117, 120, 116, 97, 112, 111, 115, 101]⟩ : ByteArray).size = 9 := rfl
  intro y hy
  unfold wordsR at hy
  split at hy
  · simp only [List.mem_cons, List.not_mem_nil, or_false] at hy
    rcases hy with rfl | rfl | rfl | rfl | rfl | rfl <;> omega
  · split at hy
    · simp only [List.mem_cons, List.not_mem_nil, or_false] at hy
      rcases hy with rfl | rfl | rfl | rfl | rfl <;> omega
    · split at hy
      · simp only [List.mem_cons, List.not_mem_nil, or_false] at hy
        rcases hy with rfl | rfl | rfl | rfl | rfl <;> omega
      · simp only [List.mem_cons, List.not_mem_nil, or_false] at hy
        rcases hy with rfl | rfl | rfl | rfl | rfl <;> omega
theorem wordsR_len (x : S38) : (wordsR x).length ≤ 6 := by
  unfold wordsR
  split
  · simp
  · split
    · simp
    · split <;> simp
theorem line_f (x : S38) (M : Nat) (hM : 30 ≤ M) (hM2 : M ≤ 1000000) (h : prR x = true) (h1 : x.f1.size ≤ M) (h2 : x.f2.size ≤ M) (k : Nat) (hk : 3 ≤ k) : lineOf k x = some (lineB x) := by
  have hw := words_size x M hM h h1 h2
  have hl := wordsR_len x
  have hj := join_f (wordsR x) M hw (by omega) (by omega)
  obtain ⟨hkd, p3, p4, p5, _, _⟩ := prB_parts h
  have i3 := itoa_f x.f3 (by omega) (by omega)
  have i4 := itoa_f x.f4 (by omega) (by omega)
  have i5 := itoa_f x.f5 (by omega) (by omega)
  obtain ⟨k, rfl⟩ : ∃ m, k = m + 2 := ⟨k - 2, by omega⟩
  unfold lineOf Go.Proofs.YtghdimmomnfakaaDoor.Z.grammar_line.f lineB
  rw [← hj]
  unfold sp
  rcases hkd with e | e | e | e
  · rw [e, show wrap64 ((1 : Int) - 1) = 0 by unfold wrap64; omega, show grammar_shapes.f 0 = some (⟨#[105, 110, 102, 105, 120]⟩, true, true, true) from rfl]
    simp only [if_true, Bool.false_eq_true, if_false, Option.bind_some, Go.Proofs.YtghdimmomnfakaaDoor.Z.grammar_line.j0, Go.Proofs.YtghdimmomnfakaaDoor.Z.grammar_line.j1, i3, i4, i5, List.length_cons, List.length_nil, List.length_append, wordsR, e, show ¬ ((2 : Int) = 1) by decide, show ¬ ((3 : Int) = 1) by decide, show ¬ ((3 : Int) = 2) by decide, show ¬ ((4 : Int) = 1) by decide, show ¬ ((4 : Int) = 2) by decide, show ¬ ((4 : Int) = 3) by decide]
    repeat rw [if_pos (by omega)]
    simp only [List.cons_append, List.nil_append]
    cases strings_Join.f _ _ <;> rfl
  · rw [e, show wrap64 ((2 : Int) - 1) = 1 by unfold wrap64; omega, show grammar_shapes.f 1 = some (⟨#[112, 114, 101, 102, 105, 120]⟩, true, false, true) from rfl]
    simp only [if_true, Bool.false_eq_true, if_false, Option.bind_some, Go.Proofs.YtghdimmomnfakaaDoor.Z.grammar_line.j0, Go.Proofs.YtghdimmomnfakaaDoor.Z.grammar_line.j1, i3, i4, i5, List.length_cons, List.length_nil, List.length_append, wordsR, e, show ¬ ((2 : Int) = 1) by decide, show ¬ ((3 : Int) = 1) by decide, show ¬ ((3 : Int) = 2) by decide, show ¬ ((4 : Int) = 1) by decide, show ¬ ((4 : Int) = 2) by decide, show ¬ ((4 : Int) = 3) by decide]
    repeat rw [if_pos (by omega)]
    simp only [List.cons_append, List.nil_append]
    cases strings_Join.f _ _ <;> rfl
  · rw [e, show wrap64 ((3 : Int) - 1) = 2 by unfold wrap64; omega, show grammar_shapes.f 2 = some (⟨#[112, 111, 115, 116, 102, 105, 120]⟩, true, true, false) from rfl]
    simp only [if_true, Bool.false_eq_true, if_false, Option.bind_some, Go.Proofs.YtghdimmomnfakaaDoor.Z.grammar_line.j0, Go.Proofs.YtghdimmomnfakaaDoor.Z.grammar_line.j1, i3, i4, i5, List.length_cons, List.length_nil, List.length_append, wordsR, e, show ¬ ((2 : Int) = 1) by decide, show ¬ ((3 : Int) = 1) by decide, show ¬ ((3 : Int) = 2) by decide, show ¬ ((4 : Int) = 1) by decide, show ¬ ((4 : Int) = 2) by decide, show ¬ ((4 : Int) = 3) by decide]
    repeat rw [if_pos (by omega)]
    simp only [List.cons_append, List.nil_append]
    cases strings_Join.f _ _ <;> rfl
  · rw [e, show wrap64 ((4 : Int) - 1) = 3 by unfold wrap64; omega, show grammar_shapes.f 3 = some (⟨#[106, 117, 120, 116, 97, 112, 111, 115, 101]⟩, false, true, true) from rfl]
    simp only [if_true, Bool.false_eq_true, if_false, Option.bind_some, Go.Proofs.YtghdimmomnfakaaDoor.Z.grammar_line.j0, Go.Proofs.YtghdimmomnfakaaDoor.Z.grammar_line.j1, i3, i4, i5, List.length_cons, List.length_nil, List.length_append, wordsR, e, show ¬ ((2 : Int) = 1) by decide, show ¬ ((3 : Int) = 1) by decide, show ¬ ((3 : Int) = 2) by decide, show ¬ ((4 : Int) = 1) by decide, show ¬ ((4 : Int) = 2) by decide, show ¬ ((4 : Int) = 3) by decide]
    repeat rw [if_pos (by omega)]
    simp only [List.cons_append, List.nil_append]
    cases strings_Join.f _ _ <;> rfl
end Go.Proofs.YtghdimmomnfakaaDoor.Pure

set_option linter.unusedVariables false
namespace Go.Proofs.YtghdimmomnfakaaDoor.Pure
open Go.RowKit Go.Proofs.YtghdimmomnfakaaDoorW.PrintWords Go.Proofs.YtghdimmomnfakaaDoorW.PrintLast Go.Proofs.YtghdimmomnfakaaDoorW.PrintMore Go.Proofs.YtghdimmomnfakaaDoor.Gv Go.Proofs.YtghdimmomnfakaaDoor.X
def textL : List S38 → List UInt8
  | [] => []
  | x :: r => (lineB x).data.toList ++ 10 :: textL r
theorem textL_append : ∀ a b, textL (a ++ b) = textL a ++ textL b
  | [], b => rfl
  | x :: r, b => by simp [textL, textL_append r b]
/-- rules that are proper, with strings that are not too long -/
def okR (M : Nat) (l : List S38) : Prop := ∀ x ∈ l, prR x = true ∧ x.f1.size ≤ M ∧ x.f2.size ≤ M
theorem lineB_len (x : S38) (M : Nat) (hM : 30 ≤ M) (h : prR x = true) (h1 : x.f1.size ≤ M) (h2 : x.f2.size ≤ M) : (lineB x).data.toList.length ≤ 6 * (M + 1) := by
  have hw := joinB_len (wordsR x) M (words_size x M hM h h1 h2)
  have h6 := Nat.mul_le_mul_right (M + 1) (wordsR_len x)
  show (joinB (wordsR x) sp).toArray.toList.length ≤ _
  rw [List.toList_toArray]
  omega
theorem lines_f (M : Nat) (hM : 30 ≤ M) (hM2 : M ≤ 1000000) (k : Nat) (hk : 3 ≤ k) : ∀ l, okR M l → lines k l = some (textL l)
  | [], _ => rfl
  | x :: r, h => by
    obtain ⟨hp, h1, h2⟩ := h x (by simp)
    rw [lines, line_f x M hM hM2 hp h1 h2 k hk, lines_f M hM hM2 k hk r (fun y hy => h y (by simp [hy]))]
    rfl
theorem textL_len (M : Nat) (hM : 30 ≤ M) : ∀ l, okR M l → (textL l).length ≤ l.length * (6 * (M + 1) + 1)
  | [], _ => by simp [textL]
  | x :: r, h => by
    obtain ⟨hp, h1, h2⟩ := h x (by simp)
    have h3 := lineB_len x M hM hp h1 h2
    have ih := textL_len M hM r (fun y hy => h y (by simp [hy]))
    simp only [textL, List.length_append, List.length_cons, Nat.add_mul, Nat.one_mul]
    omega
theorem rd_lt {l : List S38} {j : Nat} (h : j < l.length) : rd_T38 l (j : Int) = l[j] := by
  unfold rd_T38
  rw [show ((j : Int)).toNat = j from rfl, List.getD_eq_getElem?_getD, List.getElem?_eq_getElem h]
  rfl
theorem rd_take {l : List S38} {m j : Nat} (h : j < m) (hm : m ≤ l.length) : rd_T38 (l.take m) (j : Int) = rd_T38 l (j : Int) := by
  rw [rd_lt (by simp; omega), rd_lt (by omega)]
  simp
theorem clRest_take {l : List S38} {m : Nat} (hm : m ≤ l.length) (y : S38) : ∀ n j, j + n ≤ m → clRest (l.take m) y n j = clRest l y n j
  | 0, _, _ => rfl
  | n + 1, j, h => by rw [clRest, clRest, rd_take (by omega) hm, clRest_take hm y n (j + 1) (by omega)]
theorem vRest_take {l : List S38} {m : Nat} (hm : m ≤ l.length) : ∀ n i, i + n ≤ m → vRest (l.take m) n i = vRest l n i
  | 0, _, _ => rfl
  | n + 1, i, h => by rw [vRest, vRest, rd_take (by omega) hm, clRest_take hm _ i 0 (by omega), vRest_take hm n (i + 1) (by omega)]
theorem vRest_less {l : List S38} : ∀ n m i, n ≤ m → vRest l m i = true → vRest l n i = true
  | 0, _, _, _, _ => rfl
  | n + 1, 0, _, h, _ => by omega
  | n + 1, m + 1, i, h, hv => by
    rw [vRest, Bool.and_eq_true] at hv ⊢
    exact ⟨hv.1, vRest_less n m (i + 1) (by omega) hv.2⟩
theorem vRest_pr {l : List S38} : ∀ n i, vRest l n i = true → ∀ j, i ≤ j → j < i + n → prR (rd_T38 l (j : Int)) = true
  | 0, _, _, j, _, _ => by omega
  | n + 1, i, hv, j, h1, h2 => by
    rw [vRest, Bool.and_eq_true, Bool.and_eq_true] at hv
    by_cases e : j = i
    · subst e; exact hv.1.1
    · exact vRest_pr n (i + 1) hv.2 j (by omega) (by omega)
theorem okR_of {M : Nat} {l : List S38} (hs : smallR M l) (hv : vRest l l.length 0 = true) : okR M l := by
  intro x hx
  obtain ⟨j, hj, rfl⟩ := List.getElem_of_mem hx
  rw [← rd_lt hj]
  exact ⟨vRest_pr _ _ hv j (by omega) (by omega), hs j hj⟩
theorem smallR_take {M : Nat} {l : List S38} (hs : smallR M l) (m : Nat) (hm : m ≤ l.length) : smallR M (l.take m) := fun j hj => by
  have : j < m := by simp at hj; omega
  rw [rd_take this hm]
  exact hs j (by omega)
theorem text_f (M : Nat) (hM : 30 ≤ M) (hM2 : M ≤ 1000000) (l : List S38) (hl : l.length ≤ 64) (hs : smallR M l) (hv : vRest l l.length 0 = true) (k : Nat) (hk : l.length + M + 60 ≤ k) : grammar_Text.f k l = some ⟨(textL l).toArray⟩ := by
  have hok := okR_of hs hv
  have hlen := textL_len M hM l hok
  have : l.length * (6 * (M + 1) + 1) ≤ 64 * (6 * (M + 1) + 1) := Nat.mul_le_mul_right _ hl
  unfold grammar_Text.f
  rw [impl_valid l M (by omega) (by omega) hs k hk, hv, decide_eq_true hl, Option.bind_some, Bool.and_self, if_pos rfl, lines_f M hM hM2 k (by omega) l hok, Option.bind_some, if_pos (by omega)]
theorem text_no (M : Nat) (hM2 : M ≤ 1000000) (l : List S38) (hl : l.length ≤ 9223372036854775807) (hs : smallR M l) (h : (decide (l.length ≤ 64) && vRest l l.length 0) = false) (k : Nat) (hk : l.length + M + 60 ≤ k) : grammar_Text.f k l = some ⟨#[]⟩ := by
  unfold grammar_Text.f
  rw [impl_valid l M (by omega) hl hs k hk, h, Option.bind_some, if_neg (by decide)]
end Go.Proofs.YtghdimmomnfakaaDoor.Pure

set_option linter.unusedVariables false
namespace Go.Proofs.YtghdimmomnfakaaDoor.Pure
open Go.RowKit Go.Proofs.YtghdimmomnfakaaDoorW.PrintWords Go.Proofs.YtghdimmomnfakaaDoorW.PrintLast Go.Proofs.YtghdimmomnfakaaDoorW.PrintMore Go.Proofs.YtghdimmomnfakaaDoor.Gv Go.Proofs.YtghdimmomnfakaaDoor.X
theorem short_says (l : List S38) (hl : l.length ≤ 9223372036854775807) : ∀ k i, i ≤ l.length → vinculumlaw49_short.l0 k l (i : Int) = some true →
    l.length ≤ 80 ∧ ∀ j, i ≤ j → j < l.length → (rd_T38 l (j : Int)).f1.size ≤ 100 ∧ (rd_T38 l (j : Int)).f2.size ≤ 100
  | 0, i, _, h => by simp [vinculumlaw49_short.l0] at h
  | k + 1, i, hi, h => by
    rw [vinculumlaw49_short.l0] at h
    by_cases c : (i : Int) < (l.length : Int)
    · rw [if_pos c, if_pos (by omega)] at h
      by_cases c1 : ((rd_T38 l (i : Int)).f1.size : Int) > 100
      · rw [if_pos c1] at h; simp at h
      rw [if_neg c1] at h
      by_cases c2 : ((rd_T38 l (i : Int)).f2.size : Int) > 100
      · rw [if_pos c2] at h; simp at h
      rw [if_neg c2, w64 (x := (i : Int) + 1) (by omega) (by omega)] at h
      obtain ⟨h1, h2⟩ := short_says l hl k (i + 1) (by omega) h
      refine ⟨h1, fun j hj hj2 => ?_⟩
      by_cases e : j = i
      · subst e; omega
      · exact h2 j (by omega) hj2
    · rw [if_neg c] at h
      have := of_decide_eq_true (Option.some.inj h)
      exact ⟨by omega, fun j hj hj2 => by omega⟩
/-- the symbols from place i on, each once -/
def symRest (l : List S38) : Nat → List ByteArray → Nat → List ByteArray
  | 0, acc, _ => acc
  | n + 1, acc, i => if (rd_T38 l (i : Int)).f1.toList = ([] : List UInt8) then symRest l n acc (i + 1) else if restIn acc (rd_T38 l (i : Int)).f1 0 = true then symRest l n acc (i + 1) else symRest l n (acc ++ [(rd_T38 l (i : Int)).f1]) (i + 1)
theorem x_index_l0 (l : List ByteArray) (s : ByteArray) (hl : l.length ≤ 9223372036854775807) : ∀ n i k, l.length = i + n → n < k →
    ∃ r, slices_Index_string_string.l0 k l s (l.length : Int) (i : Int) = some r ∧ decide (r ≥ 0) = restIn l s i
  | n, i, 0, _, hk => by omega
  | n, i, k + 1, hi, hk => by
    rw [slices_Index_string_string.l0]
    by_cases h : (i : Int) < (l.length : Int)
    · rw [if_pos h, if_pos (by omega), if_pos h, restIn_step (by omega)]
      by_cases c : s.toList = (rdOf ByteArray.empty l (i : Int)).toList
      · rw [if_pos c]
        exact ⟨_, rfl, by rw [decide_eq_true c.symm, decide_eq_true (by omega)]; rfl⟩
      · rw [if_neg c, decide_eq_false (fun e => c e.symm), w64 (x := (i : Int) + 1) (by omega) (by omega), Bool.false_or]
        obtain ⟨m, rfl⟩ : ∃ m, n = m + 1 := ⟨n - 1, by omega⟩
        exact x_index_l0 l s hl m (i + 1) k (by omega) (by omega)
    · rw [if_neg h, restIn_end (by omega)]
      exact ⟨_, rfl, by simp⟩
theorem x_contains (l : List ByteArray) (s : ByteArray) (hl : l.length ≤ 9223372036854775807) (k : Nat) (hk : l.length < k) : slices_Contains_string_string.f k l s = some (restIn l s 0) := by
  obtain ⟨r, h1, h2⟩ := x_index_l0 l s hl l.length 0 k (by omega) hk
  unfold slices_Contains_string_string.f slices_Index_string_string.f
  rw [show (0 : Int) = ((0 : Nat) : Int) from rfl, h1, Option.bind_some, ← h2]
  rfl
theorem ref_Has_l0 (l : List ByteArray) (s : ByteArray) (hl : l.length ≤ 9223372036854775807) : ∀ n i k, l.length = i + n → n < k → vinculumref48_Has.l0 k l s (i : Int) = some (restIn l s i)
  | n, i, 0, _, hk => by omega
  | n, i, k + 1, hi, hk => by
    rw [vinculumref48_Has.l0]
    by_cases h : (i : Int) < (l.length : Int)
    · rw [if_pos h, if_pos (by omega), restIn_step (by omega)]
      by_cases c : (rdOf ByteArray.empty l (i : Int)).toList = s.toList
      · rw [if_pos c, decide_eq_true c]; rfl
      · rw [if_neg c, decide_eq_false c, w64 (x := (i : Int) + 1) (by omega) (by omega), Bool.false_or]
        obtain ⟨m, rfl⟩ : ∃ m, n = m + 1 := ⟨n - 1, by omega⟩
        exact ref_Has_l0 l s hl m (i + 1) k (by omega) (by omega)
    · rw [if_neg h, restIn_end (by omega)]
theorem impl_syms (l : List S38) (hl : l.length ≤ 80) : ∀ n acc i k, l.length = i + n → acc.length ≤ i → n + 100 ≤ k → grammar_Symbols.l0 k acc l (l.length : Int) (i : Int) = some (symRest l n acc i)
  | n, acc, i, 0, _, _, hk => by omega
  | n, acc, i, k + 1, hi, ha, hk => by
    rw [grammar_Symbols.l0]
    by_cases h : (i : Int) < (l.length : Int)
    · obtain ⟨m, rfl⟩ : ∃ m, n = m + 1 := ⟨n - 1, by omega⟩
      rw [if_pos h, if_pos (by omega), if_pos h, x_contains acc _ (by omega) k (by omega), Option.bind_some, w64 (x := (i : Int) + 1) (by omega) (by omega), symRest]
      have e0 := impl_syms l hl m acc (i + 1) k (by omega) (by omega) (by omega)
      have e1 := impl_syms l hl m (acc ++ [(rd_T38 l (i : Int)).f1]) (i + 1) k (by omega) (by simp; omega) (by omega)
      split
      · exact e0
      · split
        · exact e0
        · rw [if_pos (by omega)]
          exact e1
    · rw [if_neg h]
      obtain rfl : n = 0 := by omega
      rfl
theorem ref_syms (l : List S38) (hl : l.length ≤ 80) : ∀ n acc i k, l.length = i + n → acc.length ≤ i → n + 100 ≤ k → vinculumref49_Symbols.l0 k l acc (i : Int) = some (symRest l n acc i)
  | n, acc, i, 0, _, _, hk => by omega
  | n, acc, i, k + 1, hi, ha, hk => by
    rw [vinculumref49_Symbols.l0]
    by_cases h : (i : Int) < (l.length : Int)
    · obtain ⟨m, rfl⟩ : ∃ m, n = m + 1 := ⟨n - 1, by omega⟩
      have has : vinculumref48_Has.f k acc (rd_T38 l (i : Int)).f1 = some (restIn acc (rd_T38 l (i : Int)).f1 0) := ref_Has_l0 acc _ (by omega) acc.length 0 k (by omega) (by omega)
      rw [if_pos h, if_pos (by omega), has, Option.bind_some, w64 (x := (i : Int) + 1) (by omega) (by omega), symRest]
      have e0 := ref_syms l hl m acc (i + 1) k (by omega) (by omega) (by omega)
      have e1 := ref_syms l hl m (acc ++ [(rd_T38 l (i : Int)).f1]) (i + 1) k (by omega) (by simp; omega) (by omega)
      split
      · exact e0
      · split
        · exact e0
        · rw [if_pos (by omega)]
          exact e1
    · rw [if_neg h]
      obtain rfl : n = 0 := by omega
      rfl
theorem law_l0 (l : List S38) (a : List ByteArray) (b : Bool) (K : Nat) (hv : ∀ k, K ≤ k → grammar_Valid.f k l = some b) (hr : ∀ k, K ≤ k → vinculumref49_Valid.f k l = some b) (ha : a.length ≤ 9223372036854775807) : ∀ n i k, a.length = i + n → n + K + 1 ≤ k →
    vinculumlaw49_GrammarValid.l0 k l a a (i : Int) = some true
  | n, i, 0, _, hk => by omega
  | n, i, k + 1, hi, hk => by
    rw [vinculumlaw49_GrammarValid.l0]
    by_cases h : (i : Int) < (a.length : Int)
    · obtain ⟨m, rfl⟩ : ∃ m, n = m + 1 := ⟨n - 1, by omega⟩
      rw [if_pos h, if_pos (by omega), if_pos h, if_pos rfl, w64 (x := (i : Int) + 1) (by omega) (by omega)]
      exact law_l0 l a b K hv hr ha m (i + 1) k (by omega) (by omega)
    · rw [if_neg h, hv k (by omega), hr k (by omega), Option.bind_some, Option.bind_some, beq_self_eq_true]
theorem symRest_len (l : List S38) : ∀ n acc i, (symRest l n acc i).length ≤ acc.length + n
  | 0, acc, i => by simp [symRest]
  | n + 1, acc, i => by
    rw [symRest]
    have e0 := symRest_len l n acc (i + 1)
    have e1 := symRest_len l n (acc ++ [(rd_T38 l (i : Int)).f1]) (i + 1)
    simp at e1
    split
    · omega
    · split <;> omega
theorem GrammarValid (l0 : List S38) (hl : l0.length ≤ 9223372036854775807) : ∃ k, vinculumlaw49_GrammarValid.f k l0 = some true := by
  refine ⟨l0.length * (l0.length + 2) + l0.length + 1000, ?_⟩
  generalize hK : l0.length * (l0.length + 2) + l0.length + 1000 = K
  obtain ⟨b, hb⟩ := short l0 hl K (by omega)
  unfold vinculumlaw49_GrammarValid.f
  rw [awake _ (by omega), Option.bind_some, if_pos rfl, hb, Option.bind_some]
  cases b with
  | false => rfl
  | true =>
    obtain ⟨h80, hsm⟩ := short_says l0 hl K 0 (by omega) hb
    have hs : smallR 100 l0 := fun j hj => hsm j (by omega) hj
    have hlen := symRest_len l0 l0.length [] 0
    simp at hlen
    rw [if_pos rfl]
    unfold grammar_Symbols.f vinculumref49_Symbols.f
    rw [show (0 : Int) = ((0 : Nat) : Int) from rfl, impl_syms l0 h80 l0.length [] 0 K (by omega) (by simp) (by omega), ref_syms l0 h80 l0.length [] 0 K (by omega) (by simp) (by omega), Option.bind_some, Option.bind_some, if_pos rfl]
    refine law_l0 l0 _ (decide (l0.length ≤ 64) && vRest l0 l0.length 0) (l0.length * (l0.length + 2) + 300 + l0.length) (fun k hk => impl_valid l0 100 (by omega) hl hs k (by omega)) (fun k hk => ?_) (by omega) (symRest l0 l0.length [] 0).length 0 K (by omega) (by omega)
    rw [ref_valid l0 100 (by omega) hl hs k (by omega), Bool.and_comm]
end Go.Proofs.YtghdimmomnfakaaDoor.Pure

set_option linter.unusedVariables false
namespace Go.Proofs.YtghdimmomnfakaaDoor.Pure
open Go.RowKit Go.Proofs.YtghdimmomnfakaaDoorW.PrintWords Go.Proofs.YtghdimmomnfakaaDoorW.PrintLast Go.Proofs.YtghdimmomnfakaaDoorW.PrintMore Go.Proofs.YtghdimmomnfakaaDoor.Gv Go.Proofs.YtghdimmomnfakaaDoor.X
theorem GrammarBegins (l0 : List S38) (hl : l0.length ≤ 9223372036854775807) (a1 : Int) (w1 : (Lit.int .u8 a1).wf = true) : ∃ k, vinculumlaw49_GrammarBegins.f k l0 a1 = some true := by
  have hb : 0 ≤ a1 ∧ a1 ≤ 255 := by simp only [Lit.wf, Bool.and_eq_true, decide_eq_true_eq] at w1; exact w1
  refine ⟨l0.length * (l0.length + 2) + l0.length + 1000, ?_⟩
  generalize hK : l0.length * (l0.length + 2) + l0.length + 1000 = K
  obtain ⟨b, hsh⟩ := short l0 hl K (by omega)
  obtain ⟨K, rfl⟩ : ∃ m, K = m + 1 := ⟨K - 1, by omega⟩
  unfold vinculumlaw49_GrammarBegins.f
  rw [awake _ (by omega), Option.bind_some, if_pos rfl, hsh, Option.bind_some]
  cases b with
  | false => rw [if_neg (by decide), vinculumlaw49_GrammarBegins.j0, if_pos rfl]
  | true =>
    obtain ⟨h80, hsm⟩ := short_says l0 hl (K + 1) 0 (by omega) hsh
    have hs : smallR 100 l0 := fun j hj => hsm j (by omega) hj
    rw [if_pos rfl, ref_valid l0 100 (by omega) hl hs (K + 1) (by omega), Option.bind_some, vinculumlaw49_GrammarBegins.j0]
    cases hv : (vRest l0 l0.length 0 && decide (l0.length ≤ 64)) with
    | false => rw [Bool.not_false, if_pos rfl]
    | true =>
      rw [Bool.and_eq_true, decide_eq_true_eq] at hv
      obtain ⟨hv, h64⟩ := hv
      have e1 : wrap64 ((l0.length : Int) + 1) = (l0.length : Int) + 1 := w64 (by omega) (by omega)
      have e2 : wrap64 a1 = a1 := w64 (by omega) (by omega)
      have h0 : 0 ≤ Int.tmod a1 ((l0.length : Int) + 1) := Int.tmod_nonneg _ hb.1
      have h1 : Int.tmod a1 ((l0.length : Int) + 1) < (l0.length : Int) + 1 := Int.tmod_lt_of_pos _ (by omega)
      rw [Bool.not_true, if_neg (by decide), e1, e2, if_neg (by omega), text_f 100 (by omega) (by omega) l0 h64 hs hv K (by omega), Option.bind_some, if_pos h0, if_pos (by omega)]
      generalize hm : (Int.tmod a1 ((l0.length : Int) + 1)).toNat = m
      have hml : m ≤ l0.length := by omega
      have hlm : (l0.take m).length = m := by simp; omega
      have hvm : vRest (l0.take m) (l0.take m).length 0 = true := by
        rw [hlm, vRest_take hml m 0 (by omega)]
        exact vRest_less m l0.length 0 hml hv
      have hsm' := smallR_take hs m hml
      have e3 : textL l0 = textL (l0.take m) ++ textL (l0.drop m) := by rw [← textL_append, List.take_append_drop]
      rw [text_f 100 (by omega) (by omega) (l0.take m) (by omega) hsm' hvm K (by omega), Option.bind_some, impl_valid (l0.take m) 100 (by omega) (by omega) hsm' K (by omega), hvm, decide_eq_true (by omega : (l0.take m).length ≤ 64), Option.bind_some, Bool.and_self, if_pos rfl]
      have hz1 : (⟨(textL (l0.take m)).toArray⟩ : ByteArray).size = (textL (l0.take m)).length := by show (textL (l0.take m)).toArray.size = _; simp
      have hz2 : (⟨(textL l0).toArray⟩ : ByteArray).size = (textL l0).length := by show (textL l0).toArray.size = _; simp
      have hle : (textL (l0.take m)).length ≤ (textL l0).length := by rw [e3]; simp
      rw [hz1, hz2, if_pos (by omega), if_pos (by omega)]
      congr 1
      rw [beq_iff_eq, ByteArray.toList_eq, ByteArray.toList_eq]
      simp [ByteArray.data_extract, e3]
end Go.Proofs.YtghdimmomnfakaaDoor.Pure
