/-
  The example of the document holds; short answers for every list.
-/
import Derived.Test.YtghdimmomnfakaaDoorXx1
import Derived.Test.YtghdimmomnfakaaDoorXx2
import Derived.Test.YtghdimmomnfakaaDoorXx3
import Derived.Test.YtghdimmomnfakaaDoorXx4
import Derived.Test.YtghdimmomnfakaaDoorXx5
import Derived.Test.YtghdimmomnfakaaDoorXx6
import Derived.Test.YtghdimmomnfakaaDoorXx7
import Derived.Test.YtghdimmomnfakaaDoorGvValid
set_option linter.unusedVariables false
namespace Go.Proofs.YtghdimmomnfakaaDoor.Pure
open Go.RowKit Go.Proofs.YtghdimmomnfakaaDoorW.PrintWords Go.Proofs.YtghdimmomnfakaaDoorW.PrintLast Go.Proofs.YtghdimmomnfakaaDoorW.PrintMore Go.Proofs.YtghdimmomnfakaaDoor.Gv Go.Proofs.YtghdimmomnfakaaDoor.X
theorem w64 {x : Int} (h0 : -9223372036854775808 ≤ x) (h1 : x ≤ 9223372036854775807) : wrap64 x = x := by
  unfold wrap64
  omega
set_option maxRecDepth 100000 in
theorem awake_at : vinculumlaw49_awake.f 20 = some true := by kernel_rfl
theorem awake (k : Nat) (h : 20 ≤ k) : vinculumlaw49_awake.f k = some true := at_rounds vinculumlaw49_awake.mono h awake_at
theorem short_l0 (l : List S38) (hl : l.length ≤ 9223372036854775807) : ∀ n i k, l.length = i + n → n < k → ∃ b, vinculumlaw49_short.l0 k l (i : Int) = some b
  | n, i, 0, _, hk => by omega
  | n, i, k + 1, hi, hk => by
    rw [vinculumlaw49_short.l0]
    by_cases h : (i : Int) < (l.length : Int)
    · rw [if_pos h, if_pos (by omega)]
      split
      · exact ⟨_, rfl⟩
      · split
        · exact ⟨_, rfl⟩
        · rw [w64 (x := (i : Int) + 1) (by omega) (by omega)]
          obtain ⟨m, rfl⟩ : ∃ m, n = m + 1 := ⟨n - 1, by omega⟩
          exact short_l0 l hl m (i + 1) k (by omega) (by omega)
    · rw [if_neg h]
      exact ⟨_, rfl⟩
theorem short (l : List S38) (hl : l.length ≤ 9223372036854775807) (k : Nat) (hk : l.length < k) : ∃ b, vinculumlaw49_short.f k l = some b :=
  short_l0 l hl l.length 0 k (by omega) hk
end Go.Proofs.YtghdimmomnfakaaDoor.Pure

set_option linter.unusedVariables false
set_option linter.unusedSimpArgs false
namespace Go.Proofs.YtghdimmomnfakaaDoor.Pure
open Go.RowKit Go.Proofs.YtghdimmomnfakaaDoorW.PrintWords Go.Proofs.YtghdimmomnfakaaDoorW.PrintLast Go.Proofs.YtghdimmomnfakaaDoorW.PrintMore Go.Proofs.YtghdimmomnfakaaDoor.Gv Go.Proofs.YtghdimmomnfakaaDoor.X
/-- a letter, as a number -/
def letZ (n : Int) : Bool := (decide (97 ≤ n) && decide (n ≤ 122)) || (decide (65 ≤ n) && decide (n ≤ 90))
theorem impl_letter (n : Int) : Go.Proofs.YtghdimmomnfakaaDoor.Y.node_letter.f n = some (letZ n) := by
  unfold Go.Proofs.YtghdimmomnfakaaDoor.Y.node_letter.f letZ
  by_cases h1 : n ≥ 97 <;> by_cases h2 : n ≤ 122 <;> by_cases h3 : n ≥ 65 <;> by_cases h4 : n ≤ 90 <;> simp [h1, h2, h3, h4] <;> omega
theorem ref_Letter (n : Int) : vinculumref09_Letter.f n = some (letZ n) := by
  unfold vinculumref09_Letter.f letZ
  by_cases h1 : n ≥ 97 <;> by_cases h2 : n ≤ 122 <;> by_cases h3 : n ≥ 65 <;> by_cases h4 : n ≤ 90 <;> simp [h1, h2, h3, h4] <;> omega
theorem ref_letter (k : Nat) (n : Int) (h0 : 0 ≤ n) (h1 : n ≤ 255) : ∃ m, vinculumref48_letter.f (k + 1) n = some m ∧ (decide (m < 0)) = !letZ n := by
  unfold vinculumref48_letter.f
  have e : ∀ b, vinculumref48_letter.j0 (k + 1) n b = if b = true then (some ((n - 97) % 256)) else (if n ≥ 65 then (if n ≤ 90 then (some (26 + ((n - 65) % 256))) else (some (-1))) else (some (-1))) := fun b => by rw [vinculumref48_letter.j0]
  rw [e, e]
  unfold letZ
  split
  · split
    · exact ⟨_, rfl, by simp_all <;> omega⟩
    · split
      · split
        · exact ⟨_, rfl, by simp_all <;> omega⟩
        · exact ⟨_, rfl, by simp_all <;> omega⟩
      · exact ⟨_, rfl, by simp_all <;> omega⟩
  · rw [if_neg (by simp)]
    split
    · split
      · exact ⟨_, rfl, by simp_all <;> omega⟩
      · exact ⟨_, rfl, by simp_all <;> omega⟩
    · exact ⟨_, rfl, by simp_all <;> omega⟩
theorem bt_byte (s : ByteArray) (i : Nat) (h : i < s.size) : bt s (i : Int) = ((s[i]'h).toNat : Int) := (bt_at s (i : Int) (by simpa using h)).symm
theorem letB_bt (s : ByteArray) (i : Nat) (h : i < s.size) : letB (s[i]'h) = letZ (bt s (i : Int)) := by
  rw [bt_byte s i h]
  unfold letB letZ
  have e : ∀ (a b : Nat), decide ((a : Int) ≤ (b : Int)) = decide (a ≤ b) := fun a b => by simp
  simp only [← e]
  rfl
/-- from a place on, letters alone -/
def restLet (s : ByteArray) (i : Nat) : Bool := (s.data.toList.drop i).all letB
theorem restLet_step {s : ByteArray} {i : Nat} (h : i < s.size) : restLet s i = (letZ (bt s (i : Int)) && restLet s (i + 1)) := by
  unfold restLet
  have hl : i < s.data.toList.length := by simpa using h
  rw [List.drop_eq_getElem_cons hl, List.all_cons, ← letB_bt s i h]
  simp [ByteArray.getElem_eq_getElem_data]
theorem restLet_end {s : ByteArray} {i : Nat} (h : ¬ i < s.size) : restLet s i = true := by
  unfold restLet
  rw [List.drop_eq_nil_of_le (by simp; omega)]
  rfl
theorem ref_Letters_l0 (s : ByteArray) (hs : s.size ≤ 9223372036854775807) : ∀ n i k, s.size = i + n → n + 2 ≤ k →
    vinculumref48_Letters.l0 k s (i : Int) = some (restLet s i && (decide (1 ≤ s.size) && decide (s.size ≤ 16)))
  | n, i, 0, _, hk => by omega
  | n, i, k + 1, hi, hk => by
    rw [vinculumref48_Letters.l0]
    by_cases h : (i : Int) < (s.size : Int)
    · rw [if_pos h, if_pos (by omega)]
      obtain ⟨k', rfl⟩ : ∃ k', k = k' + 1 := ⟨k - 1, by omega⟩
      obtain ⟨m, hm, hm2⟩ := ref_letter k' (bt s (i : Int)) (bt_range s _).1 (bt_range s _).2
      rw [hm, Option.bind_some, restLet_step (by omega)]
      by_cases hc : m < 0
      · rw [if_pos hc]
        rw [decide_eq_true hc] at hm2
        have : letZ (bt s (i : Int)) = false := by simpa using hm2.symm
        rw [this]; rfl
      · rw [if_neg hc]
        rw [decide_eq_false hc] at hm2
        have : letZ (bt s (i : Int)) = true := by simpa using hm2.symm
        rw [this, w64 (x := (i : Int) + 1) (by omega) (by omega)]
        obtain ⟨m', rfl⟩ : ∃ m', n = m' + 1 := ⟨n - 1, by omega⟩
        exact ref_Letters_l0 s hs m' (i + 1) (k' + 1) (by omega) (by omega)
    · rw [if_neg h, restLet_end (by omega)]
      have e : decide ((s.size : Int) ≤ 16) = decide (s.size ≤ 16) := by
        by_cases h16 : s.size ≤ 16
        · rw [decide_eq_true h16, decide_eq_true (by omega)]
        · rw [decide_eq_false h16, decide_eq_false (by omega)]
      split
      · rw [e, decide_eq_true (show 1 ≤ s.size by omega)]; rfl
      · rw [decide_eq_false (show ¬ 1 ≤ s.size by omega)]; rfl
theorem ref_Letters (s : ByteArray) (hs : s.size ≤ 9223372036854775807) (k : Nat) (hk : s.size + 2 ≤ k) : vinculumref48_Letters.f k s = some (nameB s) := by
  have := ref_Letters_l0 s hs s.size 0 k (by omega) hk
  unfold vinculumref48_Letters.f
  rw [show (0 : Int) = ((0 : Nat) : Int) from rfl, this]
  rfl
end Go.Proofs.YtghdimmomnfakaaDoor.Pure

set_option linter.unusedVariables false
set_option linter.unusedSimpArgs false
namespace Go.Proofs.YtghdimmomnfakaaDoor.Pure
open Go.RowKit Go.Proofs.YtghdimmomnfakaaDoorW.PrintWords Go.Proofs.YtghdimmomnfakaaDoorW.PrintLast Go.Proofs.YtghdimmomnfakaaDoorW.PrintMore Go.Proofs.YtghdimmomnfakaaDoor.Gv Go.Proofs.YtghdimmomnfakaaDoor.X
--@begin
/-- from a place on, a list has a string -/
def restIn (l : List ByteArray) (s : ByteArray) (i : Nat) : Bool := (l.drop i).any (fun x => decide (x.toList = s.toList))
theorem restIn_step {l : List ByteArray} {s : ByteArray} {i : Nat} (h : i < l.length) : restIn l s i = (decide ((rdOf ByteArray.empty l (i : Int)).toList = s.toList) || restIn l s (i + 1)) := by
  unfold restIn rdOf
  rw [List.drop_eq_getElem_cons h, List.any_cons]
  simp [List.getD_eq_getElem?_getD, List.getElem?_eq_getElem h]
theorem restIn_end {l : List ByteArray} {s : ByteArray} {i : Nat} (h : ¬ i < l.length) : restIn l s i = false := by
  unfold restIn
  rw [List.drop_eq_nil_of_le (by omega)]
  rfl
theorem impl_index_l0 (l : List ByteArray) (s : ByteArray) (hl : l.length ≤ 9223372036854775807) : ∀ n i k, l.length = i + n → n < k →
    ∃ r, Go.Proofs.YtghdimmomnfakaaDoor.Y.slices_Index_string_string.l0 k l s (l.length : Int) (i : Int) = some r ∧ decide (r ≥ 0) = restIn l s i
  | n, i, 0, _, hk => by omega
  | n, i, k + 1, hi, hk => by
    rw [Go.Proofs.YtghdimmomnfakaaDoor.Y.slices_Index_string_string.l0]
    by_cases h : (i : Int) < (l.length : Int)
    · rw [if_pos h, if_pos (by omega), if_pos h, restIn_step (by omega)]
      by_cases c : s.toList = (rdOf ByteArray.empty l (i : Int)).toList
      · rw [if_pos c]
        exact ⟨_, rfl, by rw [decide_eq_true c.symm, decide_eq_true (by omega)]; rfl⟩
      · rw [if_neg c, decide_eq_false (fun e => c e.symm), w64 (x := (i : Int) + 1) (by omega) (by omega), Bool.false_or]
        obtain ⟨m, rfl⟩ : ∃ m, n = m + 1 := ⟨n - 1, by omega⟩
        exact impl_index_l0 l s hl m (i + 1) k (by omega) (by omega)
    · rw [if_neg h, restIn_end (by omega)]
      exact ⟨_, rfl, by simp⟩
theorem impl_contains (l : List ByteArray) (s : ByteArray) (hl : l.length ≤ 9223372036854775807) (k : Nat) (hk : l.length < k) : Go.Proofs.YtghdimmomnfakaaDoor.Y.slices_Contains_string_string.f k l s = some (restIn l s 0) := by
  obtain ⟨r, h1, h2⟩ := impl_index_l0 l s hl l.length 0 k (by omega) hk
  unfold Go.Proofs.YtghdimmomnfakaaDoor.Y.slices_Contains_string_string.f Go.Proofs.YtghdimmomnfakaaDoor.Y.slices_Index_string_string.f
  rw [show (0 : Int) = ((0 : Nat) : Int) from rfl, h1, Option.bind_some, ← h2]
  rfl
theorem ref_In_l0 (l : List ByteArray) (s : ByteArray) (hl : l.length ≤ 9223372036854775807) : ∀ n i k, l.length = i + n → n < k → vinculumref09_In.l0 k l s (i : Int) = some (restIn l s i)
  | n, i, 0, _, hk => by omega
  | n, i, k + 1, hi, hk => by
    rw [vinculumref09_In.l0]
    by_cases h : (i : Int) < (l.length : Int)
    · rw [if_pos h, if_pos (by omega), restIn_step (by omega)]
      by_cases c : (rdOf ByteArray.empty l (i : Int)).toList = s.toList
      · rw [if_pos c, decide_eq_true c]; rfl
      · rw [if_neg c, decide_eq_false c, w64 (x := (i : Int) + 1) (by omega) (by omega), Bool.false_or]
        obtain ⟨m, rfl⟩ : ∃ m, n = m + 1 := ⟨n - 1, by omega⟩
        exact ref_In_l0 l s hl m (i + 1) k (by omega) (by omega)
    · rw [if_neg h, restIn_end (by omega)]
theorem ref_In (l : List ByteArray) (s : ByteArray) (hl : l.length ≤ 9223372036854775807) (k : Nat) (hk : l.length < k) : vinculumref09_In.f k l s = some (restIn l s 0) := by
  unfold vinculumref09_In.f
  rw [show (0 : Int) = ((0 : Nat) : Int) from rfl, ref_In_l0 l s hl l.length 0 k (by omega) hk]
def accents : List ByteArray := [(⟨#[104, 97, 116]⟩ : ByteArray), (⟨#[98, 97, 114]⟩ : ByteArray), (⟨#[118, 101, 99]⟩ : ByteArray), (⟨#[100, 111, 116]⟩ : ByteArray), (⟨#[116, 105, 108, 100, 101]⟩ : ByteArray), (⟨#[99, 104, 101, 99, 107]⟩ : ByteArray)]
def keywords : List ByteArray := [(⟨#[102, 114, 97, 99]⟩ : ByteArray), (⟨#[114, 111, 111, 116]⟩ : ByteArray), (⟨#[109, 97, 116, 114, 105, 120]⟩ : ByteArray), (⟨#[102, 101, 110, 99, 101]⟩ : ByteArray)]
def chars : ByteArray := ⟨#[43, 45, 42, 47, 61, 60, 62, 44, 59, 58, 33, 124, 39, 63, 126, 64]⟩
/-- a symbol -/
def symB (s : ByteArray) : Bool :=
  if s.size = 1 then (letZ (bt s 0) || chars.data.toList.any (fun c => decide ((c.toNat : Int) = bt s 0)))
  else restLet s 0 && (decide (2 ≤ s.size) && (decide (s.size ≤ 16) && (!restIn accents s 0 && !restIn keywords s 0)))
theorem impl_rest_l0 (s : ByteArray) (hs : s.size ≤ 9223372036854775807) : ∀ n i k, s.size = i + n → n < k → Go.Proofs.YtghdimmomnfakaaDoor.Y.node_Symbol.l0 k s (s.size : Int) (i : Int) = some (restLet s i)
  | n, i, 0, _, hk => by omega
  | n, i, k + 1, hi, hk => by
    rw [Go.Proofs.YtghdimmomnfakaaDoor.Y.node_Symbol.l0]
    by_cases h : (i : Int) < (s.size : Int)
    · rw [if_pos h, if_pos (by omega), if_pos h, impl_letter, Option.bind_some, restLet_step (by omega)]
      cases hc : letZ (bt s (i : Int)) with
      | true =>
        rw [if_pos rfl, w64 (x := (i : Int) + 1) (by omega) (by omega), Bool.true_and]
        obtain ⟨m, rfl⟩ : ∃ m, n = m + 1 := ⟨n - 1, by omega⟩
        exact impl_rest_l0 s hs m (i + 1) k (by omega) (by omega)
      | false => rfl
    · rw [if_neg h, restLet_end (by omega)]
theorem one_char : ((List.range 256).all fun n => Lib.contains chars.data.toList [UInt8.ofNat n] == chars.data.toList.any (fun c => decide ((c.toNat : Int) = (n : Int)))) = true := by kernel_rfl
theorem size_one {s : ByteArray} (h : s.size = 1) : s.data.toList = [s[0]'(by omega)] := by
  have hl : s.data.toList.length = 1 := by simpa using h
  match hm : s.data.toList, hl with
  | [x], _ =>
    have : s[0]'(by omega) = s.data.toList[0]'(by omega) := by simp [ByteArray.getElem_eq_getElem_data]
    rw [this]
    simp [hm]
theorem contains_one {s : ByteArray} (h : s.size = 1) : Lib.contains chars.data.toList s.data.toList = chars.data.toList.any (fun c => decide ((c.toNat : Int) = bt s 0)) := by
  have h1 := bt_byte s 0 (by omega)
  rw [size_one h]
  have hb : (s[0]'(by omega)).toNat < 256 := (s[0]'(by omega)).toNat_lt
  have := List.all_eq_true.1 one_char ((s[0]'(by omega)).toNat) (by simpa using hb)
  rw [beq_iff_eq] at this
  rw [show UInt8.ofNat (s[0]'(by omega)).toNat = s[0]'(by omega) from by simp] at this
  rw [this]
  rw [show (0 : Int) = ((0 : Nat) : Int) from rfl, h1]
theorem impl_symbol (s : ByteArray) (hs : s.size ≤ 9223372036854775807) (k : Nat) (hk : s.size + 30 ≤ k) : Go.Proofs.YtghdimmomnfakaaDoor.Y.node_Symbol.f k s = some (symB s) := by
  unfold Go.Proofs.YtghdimmomnfakaaDoor.Y.node_Symbol.f symB
  by_cases h1 : s.size = 1
  · rw [if_pos (show (s.size : Int) = 1 by omega), if_pos (show 0 < (s.size : Int) by omega), if_pos h1, impl_letter, Option.bind_some]
    cases hc : letZ (bt s 0) with
    | true => rfl
    | false =>
      rw [if_neg (by simp)]
      have : strings_Contains.f (⟨#[43, 45, 42, 47, 61, 60, 62, 44, 59, 58, 33, 124, 39, 63, 126, 64]⟩ : ByteArray) s = some (Lib.contains chars.data.toList s.data.toList) := by
        unfold strings_Contains.f
        exact if_pos (by decide)
      rw [this, Option.bind_some, contains_one h1, Bool.false_or]
  · rw [if_neg (show ¬ (s.size : Int) = 1 by omega), if_neg h1]
    have j0 : ∀ b, Go.Proofs.YtghdimmomnfakaaDoor.Y.node_Symbol.j0 k s b = some (!b && restLet s 0) := fun b => by
      obtain ⟨k', rfl⟩ : ∃ k', k = k' + 1 := ⟨k - 1, by omega⟩
      rw [Go.Proofs.YtghdimmomnfakaaDoor.Y.node_Symbol.j0]
      cases b with
      | true => rfl
      | false =>
        rw [if_neg (by simp), show (0 : Int) = ((0 : Nat) : Int) from rfl, impl_rest_l0 s hs s.size 0 k' (by omega) (by omega)]
        rfl
    by_cases h2 : s.size < 2
    · rw [if_pos (by omega), j0, decide_eq_false (show ¬ 2 ≤ s.size by omega)]
      simp
    · rw [if_neg (by omega), decide_eq_true (show 2 ≤ s.size by omega)]
      by_cases h3 : s.size ≤ 16
      · rw [if_neg (by omega), decide_eq_true h3]
        have ha : Go.Proofs.YtghdimmomnfakaaDoor.Y.node_accent.f k s = some (restIn accents s 0) := by
          unfold Go.Proofs.YtghdimmomnfakaaDoor.Y.node_accent.f
          have := impl_contains accents s (by decide) k (by have : accents.length = 6 := rfl; omega)
          rw [show ([(⟨#[104, 97, 116]⟩ : ByteArray), (⟨#[98, 97, 114]⟩ : ByteArray), (⟨#[118, 101, 99]⟩ : ByteArray), (⟨#[100, 111, 116]⟩ : ByteArray), (⟨#[116, 105, 108, 100, 101]⟩ : ByteArray), (⟨#[99, 104, 101, 99, 107]⟩ : ByteArray)] : List ByteArray) = accents from rfl, this]
          rfl
        rw [ha, Option.bind_some]
        cases hA : restIn accents s 0 with
        | true => rw [if_pos rfl, j0]; simp
        | false =>
          rw [if_neg (by simp)]
          have := impl_contains keywords s (by decide) k (by have : keywords.length = 4 := rfl; omega)
          rw [show ([(⟨#[102, 114, 97, 99]⟩ : ByteArray), (⟨#[114, 111, 111, 116]⟩ : ByteArray), (⟨#[109, 97, 116, 114, 105, 120]⟩ : ByteArray), (⟨#[102, 101, 110, 99, 101]⟩ : ByteArray)] : List ByteArray) = keywords from rfl, this, Option.bind_some, j0]
          congr 1
          cases restLet s 0 <;> cases restIn keywords s 0 <;> rfl
      · rw [if_pos (by omega), j0, decide_eq_false h3]
        simp
theorem ref_has_l0 (l : ByteArray) (c : Int) (hl : l.size ≤ 9223372036854775807) : ∀ n i k, l.size = i + n → n < k → vinculumref09_has.l0 k l c (i : Int) = some ((l.data.toList.drop i).any (fun x => decide ((x.toNat : Int) = c)))
  | n, i, 0, _, hk => by omega
  | n, i, k + 1, hi, hk => by
    rw [vinculumref09_has.l0]
    by_cases h : (i : Int) < (l.size : Int)
    · have hll : i < l.data.toList.length := by simp; omega
      have hb : bt l (i : Int) = ((l.data.toList[i]).toNat : Int) := by
        rw [bt_byte l i (by omega)]
        simp [ByteArray.getElem_eq_getElem_data]
      rw [if_pos h, if_pos (by omega), List.drop_eq_getElem_cons hll, List.any_cons, hb]
      by_cases e : ((l.data.toList[i]).toNat : Int) = c
      · rw [if_pos e, decide_eq_true e]; rfl
      · rw [if_neg e, decide_eq_false e, w64 (x := (i : Int) + 1) (by omega) (by omega), Bool.false_or]
        obtain ⟨m, rfl⟩ : ∃ m, n = m + 1 := ⟨n - 1, by omega⟩
        exact ref_has_l0 l c hl m (i + 1) k (by omega) (by omega)
    · rw [if_neg h, List.drop_eq_nil_of_le (by simp; omega)]
      rfl
theorem ref_Character (c : Int) (k : Nat) (hk : 20 ≤ k) : vinculumref09_Character.f k c = some (letZ c || chars.data.toList.any (fun x => decide ((x.toNat : Int) = c))) := by
  unfold vinculumref09_Character.f
  rw [ref_Letter, Option.bind_some]
  cases hc : letZ c with
  | true => rfl
  | false =>
    have h := ref_has_l0 chars c (by decide) chars.size 0 k (by omega) (by have : chars.size = 16 := rfl; omega)
    unfold vinculumref09_has.f
    rw [if_neg (by simp), show (⟨#[43, 45, 42, 47, 61, 60, 62, 44, 59, 58, 33, 124, 39, 63, 126, 64]⟩ : ByteArray) = chars from rfl, show (0 : Int) = ((0 : Nat) : Int) from rfl, h, Option.bind_some]
    rfl
theorem ref_symbol_l0 (s : ByteArray) (hs : s.size ≤ 9223372036854775807) : ∀ n i k, s.size = i + n → n + 20 ≤ k →
    vinculumref09_Symbol.l0 k s (i : Int) = some (restLet s i && (decide (2 ≤ s.size) && (decide (s.size ≤ 16) && (!restIn accents s 0 && !restIn keywords s 0))))
  | n, i, 0, _, hk => by omega
  | n, i, k + 1, hi, hk => by
    rw [vinculumref09_Symbol.l0]
    by_cases h : (i : Int) < (s.size : Int)
    · rw [if_pos h, if_pos (by omega), ref_Letter, Option.bind_some, restLet_step (by omega)]
      cases hc : letZ (bt s (i : Int)) with
      | true =>
        rw [if_pos rfl, w64 (x := (i : Int) + 1) (by omega) (by omega), Bool.true_and]
        obtain ⟨m, rfl⟩ : ∃ m, n = m + 1 := ⟨n - 1, by omega⟩
        exact ref_symbol_l0 s hs m (i + 1) k (by omega) (by omega)
      | false => rfl
    · rw [if_neg h, restLet_end (by omega)]
      by_cases h2 : 2 ≤ s.size
      · rw [if_pos (by omega), decide_eq_true h2]
        by_cases h3 : s.size ≤ 16
        · have e1 : vinculumref09_In.f k keywords s = some (restIn keywords s 0) := ref_In keywords s (by decide) k (by have : keywords.length = 4 := rfl; omega)
          have e2 : vinculumref09_In.f k accents s = some (restIn accents s 0) := ref_In accents s (by decide) k (by have : accents.length = 6 := rfl; omega)
          have e3 : vinculumref09_Keywords.f = some keywords := rfl
          have e4 : vinculumref09_Accents.f = some accents := rfl
          rw [if_pos (by omega), decide_eq_true h3, e3, e4, Option.bind_some, e1, Option.bind_some, Option.bind_some, e2, Option.bind_some]
          cases restIn keywords s 0 <;> cases restIn accents s 0 <;> rfl
        · rw [if_neg (by omega), decide_eq_false h3]; rfl
      · rw [if_neg (by omega), decide_eq_false h2]; rfl
theorem ref_symbol (s : ByteArray) (hs : s.size ≤ 9223372036854775807) (k : Nat) (hk : s.size + 30 ≤ k) : vinculumref09_Symbol.f k s = some (symB s) := by
  unfold vinculumref09_Symbol.f symB
  by_cases h1 : s.size = 1
  · rw [if_pos (show (s.size : Int) = 1 by omega), if_pos (show 0 < (s.size : Int) by omega), if_pos h1, ref_Character _ k (by omega)]
    rfl
  · rw [if_neg (show ¬ (s.size : Int) = 1 by omega), if_neg h1, show (0 : Int) = ((0 : Nat) : Int) from rfl, ref_symbol_l0 s hs s.size 0 k (by omega) (by omega)]
--@end
end Go.Proofs.YtghdimmomnfakaaDoor.Pure

set_option linter.unusedVariables false
set_option linter.unusedSimpArgs false
namespace Go.Proofs.YtghdimmomnfakaaDoor.Pure
open Go.RowKit Go.Proofs.YtghdimmomnfakaaDoorW.PrintWords Go.Proofs.YtghdimmomnfakaaDoorW.PrintLast Go.Proofs.YtghdimmomnfakaaDoorW.PrintMore Go.Proofs.YtghdimmomnfakaaDoor.Gv Go.Proofs.YtghdimmomnfakaaDoor.X
--@begin
/-- what a kind asks -/
def kindB (a0 : Int) (a1 : ByteArray) (a4 a5 : Int) : Bool :=
  if a0 = 1 then symB a1 else if a0 = 2 then symB a1 && decide (a4 = 0) else if a0 = 3 then symB a1 && decide (a5 = 0) else if a0 = 4 then decide (a1.size = 0) else false
/-- a proper rule -/
def prB (a0 : Int) (a1 a2 : ByteArray) (a3 a4 a5 : Int) : Bool :=
  nameB a2 && ((decide (1 ≤ a3) && decide (a3 ≤ 100)) && ((decide (0 ≤ a4) && decide (a4 ≤ 101)) && ((decide (0 ≤ a5) && decide (a5 ≤ 101)) && kindB a0 a1 a4 a5)))
theorem symB_empty {s : ByteArray} (h : s.size = 0) : symB s = false := by
  unfold symB
  rw [if_neg (by omega), decide_eq_false (show ¬ 2 ≤ s.size by omega)]
  simp
theorem range_min (l r : Int) : (decide (0 ≤ min l r) && decide (max l r ≤ 101)) = ((decide (0 ≤ l) && decide (l ≤ 101)) && (decide (0 ≤ r) && decide (r ≤ 101))) := by
  by_cases h1 : 0 ≤ l <;> by_cases h2 : l ≤ 101 <;> by_cases h3 : 0 ≤ r <;> by_cases h4 : r ≤ 101 <;>
    first
    | (rw [decide_eq_true h1, decide_eq_true h2, decide_eq_true h3, decide_eq_true h4, decide_eq_true (show 0 ≤ min l r by omega), decide_eq_true (show max l r ≤ 101 by omega)]; done)
    | (by_cases h5 : 0 ≤ min l r <;> by_cases h6 : max l r ≤ 101 <;> first | (exfalso; omega) | simp [h1, h2, h3, h4, h5, h6])
theorem impl_proper (a0 : Int) (a1 a2 : ByteArray) (a3 a4 a5 : Int) (hs : a1.size ≤ 9223372036854775807) (k : Nat) (hk : a1.size + 30 ≤ k) : grammar_proper.f k a0 a1 a2 a3 a4 a5 = some (prB a0 a1 a2 a3 a4 a5) := by
  have sym := impl_symbol a1 hs k hk
  have emp := @symB_empty a1
  unfold grammar_proper.f prB numsB
  rw [range_min, sym]
  by_cases c0 : a0 < 1
  · rw [if_pos c0]
    unfold kindB
    rw [if_neg (by omega), if_neg (by omega), if_neg (by omega), if_neg (by omega)]
    simp
  rw [if_neg c0]
  by_cases c4 : 4 < a0
  · rw [if_pos c4]
    unfold kindB
    rw [if_neg (by omega), if_neg (by omega), if_neg (by omega), if_neg (by omega)]
    simp
  rw [if_neg c4]
  cases hn : nameB a2 with
  | false => rfl
  | true =>
    rw [if_neg (by simp)]
    by_cases c1 : a3 < 1
    · rw [if_pos c1, decide_eq_false (show ¬ 1 ≤ a3 by omega)]; simp
    rw [if_neg c1, decide_eq_true (show 1 ≤ a3 by omega)]
    by_cases c2 : 100 < a3
    · rw [if_pos c2, decide_eq_false (show ¬ a3 ≤ 100 by omega)]; simp
    rw [if_neg c2, decide_eq_true (show a3 ≤ 100 by omega)]
    generalize (decide (0 ≤ a4) && decide (a4 ≤ 101)) = p
    generalize (decide (0 ≤ a5) && decide (a5 ≤ 101)) = q
    rcases (by omega : a0 = 1 ∨ a0 = 2 ∨ a0 = 3 ∨ a0 = 4) with rfl | rfl | rfl | rfl
    all_goals by_cases he : a1.size = 0
    all_goals by_cases h4 : a4 = 0
    all_goals by_cases h5 : a5 = 0
    all_goals cases hS : symB a1
    all_goals cases p
    all_goals cases q
    all_goals first
      | (simp [kindB, he, h4, h5, hS]; done)
      | (exfalso; have := emp he; rw [hS] at this; cases this)
theorem ref_within (a b c : Int) : vinculumref49_within.f a b c = some (decide (b ≤ a) && decide (a ≤ c)) := by
  unfold vinculumref49_within.f
  by_cases h : a ≥ b
  · rw [if_pos h, decide_eq_true (show b ≤ a from h)]; rfl
  · rw [if_neg h, decide_eq_false (show ¬ b ≤ a from h)]; rfl
theorem empty_list {s : ByteArray} : (s.toList == ([] : List UInt8)) = decide (s.size = 0) := by
  by_cases h : s.size = 0
  · have := empty_yes h
    rw [decide_eq_true h]
    cases hl : s.toList with
    | nil => rfl
    | cons x r => rw [hl] at this; cases this
  · have := empty_no h
    rw [decide_eq_false h]
    cases hl : s.toList with
    | nil => rw [hl] at this; cases this
    | cons x r => rfl
theorem ref_proper (a0 : Int) (a1 a2 : ByteArray) (a3 a4 a5 : Int) (hs : a1.size ≤ 9223372036854775807) (hs2 : a2.size ≤ 9223372036854775807) (k : Nat) (hk : a1.size + a2.size + 40 ≤ k) : vinculumref49_Proper.f k a0 a1 a2 a3 a4 a5 = some (prB a0 a1 a2 a3 a4 a5) := by
  have j0 : ∀ b, vinculumref49_Proper.j0 k b a0 a1 a2 a3 a4 a5 = some (!b && kindB a0 a1 a4 a5) := fun b => by
    obtain ⟨k', rfl⟩ : ∃ k', k = k' + 1 := ⟨k - 1, by omega⟩
    have sym := ref_symbol a1 hs k' (by omega)
    rw [vinculumref49_Proper.j0, sym]
    cases b with
    | true => rfl
    | false =>
      rw [if_neg (by simp)]
      unfold kindB
      by_cases c1 : a0 = 1
      · rw [if_pos c1, if_pos c1]; rfl
      rw [if_neg c1, if_neg c1]
      by_cases c2 : a0 = 2
      · rw [if_pos c2, if_pos c2]
        cases symB a1 <;> by_cases h : a4 = 0 <;> simp [h]
      rw [if_neg c2, if_neg c2]
      by_cases c3 : a0 = 3
      · rw [if_pos c3, if_pos c3]
        cases symB a1 <;> by_cases h : a5 = 0 <;> simp [h]
      rw [if_neg c3, if_neg c3]
      by_cases c4 : a0 = 4
      · rw [if_pos c4, if_pos c4, empty_list]; rfl
      rw [if_neg c4, if_neg c4]; rfl
  unfold vinculumref49_Proper.f prB
  rw [ref_Letters a2 hs2 k (by omega), Option.bind_some, ref_within, ref_within, ref_within, Option.bind_some, Option.bind_some, Option.bind_some, j0, j0]
  cases nameB a2 <;> cases (decide (1 ≤ a3) && decide (a3 ≤ 100)) <;> cases (decide (0 ≤ a4) && decide (a4 ≤ 101)) <;> cases (decide (0 ≤ a5) && decide (a5 ≤ 101)) <;> simp
--@end
end Go.Proofs.YtghdimmomnfakaaDoor.Pure

set_option linter.unusedVariables false
set_option linter.unusedSimpArgs false
namespace Go.Proofs.YtghdimmomnfakaaDoor.Pure
open Go.RowKit Go.Proofs.YtghdimmomnfakaaDoorW.PrintWords Go.Proofs.YtghdimmomnfakaaDoorW.PrintLast Go.Proofs.YtghdimmomnfakaaDoorW.PrintMore Go.Proofs.YtghdimmomnfakaaDoor.Gv Go.Proofs.YtghdimmomnfakaaDoor.X
--@begin
def prR (x : S38) : Bool := prB x.f0 x.f1 x.f2 x.f3 x.f4 x.f5
/-- two rules clash -/
def cl (x y : S38) : Bool := decide (x.f0 = y.f0) && (decide (x.f1.toList = y.f1.toList) || decide (x.f2.toList = y.f2.toList))
theorem cl_symm (x y : S38) : cl x y = cl y x := by
  unfold cl
  have e1 : decide (x.f0 = y.f0) = decide (y.f0 = x.f0) := by congr 1; exact propext ⟨Eq.symm, Eq.symm⟩
  have e2 : decide (x.f1.toList = y.f1.toList) = decide (y.f1.toList = x.f1.toList) := by congr 1; exact propext ⟨Eq.symm, Eq.symm⟩
  have e3 : decide (x.f2.toList = y.f2.toList) = decide (y.f2.toList = x.f2.toList) := by congr 1; exact propext ⟨Eq.symm, Eq.symm⟩
  rw [e1, e2, e3]
theorem impl_clash (x y : S38) : clashP y.f0 y.f1 y.f2 y.f3 y.f4 y.f5 x = cl x y := by
  unfold clashP Go.Proofs.YtghdimmomnfakaaDoor.Y.grammar_clash.f cl
  by_cases h1 : x.f0 = y.f0 <;> by_cases h2 : x.f1.toList = y.f1.toList <;> by_cases h3 : x.f2.toList = y.f2.toList <;> simp [h1, h2, h3]
theorem ref_clash (x y : S38) : vinculumref49_clash.f x.f0 x.f1 x.f2 x.f3 x.f4 x.f5 y.f0 y.f1 y.f2 y.f3 y.f4 y.f5 = some (cl x y) := by
  unfold vinculumref49_clash.f cl
  by_cases h1 : x.f0 = y.f0 <;> by_cases h2 : x.f1.toList = y.f1.toList <;> by_cases h3 : x.f2.toList = y.f2.toList <;> simp [h1, h2, h3]
/-- from place j on, one of n rules clashes with y -/
def clRest (l : List S38) (y : S38) : Nat → Nat → Bool
  | 0, _ => false
  | n + 1, j => cl (rd_T38 l (j : Int)) y || clRest l y n (j + 1)
theorem idxP_any (p : S38 → Bool) (l : List S38) : decide (0 ≤ idxP p l) = l.any p := by
  unfold idxP
  cases h : l.findIdx? p with
  | none =>
    rw [List.findIdx?_eq_none_iff] at h
    have : l.any p = false := by
      rw [List.any_eq_false]
      intro x hx
      simp [h x hx]
    rw [this]; rfl
  | some i =>
    rw [List.findIdx?_eq_some_iff_getElem] at h
    obtain ⟨hi, hp, _⟩ := h
    have : l.any p = true := List.any_eq_true.2 ⟨_, List.getElem_mem hi, hp⟩
    rw [this]
    exact decide_eq_true (by simp)
theorem clRest_any (l : List S38) (y : S38) : ∀ n j, j + n ≤ l.length → clRest l y n j = ((l.take (j + n)).drop j).any (fun x => cl x y)
  | 0, j, h => by
    rw [List.drop_eq_nil_of_le (by simp; omega)]
    rfl
  | n + 1, j, h => by
    have hj : j < (l.take (j + (n + 1))).length := by simp; omega
    rw [List.drop_eq_getElem_cons hj, List.any_cons, clRest, clRest_any l y n (j + 1) (by omega)]
    have e : rd_T38 l (j : Int) = (l.take (j + (n + 1)))[j] := by
      unfold rd_T38
      rw [show ((j : Int)).toNat = j from rfl, List.getD_eq_getElem?_getD, List.getElem?_eq_getElem (by omega)]
      simp
    rw [e, show j + 1 + n = j + (n + 1) by omega]
theorem impl_any (l : List S38) (y : S38) (i : Nat) (hi : i ≤ l.length) : api_Rule.f (l.take i) y.f0 y.f1 y.f2 y.f3 y.f4 y.f5 = some (clRest l y i 0) := by
  unfold api_Rule.f
  rw [idxP_any, clRest_any l y i 0 (by omega)]
  congr 1
  rw [Nat.zero_add, List.drop_zero]
  congr 1
  funext x
  exact impl_clash x y
/-- n rules from place i on are proper and clash with none ahead -/
def vRest (l : List S38) : Nat → Nat → Bool
  | 0, _ => true
  | n + 1, i => (prR (rd_T38 l (i : Int)) && !clRest l (rd_T38 l (i : Int)) i 0) && vRest l n (i + 1)
/-- rules whose strings are no longer than M -/
def smallR (M : Nat) (l : List S38) : Prop := ∀ j : Nat, j < l.length → (rd_T38 l (j : Int)).f1.size ≤ M ∧ (rd_T38 l (j : Int)).f2.size ≤ M
theorem impl_valid_l0 (l : List S38) (M : Nat) (hM : M ≤ 9223372036854775807) (hl : l.length ≤ 9223372036854775807) (hs : smallR M l) : ∀ n i k, l.length = i + n → n + M + 60 ≤ k →
    grammar_Valid.l0 k l l (l.length : Int) (i : Int) = some (vRest l n i)
  | n, i, 0, _, hk => by omega
  | n, i, k + 1, hi, hk => by
    rw [grammar_Valid.l0]
    by_cases h : (i : Int) < (l.length : Int)
    · obtain ⟨m, rfl⟩ : ∃ m, n = m + 1 := ⟨n - 1, by omega⟩
      have hsz := hs i (by omega)
      rw [if_pos h, if_pos (by omega), if_pos h, impl_proper _ _ _ _ _ _ (by omega) k (by omega), Option.bind_some, vRest]
      unfold prR
      cases prB (rd_T38 l (i : Int)).f0 (rd_T38 l (i : Int)).f1 (rd_T38 l (i : Int)).f2 (rd_T38 l (i : Int)).f3 (rd_T38 l (i : Int)).f4 (rd_T38 l (i : Int)).f5 with
      | false => rfl
      | true =>
        rw [if_pos rfl, if_pos (by omega), show ((i : Int)).toNat = i from rfl, impl_any l (rd_T38 l (i : Int)) i (by omega), Option.bind_some]
        cases clRest l (rd_T38 l (i : Int)) i 0 with
        | true => rfl
        | false =>
          rw [if_neg (by simp), w64 (x := (i : Int) + 1) (by omega) (by omega)]
          exact impl_valid_l0 l M hM hl hs m (i + 1) k (by omega) (by omega)
    · rw [if_neg h]
      obtain rfl : n = 0 := by omega
      rfl
theorem impl_valid (l : List S38) (M : Nat) (hM : M ≤ 9223372036854775807) (hl : l.length ≤ 9223372036854775807) (hs : smallR M l) (k : Nat) (hk : l.length + M + 60 ≤ k) : grammar_Valid.f k l = some (decide (l.length ≤ 64) && vRest l l.length 0) := by
  unfold grammar_Valid.f
  by_cases h : l.length ≤ 64
  · rw [if_neg (by omega), decide_eq_true h, show (0 : Int) = ((0 : Nat) : Int) from rfl, impl_valid_l0 l M hM hl hs l.length 0 k (by omega) hk]
    rfl
  · rw [if_pos (by omega), decide_eq_false h]
    rfl
/-- the reference's two loops: the inner one from place j on, then the outer one -/
theorem ref_l1 (l : List S38) (hl : l.length ≤ 9223372036854775807) (i : Nat) (hi : i < l.length) : ∀ n j k, i = j + n → n + 1 ≤ k →
    vinculumref49_Valid.l1 k l (i : Int) (j : Int) = if clRest l (rd_T38 l (i : Int)) n j = true then some false else vinculumref49_Valid.l0 (k - n - 1) l (wrap64 ((i : Int) + 1))
  | n, j, 0, _, hk => by omega
  | n, j, k + 1, hj, hk => by
    rw [vinculumref49_Valid.l1]
    by_cases h : (j : Int) < (i : Int)
    · obtain ⟨m, rfl⟩ : ∃ m, n = m + 1 := ⟨n - 1, by omega⟩
      rw [if_pos h, if_pos (by omega), if_pos (by omega), if_pos (by omega), if_pos (by omega), ref_clash, Option.bind_some, cl_symm, clRest]
      cases cl (rd_T38 l (j : Int)) (rd_T38 l (i : Int)) with
      | true => rfl
      | false =>
        rw [if_neg (by simp), w64 (x := (j : Int) + 1) (by omega) (by omega), Bool.false_or, show k + 1 - (m + 1) - 1 = k - m - 1 by omega]
        exact ref_l1 l hl i hi m (j + 1) k (by omega) (by omega)
    · obtain rfl : n = 0 := by omega
      rw [if_neg h]
      rfl
theorem ref_valid_l0 (l : List S38) (M : Nat) (hM : M ≤ 9223372036854775807) (hl : l.length ≤ 9223372036854775807) (hs : smallR M l) : ∀ n i k, l.length = i + n → n * (l.length + 2) + 2 * M + 60 ≤ k →
    vinculumref49_Valid.l0 k l (i : Int) = some (vRest l n i && decide (l.length ≤ 64))
  | n, i, 0, _, hk => by omega
  | n, i, k + 1, hi, hk => by
    rw [vinculumref49_Valid.l0]
    by_cases h : (i : Int) < (l.length : Int)
    · obtain ⟨m, rfl⟩ : ∃ m, n = m + 1 := ⟨n - 1, by omega⟩
      have hsz := hs i (by omega)
      rw [Nat.succ_mul] at hk
      rw [if_pos h, if_pos (by omega), ref_proper _ _ _ _ _ _ (by omega) (by omega) k (by omega), Option.bind_some, vRest]
      unfold prR
      cases prB (rd_T38 l (i : Int)).f0 (rd_T38 l (i : Int)).f1 (rd_T38 l (i : Int)).f2 (rd_T38 l (i : Int)).f3 (rd_T38 l (i : Int)).f4 (rd_T38 l (i : Int)).f5 with
      | false => rfl
      | true =>
        rw [if_pos rfl, show (0 : Int) = ((0 : Nat) : Int) from rfl, ref_l1 l hl i (by omega) i 0 k (by omega) (by omega)]
        cases clRest l (rd_T38 l (i : Int)) i 0 with
        | true => rfl
        | false =>
          rw [if_neg (by simp), w64 (x := (i : Int) + 1) (by omega) (by omega)]
          exact ref_valid_l0 l M hM hl hs m (i + 1) (k - i - 1) (by omega) (by omega)
    · obtain rfl : n = 0 := by omega
      rw [if_neg h]
      have e : decide ((l.length : Int) ≤ 64) = decide (l.length ≤ 64) := by
        by_cases h6 : l.length ≤ 64
        · rw [decide_eq_true h6, decide_eq_true (by omega)]
        · rw [decide_eq_false h6, decide_eq_false (by omega)]
      rw [e]
      rfl
  termination_by _ _ k => k
  decreasing_by all_goals omega
theorem ref_valid (l : List S38) (M : Nat) (hM : M ≤ 9223372036854775807) (hl : l.length ≤ 9223372036854775807) (hs : smallR M l) (k : Nat) (hk : l.length * (l.length + 2) + 2 * M + 60 ≤ k) : vinculumref49_Valid.f k l = some (vRest l l.length 0 && decide (l.length ≤ 64)) := by
  unfold vinculumref49_Valid.f
  rw [show (0 : Int) = ((0 : Nat) : Int) from rfl, ref_valid_l0 l M hM hl hs l.length 0 k (by omega) hk]
--@end
end Go.Proofs.YtghdimmomnfakaaDoor.Pure
