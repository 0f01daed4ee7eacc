/-
  Plain facts on decimal digits: what a row of digits spells, and the digits of a number.
-/
import Derived.Lib.AtoiAllCases
import Derived.Lib.ItoaMem
namespace Go.Proofs.YtignpfhlagfijaaDoor.Dec
open Go.Lib

/-- a digit -/
def isD (c : UInt8) : Bool := decide (48 ≤ c.toNat) && decide (c.toNat ≤ 57)
theorem isD_iff {c : UInt8} : isD c = true ↔ 48 ≤ c.toNat ∧ c.toNat ≤ 57 := by simp [isD]
/-- what digits spell, behind a number -/
def valr : List UInt8 → Nat → Nat
  | [], a => a
  | c :: r, a => valr r (10 * a + (c.toNat - 48))
def val (a : Nat) (l : List UInt8) : Nat := valr l a
theorem val_nil (a : Nat) : val a [] = a := rfl
theorem val_cons (a : Nat) (c : UInt8) (r : List UInt8) : val a (c :: r) = val (10 * a + (c.toNat - 48)) r := by
  unfold val
  rw [valr]
theorem val_append (l m : List UInt8) : ∀ a, val a (l ++ m) = val (val a l) m := by
  induction l with
  | nil => intro a; rfl
  | cons c r ih => intro a; rw [List.cons_append, val_cons, val_cons]; exact ih _
theorem val_bd (l : List UInt8) (h : l.all isD = true) : ∀ a, a * 10 ^ l.length ≤ val a l ∧ val a l < (a + 1) * 10 ^ l.length := by
  induction l with
  | nil => intro a; constructor <;> simp only [val_nil, List.length_nil, Nat.pow_zero, Nat.mul_one] <;> omega
  | cons c r ih =>
    intro a
    rw [List.all_cons, Bool.and_eq_true] at h
    have hc := isD_iff.1 h.1
    obtain ⟨h1, h2⟩ := ih h.2 (10 * a + (c.toNat - 48))
    clear ih
    rw [val_cons, List.length_cons, Nat.pow_succ]
    generalize val (10 * a + (c.toNat - 48)) r = v at *
    generalize 10 ^ r.length = p at *
    have hd : c.toNat - 48 ≤ 9 := by omega
    generalize c.toNat - 48 = d at *
    have e0 : d * p ≤ 9 * p := Nat.mul_le_mul_right p hd
    have e1 : a * (p * 10) = 10 * (a * p) := by rw [← Nat.mul_assoc, Nat.mul_comm]
    have e2 : (10 * a + d) * p = 10 * (a * p) + d * p := by rw [Nat.add_mul, Nat.mul_assoc]
    have e3 : (10 * a + d + 1) * p = 10 * (a * p) + d * p + p := by rw [Nat.add_mul, e2, Nat.one_mul]
    have e4 : (a + 1) * (p * 10) = 10 * (a * p) + p * 10 := by rw [Nat.add_mul, e1, Nat.one_mul]
    omega
theorem parse_val (l : List UInt8) (h : l.all isD = true) : ∀ a, (a + 1) * 10 ^ l.length ≤ 1000000000000000000 → parseUint10 a l = .ok (val a l) := by
  induction l with
  | nil => intro a _; rfl
  | cons c r ih =>
    intro a ha
    rw [List.all_cons, Bool.and_eq_true] at h
    have hc := isD_iff.1 h.1
    rw [List.length_cons, Nat.pow_succ] at ha
    have hp : 0 < 10 ^ r.length := Nat.pow_pos (by decide)
    have hb : (10 * a + (c.toNat - 48) + 1) * 10 ^ r.length ≤ 1000000000000000000 := by
      refine Nat.le_trans ?_ ha
      clear ha ih
      generalize 10 ^ r.length = p at *
      have hd : c.toNat - 48 ≤ 9 := by omega
      generalize c.toNat - 48 = d at *
      have e0 : d * p ≤ 9 * p := Nat.mul_le_mul_right p hd
      have e1 : a * (p * 10) = 10 * (a * p) := by rw [← Nat.mul_assoc, Nat.mul_comm]
      have e3 : (10 * a + d + 1) * p = 10 * (a * p) + d * p + p := by rw [Nat.add_mul, Nat.add_mul, Nat.mul_assoc, Nat.one_mul]
      have e4 : (a + 1) * (p * 10) = 10 * (a * p) + p * 10 := by rw [Nat.add_mul, e1, Nat.one_mul]
      omega
    have hs : 10 * a + (c.toNat - 48) + 1 ≤ 1000000000000000000 := Nat.le_trans (Nat.le_mul_of_pos_right _ hp) hb
    rw [val_cons]
    simp only [parseUint10]
    rw [if_pos hc, if_neg (by omega), if_neg (by omega), show a * 10 + (c.toNat - 48) = 10 * a + (c.toNat - 48) by omega]
    exact ih h.2 _ hb
theorem atoi_digits (l : List UInt8) (h0 : l ≠ []) (h : l.all isD = true) (hl : l.length ≤ 18) : atoiAll l = .ok (val 0 l : Int) := by
  obtain ⟨c, r, rfl⟩ := List.exists_cons_of_ne_nil h0
  have hc : isD c = true := by rw [List.all_cons, Bool.and_eq_true] at h; exact h.1
  have hc := isD_iff.1 hc
  have hp : 10 ^ (c :: r).length ≤ 10 ^ 18 := Nat.pow_le_pow_right (by decide) hl
  have hb := (val_bd _ h 0).2
  rw [atoiAll_plain c r (by omega) (by omega)]
  unfold parseMag
  rw [if_neg h0, parse_val _ h 0 (by omega)]
  unfold signless
  simp only
  rw [if_neg (by omega)]
theorem dec_small {u : Nat} (h : u < 10) : decDigits u = [UInt8.ofNat (48 + u)] := decDigits_one h
theorem dec_big {u : Nat} (h : ¬ u < 10) : decDigits u = decDigits (u / 10) ++ [UInt8.ofNat (48 + u % 10)] := by rw [decDigits, dif_neg h]
theorem digit_toNat {d : Nat} (h : d < 10) : (UInt8.ofNat (48 + d)).toNat = 48 + d := by
  rw [UInt8.toNat_ofNat']; omega
theorem digit_isD {d : Nat} (h : d < 10) : isD (UInt8.ofNat (48 + d)) = true := by
  rw [isD_iff, digit_toNat h]; omega
theorem head_app (a b : List UInt8) (h : a ≠ []) : (a ++ b).head? = a.head? := by
  obtain ⟨c, r, rfl⟩ := List.exists_cons_of_ne_nil h
  rfl
theorem dec_ne (u : Nat) : decDigits u ≠ [] := by
  by_cases h : u < 10
  · rw [dec_small h]; simp
  · rw [dec_big h]; simp
theorem dec_all (u : Nat) : (decDigits u).all isD = true := by
  induction u using Nat.strongRecOn with
  | _ u ih =>
    by_cases h : u < 10
    · rw [dec_small h, List.all_cons, List.all_nil, digit_isD h]; rfl
    · rw [dec_big h, List.all_append, ih (u / 10) (by omega)]
      have : u % 10 < 10 := Nat.mod_lt _ (by decide)
      rw [List.all_cons, List.all_nil, digit_isD this]; rfl
theorem dec_val (u : Nat) : val 0 (decDigits u) = u := by
  induction u using Nat.strongRecOn with
  | _ u ih =>
    by_cases h : u < 10
    · rw [dec_small h]; rw [val_cons, val_nil, digit_toNat h]; omega
    · have : u % 10 < 10 := Nat.mod_lt _ (by decide)
      rw [dec_big h, val_append, ih (u / 10) (by omega)]
      rw [val_cons, val_nil, digit_toNat this]; omega
/-- no zero ahead -/
theorem dec_head (u : Nat) (h : 1 ≤ u) : ∀ c, (decDigits u).head? = some c → c.toNat ≠ 48 := by
  induction u using Nat.strongRecOn with
  | _ u ih =>
    intro c hc
    by_cases h1 : u < 10
    · rw [dec_small h1] at hc
      obtain rfl := Option.some.inj hc
      rw [digit_toNat h1]; omega
    · rw [dec_big h1, head_app _ _ (dec_ne _)] at hc
      exact ih (u / 10) (by omega) (by omega) c hc
theorem dec_of_val (l : List UInt8) (h0 : l ≠ []) (h : l.all isD = true) (hz : l.length = 1 ∨ ∀ c, l.head? = some c → c.toNat ≠ 48) : decDigits (val 0 l) = l := by
  induction hn : l.length using Nat.strongRecOn generalizing l with
  | _ n ih =>
    obtain ⟨r, c, rfl⟩ : ∃ r c, l = r ++ [c] := ⟨l.dropLast, l.getLast h0, (List.dropLast_concat_getLast h0).symm⟩
    rw [List.all_append, Bool.and_eq_true] at h
    have hc : isD c = true := by simpa using h.2
    have hc := isD_iff.1 hc
    rw [val_append, val_cons, val_nil]
    have e1 : UInt8.ofNat (48 + (c.toNat - 48)) = c := by
      rw [show 48 + (c.toNat - 48) = c.toNat by omega]; simp
    by_cases hr : r = []
    · subst hr
      rw [val_nil, List.nil_append]
      rw [dec_small (by omega), show 10 * 0 + (c.toNat - 48) = c.toNat - 48 by omega, e1]
    · have hz' : ∀ d, r.head? = some d → d.toNat ≠ 48 := by
        rcases hz with hz | hz
        · have := List.length_pos_iff.2 hr
          rw [List.length_append, List.length_cons, List.length_nil] at hz
          omega
        · intro d hd
          exact hz d (by rw [head_app _ _ hr]; exact hd)
      obtain ⟨d, r', hr'⟩ := List.exists_cons_of_ne_nil hr
      have hd : isD d = true := by have := h.1; rw [hr', List.all_cons, Bool.and_eq_true] at this; exact this.1
      have hd := isD_iff.1 hd
      have hd0 := hz' d (by rw [hr']; rfl)
      have hv : 1 ≤ val 0 r := by
        rw [hr']
        have hall : r'.all isD = true := by have := h.1; rw [hr', List.all_cons, Bool.and_eq_true] at this; exact this.2
        have := (val_bd r' hall (10 * 0 + (d.toNat - 48))).1
        have hp : 0 < 10 ^ r'.length := Nat.pow_pos (by decide)
        rw [val_cons]
        refine Nat.le_trans (Nat.mul_pos (by omega) hp) this
      rw [dec_big (by omega), show (10 * val 0 r + (c.toNat - 48)) / 10 = val 0 r by omega, show (10 * val 0 r + (c.toNat - 48)) % 10 = c.toNat - 48 by omega, e1, ih r.length (by rw [← hn]; simp) r hr h.1 (.inr hz') rfl]
end Go.Proofs.YtignpfhlagfijaaDoor.Dec
