/-
  Plain facts on the texts of lengths: what Text writes, and that Parse takes it back.
-/
import Derived.Test.YtignpfhlagfijaaDoorPureRef
import Derived.Lib.ItoaLen
namespace Go.Proofs.YtignpfhlagfijaaDoor.Pure
open Go.RowKit Go.Proofs.YtignpfhlagfijaaDoorW.PrintWords Go.Proofs.YtignpfhlagfijaaDoorW.PrintLast Go.Proofs.YtignpfhlagfijaaDoorW.PrintMore Go.Proofs.YtignpfhlagfijaaDoor.Gv Go.Proofs.YtignpfhlagfijaaDoor.X Go.Proofs.YtignpfhlagfijaaDoor.Dec Go.Lib

theorem data_inj {a b : ByteArray} (h : a.data.toList = b.data.toList) : a = b := by
  obtain ⟨⟨a⟩⟩ := a
  obtain ⟨⟨b⟩⟩ := b
  exact congrArg (fun l => (⟨⟨l⟩⟩ : ByteArray)) h
/-- three digits -/
def three (r : Nat) : List UInt8 := [UInt8.ofNat (48 + r / 100), UInt8.ofNat (48 + r / 10 % 10), UInt8.ofNat (48 + r % 10)]
theorem three_all {r : Nat} (h : r < 1000) : (three r).all isD = true := by
  unfold three
  rw [List.all_cons, List.all_cons, List.all_cons, List.all_nil, digit_isD (by omega), digit_isD (by omega), digit_isD (by omega)]
  rfl
theorem three_val (a : Nat) {r : Nat} (h : r < 1000) : val a (three r) = 1000 * a + r := by
  unfold three
  rw [val_cons, val_cons, val_cons, val_nil, digit_toNat (by omega), digit_toNat (by omega), digit_toNat (by omega)]
  omega
theorem dec_thousand {r : Nat} (h : r < 1000) : decDigits (1000 + r) = 49 :: three r := by
  have h49 : isD 49 = true := by decide
  have := dec_of_val (49 :: three r) (by simp) (by rw [List.all_cons, h49, three_all h]; rfl) (.inr fun c hc => by
    obtain rfl := Option.some.inj hc
    decide)
  rw [val_cons, show (49 : UInt8).toNat = 49 by decide, three_val _ h] at this
  rw [← this]
/-- zeros at the end fall away -/
theorem trim_three (a b c : UInt8) : trimRightB [a, b, c] 48 = if c ≠ 48 then [a, b, c] else if b ≠ 48 then [a, b] else if a ≠ 48 then [a] else [] := by
  unfold trimRightB
  by_cases hc : c = 48
  · by_cases hb : b = 48
    · by_cases ha : a = 48 <;> simp [hc, hb, ha]
    · simp [hc, hb]
  · simp [hc]
theorem trim_back {f : List UInt8} (h0 : f ≠ []) (h3 : f.length ≤ 3) (hl : f.getLast? ≠ some 48) : trimRightB ((f ++ [48, 48, 48]).take 3) 48 = f := by
  match f, h0, h3, hl with
  | [a], _, _, hl =>
    have : a ≠ 48 := fun e => hl (by rw [e]; rfl)
    rw [show List.take 3 ([a] ++ [48, 48, 48] : List UInt8) = [a, 48, 48] from rfl, trim_three]
    simp [this]
  | [a, b], _, _, hl =>
    have : b ≠ 48 := fun e => hl (by rw [e]; rfl)
    rw [show List.take 3 ([a, b] ++ [48, 48, 48] : List UInt8) = [a, b, 48] from rfl, trim_three]
    simp [this]
  | [a, b, c], _, _, hl =>
    have : c ≠ 48 := fun e => hl (by rw [e]; rfl)
    rw [show List.take 3 ([a, b, c] ++ [48, 48, 48] : List UInt8) = [a, b, c] from rfl, trim_three]
    simp [this]
  | a :: b :: c :: d :: r, _, h3, _ => simp at h3
theorem trim_fwd (a b c : UInt8) (h : ¬ (a = 48 ∧ b = 48 ∧ c = 48)) (hd : [a, b, c].all isD = true) : fracB (trimRightB [a, b, c] 48) = true ∧ ((trimRightB [a, b, c] 48) ++ [48, 48, 48]).take 3 = [a, b, c] := by
  simp only [List.all_cons, List.all_nil, Bool.and_true, Bool.and_eq_true] at hd
  rw [trim_three]
  by_cases hc : c = 48
  · by_cases hb : b = 48
    · have ha : a ≠ 48 := fun e => h ⟨e, hb, hc⟩
      rw [if_neg (by simp [hc]), if_neg (by simp [hb]), if_pos ha, hb, hc]
      exact ⟨fracB_iff.2 ⟨by simp, by simp [hd.1], by simp, by simpa using ha⟩, rfl⟩
    · rw [if_neg (by simp [hc]), if_pos hb, hc]
      exact ⟨fracB_iff.2 ⟨by simp, by simp [hd.1, hd.2.1], by simp, by simpa using hb⟩, rfl⟩
  · rw [if_pos hc]
    exact ⟨fracB_iff.2 ⟨by simp, by simp [hd.1, hd.2.1, hd.2.2], by simp, by simpa using hc⟩, rfl⟩
theorem three_zero {r : Nat} (h : r < 1000) (h0 : 0 < r) : ∃ a b c, three r = [a, b, c] ∧ ¬ (a = 48 ∧ b = 48 ∧ c = 48) := by
  refine ⟨_, _, _, rfl, fun ⟨e1, e2, e3⟩ => ?_⟩
  have v := three_val 0 h
  unfold three at v
  rw [e1, e2, e3] at v
  have : val 0 [48, 48, 48] = 0 := by decide
  omega
/-- the text of a length -/
def fracF (m : Nat) : Option (List UInt8) := if m % 1000 = 0 then none else some (trimRightB (three (m % 1000)) 48)
def textL (n : Int) : List UInt8 := (if n < 0 then [45] else []) ++ (decDigits (n.natAbs / 1000) ++ frac (fracF n.natAbs)) ++ [112, 116]
theorem num_text (m : Nat) : num (decDigits (m / 1000)) ((fracF m).getD []) = m := by
  unfold num fracF
  rw [val_append, dec_val]
  split
  · have : val (m / 1000) ((([] : List UInt8) ++ [48, 48, 48]).take 3) = 1000 * (m / 1000) := by
      rw [show List.take 3 ([] ++ [48, 48, 48] : List UInt8) = three 0 from rfl, three_val _ (by omega)]; omega
    rw [show (none : Option (List UInt8)).getD [] = [] from rfl, this]; omega
  · obtain ⟨a, b, c, e, hz⟩ := three_zero (r := m % 1000) (by omega) (by omega)
    have hd := three_all (r := m % 1000) (by omega)
    have hv := three_val (m / 1000) (r := m % 1000) (by omega)
    rw [e] at hd hv
    rw [e, show (some (trimRightB [a, b, c] 48)).getD [] = trimRightB [a, b, c] 48 from rfl, (trim_fwd a b c hz hd).2, hv]
    omega
theorem shape_text (n : Int) : Shape (textL n) (decide (n < 0)) (decDigits (n.natAbs / 1000)) (fracF n.natAbs) := by
  refine ⟨?_, dec_ne _, dec_all _, ?_, ?_, ?_⟩
  · unfold textL
    by_cases h : n < 0
    · rw [if_pos h, if_pos (decide_eq_true h)]
    · rw [if_neg h, if_neg (by rw [decide_eq_true_eq]; exact h)]
  · rintro ⟨h1, h2⟩
    by_cases h : n.natAbs / 1000 = 0
    · rw [h, dec_small (by omega)] at h1
      simp at h1
    · exact dec_head _ (by omega) 48 h2 (by decide)
  · intro f hf
    unfold fracF at hf
    split at hf
    · cases hf
    · obtain ⟨a, b, c, e, hz⟩ := three_zero (r := n.natAbs % 1000) (by omega) (by omega)
      have hd := three_all (r := n.natAbs % 1000) (by omega)
      rw [e] at hd hf
      obtain rfl := Option.some.inj hf
      exact fracB_iff.1 (trim_fwd a b c hz hd).1
  · rintro ⟨h1, h2, h3⟩
    have h1 : n < 0 := of_decide_eq_true h1
    have hn := num_text n.natAbs
    rw [h2, h3] at hn
    have : num [48] ((none : Option (List UInt8)).getD []) = 0 := by decide
    omega
theorem fin_text (n : Int) (h : isL n = true) : fin (decide (n < 0)) (decDigits (n.natAbs / 1000)) ((fracF n.natAbs).getD []) = (n, 0) := by
  have hl := isL_iff.1 h
  unfold fin
  rw [num_text]
  have hlen : ¬ 7 < (decDigits (n.natAbs / 1000)).length := by
    intro h7
    have hb := (val_bd _ (dec_all (n.natAbs / 1000)) 0).2
    rw [dec_val] at hb
    by_cases h0 : n.natAbs / 1000 = 0
    · rw [h0, dec_small (by omega)] at h7
      simp at h7
    · obtain ⟨c, r, hcr⟩ := List.exists_cons_of_ne_nil (dec_ne (n.natAbs / 1000))
      have hall := dec_all (n.natAbs / 1000)
      have hh := dec_head (n.natAbs / 1000) (by omega) c (by rw [hcr]; rfl)
      rw [hcr, List.all_cons, Bool.and_eq_true] at hall
      have hc := isD_iff.1 hall.1
      have hb2 := (val_bd r hall.2 (10 * 0 + (c.toNat - 48))).1
      have hv := dec_val (n.natAbs / 1000)
      rw [hcr, val_cons] at hv
      rw [hcr] at h7
      have hp : 10 ^ 7 ≤ 10 ^ r.length := Nat.pow_le_pow_right (by decide) (by simp at h7; omega)
      have e : (10 : Nat) ^ 7 = 10000000 := by decide
      have : 1 * 10 ^ r.length ≤ (10 * 0 + (c.toNat - 48)) * 10 ^ r.length := Nat.mul_le_mul_right _ (by omega)
      omega
  rw [if_neg hlen]
  have hn : (if decide (n < 0) = true then -(n.natAbs : Int) else (n.natAbs : Int)) = n := by
    by_cases hneg : n < 0
    · rw [if_pos (decide_eq_true hneg)]; omega
    · rw [if_neg (by rw [decide_eq_true_eq]; exact hneg)]; omega
  rw [hn, if_pos h]
/-- a text of the right shape whose number is a length is the text of that length -/
theorem text_fin {l : List UInt8} {neg : Bool} {W : List UInt8} {F : Option (List UInt8)} (h : Shape l neg W F) {n : Int} (hf : fin neg W (F.getD []) = (n, 0)) : isL n = true ∧ textL n = l := by
  obtain ⟨he, h0, h1, h2, h3, h4⟩ := h
  unfold fin at hf
  by_cases h7 : W.length > 7
  · rw [if_pos h7] at hf
    exact absurd (congrArg Prod.snd hf) (show ¬ (2 : Int) = 0 by omega)
  rw [if_neg h7] at hf
  by_cases hl : isL (if neg = true then -(num W (F.getD []) : Int) else (num W (F.getD []) : Int)) = true
  rotate_left
  · rw [if_neg hl] at hf
    exact absurd (congrArg Prod.snd hf) (show ¬ (2 : Int) = 0 by omega)
  rw [if_pos hl] at hf
  have hf := congrArg Prod.fst hf
  simp only at hf
  rw [hf] at hl
  refine ⟨hl, ?_⟩
  have hF : (F.getD []).all isD = true := by
    cases F with
    | none => rfl
    | some f => exact (h3 f rfl).2.1
  obtain ⟨t1, t2⟩ := thousandths W (F.getD []) hF
  -- the number's parts
  have ht : ((F.getD [] ++ [48, 48, 48]).take 3).all isD = true := by
    have := t2 h1
    rw [List.all_append, Bool.and_eq_true] at this
    exact this.2
  have htl : ((F.getD [] ++ [48, 48, 48]).take 3).length = 3 := by simp
  obtain ⟨r, hr, hr1⟩ : ∃ r, r < 1000 ∧ (F.getD [] ++ [48, 48, 48]).take 3 = three r := by
    generalize (F.getD [] ++ [48, 48, 48]).take 3 = t at *
    match t, htl, ht with
    | [a, b, c], _, ht =>
      simp only [List.all_cons, List.all_nil, Bool.and_true, Bool.and_eq_true] at ht
      have ha := isD_iff.1 ht.1
      have hb := isD_iff.1 ht.2.1
      have hc := isD_iff.1 ht.2.2
      refine ⟨100 * (a.toNat - 48) + 10 * (b.toNat - 48) + (c.toNat - 48), by omega, ?_⟩
      unfold three
      rw [show 48 + (100 * (a.toNat - 48) + 10 * (b.toNat - 48) + (c.toNat - 48)) / 100 = a.toNat by omega, show 48 + (100 * (a.toNat - 48) + 10 * (b.toNat - 48) + (c.toNat - 48)) / 10 % 10 = b.toNat by omega, show 48 + (100 * (a.toNat - 48) + 10 * (b.toNat - 48) + (c.toNat - 48)) % 10 = c.toNat by omega]
      simp
  have hnum : num W (F.getD []) = 1000 * val 0 W + r := by
    unfold num
    rw [val_append, hr1, three_val _ hr]
  have hW : decDigits (val 0 W) = W := dec_of_val W h0 h1 (by
    by_cases hlen : 1 < W.length
    · exact .inr fun c hc e => h2 ⟨hlen, by rw [hc, show c = 48 from toNat_inj e]⟩
    · have := List.length_pos_iff.2 h0
      exact .inl (by omega))
  have hfr : fracF (1000 * val 0 W + r) = F := by
    unfold fracF
    rw [show (1000 * val 0 W + r) % 1000 = r by omega]
    cases F with
    | none =>
      have : three r = three 0 := hr1.symm
      have v := three_val 0 hr
      rw [this, three_val 0 (by omega)] at v
      rw [if_pos (by omega)]
    | some f =>
      obtain ⟨f0, f1, f2, f3⟩ := h3 f rfl
      have hb := trim_back f0 f2 f3
      rw [show (some f).getD [] = f from rfl] at hr1
      rw [hr1] at hb
      rw [hb, if_neg]
      intro e
      rw [e] at hb
      have : trimRightB (three 0) 48 = [] := by decide
      rw [this] at hb
      exact f0 hb.symm
  have hpos : neg = true → 0 < num W (F.getD []) := fun hn => by
    rw [hnum]
    by_cases hz : 1000 * val 0 W + r = 0
    · exfalso
      have hv : val 0 W = 0 := by omega
      rw [hv, dec_small (by omega)] at hW
      rw [hz] at hfr
      exact h4 ⟨hn, hW.symm, hfr.symm⟩
    · omega
  have habs : n.natAbs = 1000 * val 0 W + r := by
    rw [← hf, hnum]
    split <;> omega
  have hneg : (if n < 0 then [45] else ([] : List UInt8)) = (if neg = true then [45] else []) := by
    rw [← hf]
    cases neg
    · rw [if_neg (by simp), if_neg (by decide)]
    · have := hpos rfl
      rw [if_pos (by simp; omega), if_pos rfl]
  unfold textL
  rw [habs, show (1000 * val 0 W + r) / 1000 = val 0 W by omega, hW, hfr, hneg, he]
/-! ### the program's Text and the reference's -/
theorem impl_j0t (k : Nat) (n : Int) (hn : 0 ≤ n) (h1 : n ≤ 1073741824) (s : ByteArray) (hs : s.size ≤ 10) : length_Text.j0 (k + 1) n s = some ⟨(s.data.toList ++ (decDigits (n.natAbs / 1000) ++ frac (fracF n.natAbs)) ++ [112, 116]).toArray⟩ := by
  have e1 : Int.tdiv n 1000 = n / 1000 := Int.tdiv_eq_ediv_of_nonneg hn
  have e2 : Int.tmod n 1000 = n % 1000 := Int.tmod_eq_emod_of_nonneg hn
  obtain ⟨m, rfl⟩ := Int.eq_ofNat_of_zero_le hn
  have hit : ∀ u : Nat, u ≤ 1073741824 → strconv_Itoa.f (u : Int) = some ⟨(decDigits u).toArray⟩ := fun u hu => by
    unfold strconv_Itoa.f
    rw [if_pos (by omega), if_pos (by omega), itoa_nonneg]
  have hlen : ∀ u : Nat, u ≤ 1073741824 → (decDigits u).length ≤ 21 := fun u hu => by
    have := itoa_length_le (u : Int) (by omega) (by omega)
    rwa [itoa_nonneg] at this
  simp only [length_Text.j0]
  rw [e1, e2, w64 (x := (m : Int) / 1000) (by omega) (by omega), show (m : Int) / 1000 = ((m / 1000 : Nat) : Int) by omega, hit _ (by omega)]
  simp only [Option.bind_some, Int.natAbs_natCast]
  have hd := hlen (m / 1000) (by omega)
  have hs' := size_list s
  have sz : ∀ l : List UInt8, (⟨l.toArray⟩ : ByteArray).size = l.length := fun l => by rw [size_list]
  have sd := sz (decDigits (m / 1000))
  rw [if_pos (by omega)]
  unfold fracF
  by_cases hz : m % 1000 = 0
  · rw [if_pos (by omega), if_pos (by rw [ByteArray.size_append]; omega), if_pos hz, frac_none]
    congr 1
    apply data_inj
    simp [ByteArray.data_append]
  · rw [if_neg (by omega), if_neg hz, w64 (by omega) (by omega), show (1000 : Int) + (m : Int) % 1000 = ((1000 + m % 1000 : Nat) : Int) by omega, hit _ (by omega), dec_thousand (by omega)]
    simp only [Option.bind_some]
    rw [if_pos (by rw [sz (49 :: three (m % 1000)), List.length_cons]; omega)]
    have hx : ((⟨(49 :: three (m % 1000)).toArray⟩ : ByteArray).extract 1 (⟨(49 :: three (m % 1000)).toArray⟩ : ByteArray).size).data.toList = three (m % 1000) := by
      rw [Lib.extract_data]
      rfl
    unfold strings_TrimRight.f
    rw [size_list (ByteArray.extract _ _ _), hx]
    simp only []
    rw [if_pos (by decide), if_pos (by unfold three; simp)]
    simp only [Option.bind_some]
    have ht : (trimRightB (three (m % 1000)) 48).length ≤ 3 := by
      unfold three
      rw [trim_three]
      split <;> (try split) <;> (try split) <;> simp
    have st := sz (trimRightB (three (m % 1000)) 48)
    have s46 : (⟨#[46]⟩ : ByteArray).size = 1 := rfl
    rw [if_pos (by omega), if_pos (by rw [ByteArray.size_append, ByteArray.size_append]; omega), if_pos (by rw [ByteArray.size_append, ByteArray.size_append, ByteArray.size_append]; omega), frac_some]
    congr 1
    apply data_inj
    simp [ByteArray.data_append]
theorem impl_text (k : Nat) (n : Int) : length_Text.f (k + 1) n = some (if isL n = true then ⟨(textL n).toArray⟩ else ⟨#[]⟩) := by
  unfold length_Text.f
  rw [impl_valid]
  simp only [Option.bind_some]
  split
  · rename_i h
    have hl := isL_iff.1 h
    unfold textL
    split
    · rw [w64 (by omega) (by omega), impl_j0t k (-n) (by omega) (by omega) _ (by decide), Int.natAbs_neg]
    · rw [impl_j0t k n (by omega) (by omega) _ (by decide)]
  · rfl
/-! ### the reference's Text -/
theorem ref_digits (u : Nat) : ∀ k, (decDigits u).length ≤ k → u ≤ 1073741824 → vinculumref01_Digits.f k (u : Int) = some ⟨(decDigits u).toArray⟩ := by
  induction u using Nat.strongRecOn with
  | _ u ih =>
    intro k hk hu
    have hpos := List.length_pos_iff.2 (dec_ne u)
    obtain ⟨k, rfl⟩ : ∃ m, k = m + 1 := ⟨k - 1, by omega⟩
    have one : ∀ d : Nat, d < 10 → ∀ k, vinculumref01_Digits.f (k + 1) (d : Int) = some ⟨(decDigits d).toArray⟩ := fun d hd k => by
      simp only [vinculumref01_Digits.f]
      rw [if_pos (by omega), w64 (by omega) (by omega), dec_small hd]
      congr 1
      apply data_inj
      simp only [strOfNums, List.map_cons, List.map_nil]
      congr 2
      omega
    by_cases h : u < 10
    · exact one u h k
    · have e := dec_big h
      have hl : (decDigits u).length = (decDigits (u / 10)).length + 1 := by rw [e]; simp
      have hl2 := itoa_length_le (u : Int) (by omega) (by omega)
      rw [itoa_nonneg] at hl2
      have hp2 := List.length_pos_iff.2 (dec_ne (u / 10))
      obtain ⟨k, rfl⟩ : ∃ m, k = m + 1 := ⟨k - 1, by omega⟩
      have h1 := ih (u / 10) (by omega) (k + 1) (by omega) (by omega)
      have h2 := one (u % 10) (by omega) k
      rw [vinculumref01_Digits.f]
      rw [if_neg (by omega), Int.tdiv_eq_ediv_of_nonneg (by omega), Int.tmod_eq_emod_of_nonneg (by omega), w64 (by omega) (by omega), show (u : Int) / 10 = ((u / 10 : Nat) : Int) by omega, show (u : Int) % 10 = ((u % 10 : Nat) : Int) by omega, h1, Option.bind_some, h2, Option.bind_some]
      have z1 := size_list ⟨(decDigits (u / 10)).toArray⟩
      have z2 := size_list ⟨(decDigits (u % 10)).toArray⟩
      have z3 : (decDigits (u % 10)).length = 1 := by rw [dec_small (by omega)]; rfl
      simp only at z1 z2
      rw [if_pos (by omega)]
      congr 1
      apply data_inj
      rw [e, dec_small (show u % 10 < 10 by omega)]
      simp
/-- zeros at the end fall away, one by one -/
theorem ref_trim (s : ByteArray) (hs : s.size ≤ 30) (x : List UInt8) (c : UInt8) (hc : c ≠ 48) (d : Nat) : ∀ (k : Nat) (t : ByteArray), t.data.toList = x ++ [c] ++ List.replicate d 48 → (x ++ [c]).length + d ≤ 30 → d < k →
    vinculumref01_Text.l0 k s t = some ⟨(s.data.toList ++ (46 :: (x ++ [c])) ++ [112, 116]).toArray⟩ := by
  have hs' := size_list s
  induction d with
  | zero =>
    intro k t ht hl hk
    obtain ⟨k, rfl⟩ : ∃ m, k = m + 1 := ⟨k - 1, by omega⟩
    rw [List.replicate_zero, List.append_nil] at ht
    have hz := size_list t
    rw [ht] at hz
    have hpos : (x ++ [c]).length = x.length + 1 := by simp
    simp only [vinculumref01_Text.l0]
    rw [w64 (by omega) (by omega), if_pos (by omega), if_pos (by omega)]
    have hb := bt_list t x.length (by rw [ht]; omega)
    simp only [ht, List.getElem_concat_length] at hb
    have e48 : (48 : UInt8).toNat = 48 := by decide
    rw [show (t.size : Int) - 1 = (x.length : Int) by omega, hb, if_neg (fun e => hc (toNat_inj (by omega)))]
    have s46 : (⟨#[46]⟩ : ByteArray).size = 1 := rfl
    rw [if_pos (by omega), if_pos (by rw [ByteArray.size_append]; omega), if_pos (by rw [ByteArray.size_append, ByteArray.size_append]; omega)]
    congr 1
    apply data_inj
    simp [ByteArray.data_append, ht]
  | succ d ih =>
    intro k t ht hl hk
    obtain ⟨k, rfl⟩ : ∃ m, k = m + 1 := ⟨k - 1, by omega⟩
    have ht2 : t.data.toList = (x ++ [c] ++ List.replicate d 48) ++ [48] := by rw [ht, List.replicate_succ', List.append_assoc, List.append_assoc]; simp
    have hz := size_list t
    rw [ht2] at hz
    have hlen : ((x ++ [c] ++ List.replicate d 48) ++ [48]).length = (x ++ [c]).length + d + 1 := by simp; omega
    have hlen2 : (x ++ [c] ++ List.replicate d 48).length = (x ++ [c]).length + d := by simp; omega
    simp only [vinculumref01_Text.l0]
    rw [w64 (by omega) (by omega), if_pos (by omega), if_pos (by omega)]
    have hb := bt_list t (x ++ [c] ++ List.replicate d 48).length (by rw [ht2]; omega)
    simp only [ht2, List.getElem_concat_length] at hb
    rw [show (t.size : Int) - 1 = ((x ++ [c] ++ List.replicate d 48).length : Int) by omega, hb, if_pos (by decide), if_pos (by omega)]
    refine ih k _ ?_ (by omega) (by omega)
    rw [Lib.extract_data, ht2, List.drop_zero, Int.toNat_natCast, Nat.sub_zero]
    exact List.take_left ..
theorem three_zeros (r : Nat) (h : r < 1000) (h0 : 0 < r) : ∃ x c d, trimRightB (three r) 48 = x ++ [c] ∧ c ≠ 48 ∧ three r = x ++ [c] ++ List.replicate d 48 ∧ d ≤ 2 ∧ x.length ≤ 2 := by
  obtain ⟨a, b, c, e, hz⟩ := three_zero h h0
  rw [e, trim_three]
  by_cases hc : c = 48
  · by_cases hb : b = 48
    · have ha : a ≠ 48 := fun e => hz ⟨e, hb, hc⟩
      exact ⟨[], a, 2, by rw [if_neg (by simpa using hc), if_neg (by simpa using hb), if_pos ha]; rfl, ha, by rw [hb, hc]; rfl, by omega, by simp⟩
    · exact ⟨[a], b, 1, by rw [if_neg (by simpa using hc), if_pos hb]; rfl, hb, by rw [hc]; rfl, by omega, by simp⟩
  · exact ⟨[a, b], c, 0, by rw [if_pos hc]; rfl, hc, by simp, by omega, by simp⟩
theorem ref_j0t (k : Nat) (hk : 40 ≤ k) (n : Int) (h : isL n = true) (s : ByteArray) (hs : s.size ≤ 25) : vinculumref01_Text.j0 (k + 1) n s = some ⟨(s.data.toList ++ frac (fracF n.natAbs) ++ [112, 116]).toArray⟩ := by
  have hl := isL_iff.1 h
  have hs' := size_list s
  simp only [vinculumref01_Text.j0]
  rw [ref_size n (by omega) (by omega), show (if n < 0 then -n else n) = (n.natAbs : Int) by split <;> omega, Option.bind_some]
  rw [Int.tmod_eq_emod_of_nonneg (by omega)]
  unfold fracF
  by_cases hz : n.natAbs % 1000 = 0
  · rw [if_neg (by omega), if_pos (by omega), if_pos hz, frac_none]
    congr 1
    apply data_inj
    simp [ByteArray.data_append]
  · have hd := dec_thousand (r := n.natAbs % 1000) (by omega)
    rw [if_pos (by omega), if_neg hz, w64 (by omega) (by omega), show (1000 : Int) + (n.natAbs : Int) % 1000 = ((1000 + n.natAbs % 1000 : Nat) : Int) by omega, ref_digits _ k (by rw [hd]; unfold three; simp; omega) (by omega), hd, frac_some, Option.bind_some]
    have hx : ((⟨(49 :: three (n.natAbs % 1000)).toArray⟩ : ByteArray).extract 1 (⟨(49 :: three (n.natAbs % 1000)).toArray⟩ : ByteArray).size).data.toList = three (n.natAbs % 1000) := by
      rw [Lib.extract_data]
      rfl
    have hsz : (⟨(49 :: three (n.natAbs % 1000)).toArray⟩ : ByteArray).size = 4 := by rw [size_list]; rfl
    rw [if_pos (by rw [hsz]; omega)]
    obtain ⟨x, c, d, e1, e2, e3, e4, e5⟩ := three_zeros (n.natAbs % 1000) (by omega) (by omega)
    rw [e1]
    exact ref_trim s (by omega) x c e2 d k _ (hx.trans e3) (by simp; omega) (by omega)
theorem ref_text (k : Nat) (hk : 40 ≤ k) (n : Int) : vinculumref01_Text.f (k + 1) n = some (if isL n = true then ⟨(textL n).toArray⟩ else ⟨#[]⟩) := by
  unfold vinculumref01_Text.f
  rw [ref_valid, Option.bind_some]
  split
  · rename_i h
    have hl := isL_iff.1 h
    rw [ref_size n (by omega) (by omega), show (if n < 0 then -n else n) = (n.natAbs : Int) by split <;> omega, Option.bind_some]
    have hlen := itoa_length_le ((n.natAbs / 1000 : Nat) : Int) (by omega) (by omega)
    rw [itoa_nonneg] at hlen
    rw [Int.tdiv_eq_ediv_of_nonneg (by omega), w64 (by omega) (by omega), show (n.natAbs : Int) / 1000 = ((n.natAbs / 1000 : Nat) : Int) by omega, ref_digits _ (k + 1) (by omega) (by omega), Option.bind_some]
    have hsz : (⟨(decDigits (n.natAbs / 1000)).toArray⟩ : ByteArray).size = (decDigits (n.natAbs / 1000)).length := by rw [size_list]
    unfold textL
    split
    · rw [if_pos (by omega), ref_j0t k hk n h _ (by rw [ByteArray.size_append, hsz, show (⟨#[45]⟩ : ByteArray).size = 1 from rfl]; omega)]
      exact congrArg some (data_inj (by simp [ByteArray.data_append]))
    · rw [ref_j0t k hk n h _ (by omega)]
      exact congrArg some (data_inj (by simp))
  · rfl
end Go.Proofs.YtignpfhlagfijaaDoor.Pure
