/-
  Plain facts on the texts of lengths: what Parse of the program and Parse of the reference do at a text of the right shape, and that they take no other.
-/
import Derived.Test.YtignpfhlagfijaaDoorXx8
import Derived.Test.YtignpfhlagfijaaDoorPureBase
import Derived.Test.YtignpfhlagfijaaDoorDec
namespace Go.Proofs.YtignpfhlagfijaaDoor.Pure
open Go.RowKit Go.Proofs.YtignpfhlagfijaaDoorW.PrintWords Go.Proofs.YtignpfhlagfijaaDoorW.PrintLast Go.Proofs.YtignpfhlagfijaaDoorW.PrintMore Go.Proofs.YtignpfhlagfijaaDoor.Gv Go.Proofs.YtignpfhlagfijaaDoor.X Go.Proofs.YtignpfhlagfijaaDoor.Dec

theorem size_list (s : ByteArray) : s.size = s.data.toList.length := Lib.size_eq s
theorem bt_list (s : ByteArray) (i : Nat) (h : i < s.data.toList.length) : bt s (i : Int) = ((s.data.toList[i]).toNat : Int) := by
  have hs : i < s.size := by rw [size_list]; exact h
  unfold bt
  rw [dif_pos (by simpa using hs)]
  simp [ByteArray.getElem_eq_getElem_data]
theorem digB_eq (s : ByteArray) : digB s = (!s.data.toList.isEmpty && s.data.toList.all isD) := rfl
theorem toNat_inj {c d : UInt8} (h : c.toNat = d.toNat) : c = d := UInt8.toNat_inj.1 h

theorem isD_false_45 : isD 45 = false := by decide
theorem isD_false_46 : isD 46 = false := by decide
theorem not_mem_46 {l : List UInt8} (h : l.all isD = true) : (46 : UInt8) ∉ l := fun hm => by
  have := List.all_eq_true.1 h _ hm
  rw [isD_false_46] at this
  cases this

theorem indexByte_app (a b : List UInt8) (c : UInt8) (h : c ∉ a) : Lib.indexByte (a ++ c :: b) c = a.length := by
  induction a with
  | nil => simp [Lib.indexByte]
  | cons x r ih =>
    have hx : (x == c) = false := by
      rw [beq_eq_false_iff_ne]
      intro e
      exact h (by rw [e]; exact List.mem_cons_self)
    have := ih (fun hm => h (List.mem_cons_of_mem _ hm))
    simp only [List.cons_append, Lib.indexByte, hx, this]
    rw [if_neg (by decide), if_neg (by simp)]
    simp
theorem indexByte_no (a : List UInt8) (c : UInt8) (h : c ∉ a) : Lib.indexByte a c = -1 := by
  induction a with
  | nil => rfl
  | cons x r ih =>
    have hx : (x == c) = false := by
      rw [beq_eq_false_iff_ne]
      intro e
      exact h (by rw [e]; exact List.mem_cons_self)
    have := ih (fun hm => h (List.mem_cons_of_mem _ hm))
    simp only [Lib.indexByte, hx, this]
    rfl
theorem cut_hit (a b : List UInt8) (c : UInt8) (h : c ∉ a) : Lib.cut (a ++ c :: b) [c] = (a, b, true) := by
  unfold Lib.cut
  rw [Lib.index_one, indexByte_app a b c h, if_pos (by omega)]
  simp
theorem cut_miss (a : List UInt8) (c : UInt8) (h : c ∉ a) : Lib.cut a [c] = (a, [], false) := by
  unfold Lib.cut
  rw [Lib.index_one, indexByte_no a c h, if_neg (by omega)]
theorem cut_cases (l : List UInt8) (c : UInt8) : (∃ a b, c ∉ a ∧ l = a ++ c :: b ∧ Lib.cut l [c] = (a, b, true)) ∨ (c ∉ l ∧ Lib.cut l [c] = (l, [], false)) := by
  by_cases h : c ∈ l
  · obtain ⟨a, b, rfl, ha⟩ := List.eq_append_cons_of_mem h
    exact .inl ⟨a, b, ha, rfl, cut_hit a b c ha⟩
  · exact .inr ⟨h, cut_miss l c h⟩
theorem suffix_cases (l p : List UInt8) : (∃ a, l = a ++ p ∧ Lib.hasSuffix l p = true ∧ Lib.trimSuffix l p = a) ∨ (Lib.hasSuffix l p = false ∧ ∀ a, l ≠ a ++ p) := by
  by_cases h : Lib.hasSuffix l p = true
  · obtain ⟨a, ha⟩ := List.isSuffixOf_iff_suffix.1 (show p.isSuffixOf l = true from h)
    refine .inl ⟨a, ha.symm, h, ?_⟩
    unfold Lib.trimSuffix
    rw [if_pos h, ← ha]
    simp
  · refine .inr ⟨by simpa using h, fun a e => h ?_⟩
    exact List.isSuffixOf_iff_suffix.2 ⟨a, e.symm⟩
theorem prefix_one (l : List UInt8) (c : UInt8) : (∃ r, l = c :: r ∧ Lib.hasPrefix l [c] = true ∧ Lib.trimPrefix l [c] = r) ∨ (l.head? ≠ some c ∧ Lib.hasPrefix l [c] = false ∧ Lib.trimPrefix l [c] = l) := by
  cases l with
  | nil => exact .inr ⟨by simp, rfl, rfl⟩
  | cons x r =>
    by_cases h : x = c
    · subst h
      have : Lib.hasPrefix (x :: r) [x] = true := by simp [Lib.hasPrefix, List.isPrefixOf]
      exact .inl ⟨r, rfl, this, by unfold Lib.trimPrefix; rw [if_pos this]; rfl⟩
    · have : Lib.hasPrefix (x :: r) [c] = false := by simp [Lib.hasPrefix, List.isPrefixOf]; exact fun e => h e.symm
      exact .inr ⟨by simpa using h, this, by unfold Lib.trimPrefix; rw [if_neg (by rw [this]; decide)]⟩

/-- what stands behind the whole part -/
def frac (F : Option (List UInt8)) : List UInt8 := match F with | none => [] | some f => 46 :: f
theorem frac_none : frac none = [] := rfl
theorem frac_some (f : List UInt8) : frac (some f) = 46 :: f := rfl
/-- a text of the right shape: a sign, digits, a point and digits, 'pt' -/
structure Shape (s : List UInt8) (neg : Bool) (W : List UInt8) (F : Option (List UInt8)) : Prop where
  eq : s = (if neg = true then [45] else []) ++ (W ++ frac F) ++ [112, 116]
  w0 : W ≠ []
  w1 : W.all isD = true
  w2 : ¬ (1 < W.length ∧ W.head? = some 48)
  f1 : ∀ f, F = some f → f ≠ [] ∧ f.all isD = true ∧ f.length ≤ 3 ∧ f.getLast? ≠ some 48
  z : ¬ (neg = true ∧ W = [48] ∧ F = none)
def num (W F : List UInt8) : Nat := val 0 (W ++ (F ++ [48, 48, 48]).take 3)
def fin (neg : Bool) (W F : List UInt8) : Int × Int :=
  if W.length > 7 then (0, 2) else if isL (if neg = true then -(num W F : Int) else (num W F : Int)) = true then ((if neg = true then -(num W F : Int) else (num W F : Int)), 0) else (0, 2)
theorem thousandths (W F : List UInt8) (hF : F.all isD = true) : (W ++ (F ++ [48, 48, 48]).take 3).length = W.length + 3 ∧ (W.all isD = true → (W ++ (F ++ [48, 48, 48]).take 3).all isD = true) := by
  constructor
  · simp
  · intro hW
    rw [List.all_append, hW, Bool.true_and, List.all_eq_true]
    intro c hc
    have := List.mem_of_mem_take hc
    rw [List.mem_append] at this
    rcases this with h | h
    · exact List.all_eq_true.1 hF _ h
    · simp at h; subst h; decide
theorem num_bd (W F : List UInt8) (hW : W.all isD = true) (hF : F.all isD = true) (h : W.length ≤ 8) : (num W F : Int) < 100000000000 := by
  obtain ⟨h1, h2⟩ := thousandths W F hF
  have := (val_bd _ (h2 hW) 0).2
  rw [h1] at this
  have hp : 10 ^ (W.length + 3) ≤ 10 ^ 11 := Nat.pow_le_pow_right (by decide) (by omega)
  have e : (10 : Nat) ^ 11 = 100000000000 := by decide
  unfold num
  omega
/-- eight digits of which the first is no zero are too many -/
theorem num_big (W F : List UInt8) (hW : W.all isD = true) (hF : F.all isD = true) (h : W.length = 8) (hz : W.head? ≠ some 48) : 10000000000 ≤ (num W F : Int) := by
  obtain ⟨c, r, rfl⟩ : ∃ c r, W = c :: r := by cases W with
    | nil => simp at h
    | cons c r => exact ⟨c, r, rfl⟩
  rw [List.all_cons, Bool.and_eq_true] at hW
  have hc := isD_iff.1 hW.1
  have hc0 : c.toNat ≠ 48 := fun e => hz (by rw [show c = 48 from toNat_inj e]; rfl)
  obtain ⟨h1, h2⟩ := thousandths r F hF
  have hb := (val_bd _ (h2 hW.2) (10 * 0 + (c.toNat - 48))).1
  rw [h1, show r.length = 7 by simpa using h] at hb
  have e : (10 : Nat) ^ (7 + 3) = 10000000000 := by decide
  unfold num
  rw [List.cons_append, val_cons]
  rw [e] at hb
  have : 1 * 10000000000 ≤ (10 * 0 + (c.toNat - 48)) * 10000000000 := Nat.mul_le_mul_right _ (by omega)
  omega

/-! ### the program's Parse -/
theorem impl_j2_stop (k : Nat) (neg : Bool) (W F : ByteArray) : length_Parse.j2 (k + 1) neg W F true = some (0, 3) := by simp [length_Parse.j2]
theorem impl_j2 (k : Nat) (neg : Bool) (W F : ByteArray) (h0 : W.data.toList ≠ []) (hW : W.data.toList.all isD = true) (hz : ¬ (1 < W.data.toList.length ∧ W.data.toList.head? = some 48)) (hF : F.data.toList.all isD = true) (hFl : F.data.toList.length ≤ 3) :
    length_Parse.j2 (k + 1) neg W F false = some (fin neg W.data.toList F.data.toList) := by
  simp only [length_Parse.j2]
  rw [if_neg (by decide)]
  have hs := size_list W
  have hf := size_list F
  by_cases h8 : (W.size : Int) > 8
  · rw [if_pos h8]
    unfold fin
    rw [if_pos (by omega)]
  · have hx : (F ++ (⟨#[48, 48, 48]⟩ : ByteArray)).size = F.size + 3 := by rw [ByteArray.size_append]; rfl
    have hd : ((F ++ (⟨#[48, 48, 48]⟩ : ByteArray)).extract 0 3).data.toList = (F.data.toList ++ [48, 48, 48]).take 3 := by
      rw [Lib.extract_data, ByteArray.data_append, Array.toList_append]; rfl
    have hall : (W ++ ((F ++ (⟨#[48, 48, 48]⟩ : ByteArray)).extract 0 3)).data.toList = W.data.toList ++ (F.data.toList ++ [48, 48, 48]).take 3 := by
      rw [ByteArray.data_append, Array.toList_append, hd]
    obtain ⟨t1, t2⟩ := thousandths W.data.toList F.data.toList hF
    rw [if_neg h8, if_pos (by omega), if_pos (by omega), if_pos (by rw [hx]; omega), if_pos (by rw [size_list ((F ++ _).extract 0 3), hd]; simp; omega)]
    have ha : strconv_Atoi.f (W ++ ((F ++ (⟨#[48, 48, 48]⟩ : ByteArray)).extract 0 3)) = some ((num W.data.toList F.data.toList : Int), none) := by
      unfold strconv_Atoi.f
      rw [size_list, hall, t1, if_pos (by omega), atoi_digits _ (by simp [h0]) (t2 hW) (by omega)]
      rfl
    rw [ha]
    simp only [Option.bind_some]
    have hn := num_bd W.data.toList F.data.toList hW hF (by omega)
    unfold fin
    by_cases h7 : W.data.toList.length > 7
    · rw [if_pos h7]
      have hb := num_big W.data.toList F.data.toList hW hF (by omega) (fun e => hz ⟨by omega, e⟩)
      rw [w64 (by omega) (by omega), impl_valid, impl_valid, isL_no.2 (.inl (by omega)), isL_no.2 (.inr (by omega))]
      cases neg <;> rfl
    · rw [if_neg h7, w64 (by omega) (by omega), impl_valid, impl_valid]
      cases neg
      · simp only [Option.bind_some, Bool.false_eq_true, if_false]
        split <;> rfl
      · simp only [Option.bind_some, if_true]
        split <;> rfl
theorem impl_j1_stop (k : Nat) (neg : Bool) (W F : ByteArray) (pt : Bool) : length_Parse.j1 (k + 1) neg W F pt true = some (0, 3) := by simp [length_Parse.j1]
theorem impl_j1 (k : Nat) (neg : Bool) (W F : ByteArray) (pt : Bool) (h0 : W.data.toList ≠ []) (hW : W.data.toList.all isD = true) (hz : ¬ (1 < W.data.toList.length ∧ W.data.toList.head? = some 48)) (hF : F.data.toList.all isD = true) (hFl : F.data.toList.length ≤ 3) :
    length_Parse.j1 (k + 2) neg W F pt false = some (if neg = true ∧ W.data.toList = [48] ∧ pt = false then (0, 3) else fin neg W.data.toList F.data.toList) := by
  simp only [length_Parse.j1]
  rw [if_neg (by decide), Lib.toList_data]
  cases neg
  · rw [if_neg (by decide), if_neg (by simp)]
    exact impl_j2 k false W F h0 hW hz hF hFl
  · rw [if_pos rfl]
    by_cases hw : W.data.toList = [48]
    · rw [if_pos hw]
      cases pt
      · rw [if_pos ⟨rfl, hw, rfl⟩]
        exact impl_j2_stop k true W F
      · rw [if_neg (by simp)]
        exact impl_j2 k true W F h0 hW hz hF hFl
    · rw [if_neg hw, if_neg (fun h => hw h.2.1)]
      exact impl_j2 k true W F h0 hW hz hF hFl
theorem impl_j0_stop (k : Nat) (neg : Bool) (W F : ByteArray) (pt : Bool) : length_Parse.j0 (k + 1) neg W F pt true = some (0, 3) := by simp [length_Parse.j0]
/-- is what stands behind the point as it should be -/
def fracB (f : List UInt8) : Bool := !f.isEmpty && f.all isD && decide (f.length ≤ 3) && !(f.getLast? == some 48)
theorem impl_j0 (k : Nat) (neg : Bool) (W F : ByteArray) (pt : Bool) (hp : pt = false → F.data.toList = []) (h0 : W.data.toList ≠ []) (hW : W.data.toList.all isD = true) (hz : ¬ (1 < W.data.toList.length ∧ W.data.toList.head? = some 48)) :
    length_Parse.j0 (k + 3) neg W F pt false = some (if pt = true ∧ fracB F.data.toList = false then (0, 3) else if neg = true ∧ W.data.toList = [48] ∧ pt = false then (0, 3) else fin neg W.data.toList F.data.toList) := by
  simp only [length_Parse.j0]
  rw [if_neg (by decide)]
  cases pt
  · rw [if_neg (by decide), if_neg (by simp)]
    have := hp rfl
    rw [impl_j1 k neg W F false h0 hW hz (by rw [this]; rfl) (by rw [this]; simp)]
  · rw [if_pos rfl]
    have hf := size_list F
    unfold length_digits.f
    simp only [Option.bind_some, digB_eq]
    by_cases hd : (!F.data.toList.isEmpty && F.data.toList.all isD) = true
    · rw [if_pos hd]
      rw [Bool.and_eq_true] at hd
      by_cases h3 : (F.size : Int) > 3
      · rw [if_pos h3, impl_j1_stop, if_pos ⟨by trivial, by unfold fracB; rw [show decide (F.data.toList.length ≤ 3) = false from decide_eq_false (by omega)]; simp⟩]
      · have hne : F.data.toList ≠ [] := by simpa using hd.1
        have hpos := List.length_pos_iff.2 hne
        rw [if_neg h3, w64 (by omega) (by omega), if_pos (by omega), if_pos (by omega)]
        have e1 : (F.size : Int) - 1 = ((F.data.toList.length - 1 : Nat) : Int) := by omega
        rw [e1, bt_list F _ (by omega)]
        have hl : F.data.toList.getLast? = some (F.data.toList[F.data.toList.length - 1]'(by omega)) := by rw [List.getLast?_eq_getElem?, List.getElem?_eq_getElem]
        generalize hc : F.data.toList[F.data.toList.length - 1]'(by omega) = c at *
        by_cases hc : c = 48
        · subst hc
          rw [show (((48 : UInt8).toNat : Int) == 48) = true by decide, impl_j1_stop, if_pos ⟨by trivial, by unfold fracB; rw [hl]; simp⟩]
        · have hc' : ((c.toNat : Int) == 48) = false := by
            rw [beq_eq_false_iff_ne]
            intro e
            have e2 : (48 : UInt8).toNat = 48 := by decide
            exact hc (toNat_inj (by omega))
          rw [hc', impl_j1 k neg W F true h0 hW hz hd.2 (by omega)]
          have hb : fracB F.data.toList = true := by
            unfold fracB
            rw [hd.1, hd.2, hl, show decide (F.data.toList.length ≤ 3) = true from decide_eq_true (by omega)]
            simp [hc]
          rw [hb]; simp
    · rw [if_neg hd, impl_j1_stop, if_pos ⟨by trivial, by unfold fracB; rw [Bool.not_eq_true] at hd; rw [hd]; rfl⟩]
theorem fracB_iff {f : List UInt8} : fracB f = true ↔ f ≠ [] ∧ f.all isD = true ∧ f.length ≤ 3 ∧ f.getLast? ≠ some 48 := by
  unfold fracB
  simp [and_assoc]
/-- what the three cuts make of a text of the right shape -/
theorem shape_computed {s : List UInt8} {neg : Bool} {W : List UInt8} {F : Option (List UInt8)} (h : Shape s neg W F) :
    Lib.hasSuffix s [112, 116] = true ∧ Lib.hasPrefix (Lib.trimSuffix s [112, 116]) [45] = neg ∧ Lib.cut (Lib.trimPrefix (Lib.trimSuffix s [112, 116]) [45]) [46] = (W, F.getD [], F.isSome) := by
  obtain ⟨he, h0, h1, h2, h3, h4⟩ := h
  rcases suffix_cases s [112, 116] with ⟨a, ea, e1, e2⟩ | ⟨_, hno⟩
  rotate_left
  · exact absurd he (hno _)
  have ha : a = (if neg = true then [45] else []) ++ (W ++ frac F) := List.append_cancel_right (ea.symm.trans he)
  refine ⟨e1, ?_⟩
  rw [e2]
  have hcut : Lib.cut (W ++ frac F) [46] = (W, F.getD [], F.isSome) := by
    cases F with
    | none => rw [frac_none, List.append_nil, cut_miss W 46 (not_mem_46 h1)]; rfl
    | some f => rw [frac_some, cut_hit W f 46 (not_mem_46 h1)]; rfl
  obtain ⟨c, r, rfl⟩ := List.exists_cons_of_ne_nil h0
  have hc : isD c = true := by rw [List.all_cons, Bool.and_eq_true] at h1; exact h1.1
  rcases prefix_one a 45 with ⟨b, eb, e3, e4⟩ | ⟨hh, e3, e4⟩
  · cases neg with
    | true =>
      rw [if_pos rfl] at ha
      have hb : b = (c :: r) ++ frac F := by
        rw [ha] at eb
        exact (List.cons.inj (show 45 :: ((c :: r) ++ frac F) = 45 :: b from eb)).2.symm
      rw [e3, e4, hb]
      exact ⟨rfl, hcut⟩
    | false =>
      rw [if_neg (by decide), List.nil_append] at ha
      rw [ha] at eb
      have : c = 45 := (List.cons.inj eb).1
      subst this
      rw [isD_false_45] at hc
      cases hc
  · cases neg with
    | true =>
      rw [if_pos rfl] at ha
      exact absurd (by rw [ha]; rfl) hh
    | false =>
      rw [if_neg (by decide), List.nil_append] at ha
      rw [e3, e4, ha]
      exact ⟨rfl, hcut⟩
/-- what was cut is the text -/
theorem computed_text {s : List UInt8} (h : Lib.hasSuffix s [112, 116] = true) {neg : Bool} (hn : Lib.hasPrefix (Lib.trimSuffix s [112, 116]) [45] = neg) {W F : List UInt8} {pt : Bool}
    (hc : Lib.cut (Lib.trimPrefix (Lib.trimSuffix s [112, 116]) [45]) [46] = (W, F, pt)) :
    s = (if neg = true then [45] else []) ++ (W ++ frac (if pt = true then some F else none)) ++ [112, 116] ∧ (pt = false → F = []) := by
  rcases suffix_cases s [112, 116] with ⟨a, ea, e1, e2⟩ | ⟨e1, _⟩
  rotate_left
  · rw [h] at e1; cases e1
  rw [e2] at hn hc
  have key : ∀ b, Lib.cut b [46] = (W, F, pt) → b = W ++ frac (if pt = true then some F else none) ∧ (pt = false → F = []) := fun b hb => by
    rcases cut_cases b 46 with ⟨x, y, _, e, e5⟩ | ⟨_, e5⟩
    · rw [hb] at e5
      simp only [Prod.mk.injEq] at e5
      obtain ⟨rfl, rfl, rfl⟩ := e5
      exact ⟨e, fun h => by cases h⟩
    · rw [hb] at e5
      simp only [Prod.mk.injEq] at e5
      obtain ⟨rfl, rfl, rfl⟩ := e5
      exact ⟨by simp [frac], fun _ => rfl⟩
  rcases prefix_one a 45 with ⟨b, eb, e3, e4⟩ | ⟨_, e3, e4⟩
  · rw [e3] at hn
    rw [e4] at hc
    subst hn
    obtain ⟨k1, k2⟩ := key b hc
    exact ⟨by rw [ea, eb, if_pos rfl, ← k1]; rfl, k2⟩
  · rw [e3] at hn
    rw [e4] at hc
    subst hn
    obtain ⟨k1, k2⟩ := key a hc
    exact ⟨by rw [ea, if_neg (by decide), ← k1]; rfl, k2⟩
/-- the program's Parse, in terms of the cuts -/
theorem impl_value (s : ByteArray) (hs : s.size ≤ 1000) (k : Nat) (ok neg : Bool) (W F : List UInt8) (pt : Bool) (h1 : Lib.hasSuffix s.data.toList [112, 116] = ok) (h2 : Lib.hasPrefix (Lib.trimSuffix s.data.toList [112, 116]) [45] = neg)
    (h3 : Lib.cut (Lib.trimPrefix (Lib.trimSuffix s.data.toList [112, 116]) [45]) [46] = (W, F, pt)) (hp : pt = false → F = []) :
    length_Parse.f (k + 3) s = some (if ok = true ∧ W ≠ [] ∧ W.all isD = true ∧ ¬ (1 < W.length ∧ W.head? = some 48) then (if pt = true ∧ fracB F = false then (0, 3) else if neg = true ∧ W = [48] ∧ pt = false then (0, 3) else fin neg W F) else (0, 3)) := by
  have hs' := size_list s
  have l1 := Lib.trimSuffix_le s.data.toList [112, 116]
  have l2 := Lib.trimPrefix_le (Lib.trimSuffix s.data.toList [112, 116]) [45]
  unfold length_Parse.f strings_CutSuffix.f strings_CutPrefix.f strings_Cut.f length_digits.f
  rw [if_pos (by omega)]
  simp only [Option.bind_some]
  simp only [h1, h2, h3]
  rw [if_pos (by rw [size_list]; simp only []; omega)]
  simp only [Option.bind_some, digB_eq]
  cases ok
  · rw [if_neg (by decide), impl_j0_stop, if_neg (by simp)]
  · rw [if_pos rfl]
    by_cases hd : (!W.isEmpty && W.all isD) = true
    · rw [if_pos hd]
      rw [Bool.and_eq_true] at hd
      have h0 : W ≠ [] := by simpa using hd.1
      have hw : ((⟨W.toArray⟩ : ByteArray).size : Int) = (W.length : Int) := by rw [size_list]
      have done : ∀ b : Bool, (b = true ↔ (1 < W.length ∧ W.head? = some 48)) → length_Parse.j0 (k + 3) neg ⟨W.toArray⟩ ⟨F.toArray⟩ pt b = some (if true = true ∧ W ≠ [] ∧ W.all isD = true ∧ ¬ (1 < W.length ∧ W.head? = some 48) then (if pt = true ∧ fracB F = false then (0, 3) else if neg = true ∧ W = [48] ∧ pt = false then (0, 3) else fin neg W F) else (0, 3)) := fun b hb => by
        cases b
        · have hz : ¬ (1 < W.length ∧ W.head? = some 48) := fun h => by have := hb.2 h; cases this
          rw [impl_j0 k neg ⟨W.toArray⟩ ⟨F.toArray⟩ pt hp h0 hd.2 hz]
          exact congrArg some (if_pos ⟨rfl, h0, hd.2, hz⟩).symm
        · rw [impl_j0_stop, if_neg (fun h => h.2.2.2 (hb.1 rfl))]
      rw [hw]
      split
      · rename_i h
        rw [if_pos (by omega)]
        apply done
        have := bt_list ⟨W.toArray⟩ 0 (by simp; omega)
        rw [show ((0 : Nat) : Int) = 0 from rfl] at this
        rw [this]
        obtain ⟨c, r, rfl⟩ := List.exists_cons_of_ne_nil h0
        simp only [List.getElem_cons_zero, List.head?_cons, Option.some.injEq, beq_iff_eq]
        have e48 : (48 : UInt8).toNat = 48 := by decide
        constructor
        · intro e
          exact ⟨by omega, toNat_inj (by omega)⟩
        · rintro ⟨_, rfl⟩
          rfl
      · rename_i h
        exact done false ⟨(fun h => by cases h), fun hh => absurd hh.1 (by omega)⟩
    · rw [if_neg hd, impl_j0_stop, if_neg ?_]
      rintro ⟨_, h0, hall, _⟩
      apply hd
      rw [hall]
      simpa using h0
theorem impl_shape (s : ByteArray) (hs : s.size ≤ 1000) (k : Nat) {neg : Bool} {W : List UInt8} {F : Option (List UInt8)} (h : Shape s.data.toList neg W F) : length_Parse.f (k + 3) s = some (fin neg W (F.getD [])) := by
  obtain ⟨c1, c2, c3⟩ := shape_computed h
  rw [impl_value s hs k true neg W (F.getD []) F.isSome c1 c2 c3 (fun e => by cases F with
    | none => rfl
    | some f => cases e), if_pos ⟨rfl, h.w0, h.w1, h.w2⟩, if_neg ?_, if_neg ?_]
  · rintro ⟨e1, e2, e3⟩
    exact h.z ⟨e1, e2, by simpa using e3⟩
  · rintro ⟨e1, e2⟩
    cases F with
    | none => cases e1
    | some f =>
      have := fracB_iff.2 (h.f1 f rfl)
      rw [show (some f).getD [] = f from rfl, this] at e2
      cases e2
theorem impl_other (s : ByteArray) (hs : s.size ≤ 1000) (k : Nat) (h : ∀ neg W F, ¬ Shape s.data.toList neg W F) : length_Parse.f (k + 3) s = some (0, 3) := by
  generalize h1 : Lib.hasSuffix s.data.toList [112, 116] = ok
  generalize h2 : Lib.hasPrefix (Lib.trimSuffix s.data.toList [112, 116]) [45] = neg
  obtain ⟨W, F, pt, h3⟩ : ∃ W F pt, Lib.cut (Lib.trimPrefix (Lib.trimSuffix s.data.toList [112, 116]) [45]) [46] = (W, F, pt) := ⟨_, _, _, rfl⟩
  have hp : pt = false → F = [] := fun e => by
    rcases cut_cases (Lib.trimPrefix (Lib.trimSuffix s.data.toList [112, 116]) [45]) 46 with ⟨x, y, _, _, e5⟩ | ⟨_, e5⟩
    · rw [h3] at e5
      simp only [Prod.mk.injEq] at e5
      rw [e5.2.2] at e; cases e
    · rw [h3] at e5
      simp only [Prod.mk.injEq] at e5
      exact e5.2.1
  rw [impl_value s hs k ok neg W F pt h1 h2 h3 hp]
  split
  · rename_i hc
    obtain ⟨rfl, w0, w1, w2⟩ := hc
    split
    · rfl
    · rename_i hf
      split
      · rfl
      · rename_i hz
        refine absurd ?_ (h neg W (if pt = true then some F else none))
        refine ⟨(computed_text h1 h2 h3).1, w0, w1, w2, fun f hf' => ?_, fun hz' => hz ⟨hz'.1, hz'.2.1, ?_⟩⟩
        · cases pt
          · cases hf'
          · obtain rfl : F = f := Option.some.inj hf'
            apply fracB_iff.1
            cases hb : fracB F
            · exact absurd ⟨rfl, hb⟩ hf
            · rfl
        · cases pt
          · rfl
          · have := hz'.2.2
            cases this
  · rfl
end Go.Proofs.YtignpfhlagfijaaDoor.Pure
