/-
  Plain facts on the reference's Parse of lengths: what it does at a text of the right shape, and that it takes no other.
-/
import Derived.Test.YtignpfhlagfijaaDoorPureShape
namespace Go.Proofs.YtignpfhlagfijaaDoor.Pure
open Go.RowKit Go.Proofs.YtignpfhlagfijaaDoorW.PrintWords Go.Proofs.YtignpfhlagfijaaDoorW.PrintLast Go.Proofs.YtignpfhlagfijaaDoorW.PrintMore Go.Proofs.YtignpfhlagfijaaDoor.Gv Go.Proofs.YtignpfhlagfijaaDoor.X Go.Proofs.YtignpfhlagfijaaDoor.Dec

theorem run_from (s : ByteArray) (hs : s.size ≤ 100000) (d : Nat) : ∀ (k i : Nat), i + d = s.size → d < k → vinculumref01_run.l0 k s (i : Int) = some ((i + ((s.data.toList.drop i).takeWhile isD).length : Nat) : Int) := by
  have hl := size_list s
  induction d with
  | zero =>
    intro k i h hk
    obtain ⟨k, rfl⟩ : ∃ m, k = m + 1 := ⟨k - 1, by omega⟩
    simp only [vinculumref01_run.l0]
    rw [if_neg (by omega), List.drop_eq_nil_of_le (by omega)]
    simp
  | succ d ih =>
    intro k i h hk
    obtain ⟨k, rfl⟩ : ∃ m, k = m + 1 := ⟨k - 1, by omega⟩
    have hi : i < s.data.toList.length := by omega
    simp only [vinculumref01_run.l0]
    rw [if_pos (by omega), if_pos (by omega), bt_list s i hi, List.drop_eq_getElem_cons hi]
    generalize hc : s.data.toList[i] = c
    by_cases hd : isD c = true
    · have h2 := isD_iff.1 hd
      rw [if_pos (by omega), if_pos (by omega), w64 (x := (i : Int) + 1) (by omega) (by omega), List.takeWhile_cons_of_pos hd]
      have := ih k (i + 1) (by omega) (by omega)
      rw [show ((i : Int) + 1) = ((i + 1 : Nat) : Int) by omega, this]
      simp only [List.length_cons]
      congr 2; omega
    · have h2 : ¬ (48 ≤ c.toNat ∧ c.toNat ≤ 57) := fun h => hd (isD_iff.2 h)
      rw [List.takeWhile_cons_of_neg hd]
      simp only [List.length_nil, Nat.add_zero]
      split
      · rw [if_neg (by omega)]
      · rfl
theorem run_eq (s : ByteArray) (hs : s.size ≤ 100000) (k : Nat) (hk : s.size < k) : vinculumref01_run.f k s = some (((s.data.toList.takeWhile isD).length : Nat) : Int) := by
  have := run_from s hs s.size k 0 (by omega) hk
  unfold vinculumref01_run.f
  rw [show (0 : Int) = ((0 : Nat) : Int) from rfl, this]
  simp
theorem while_app (W : List UInt8) (x : UInt8) (r : List UInt8) (hW : W.all isD = true) (hx : isD x = false) : (W ++ x :: r).takeWhile isD = W ∧ (W ++ x :: r).dropWhile isD = x :: r := by
  induction W with
  | nil => simp [hx]
  | cons c W ih =>
    rw [List.all_cons, Bool.and_eq_true] at hW
    obtain ⟨h1, h2⟩ := ih hW.2
    rw [List.cons_append, List.takeWhile_cons_of_pos hW.1, List.dropWhile_cons_of_pos hW.1, h1, h2]
    exact ⟨rfl, rfl⟩
theorem take_while (l : List UInt8) : l.take (l.takeWhile isD).length = l.takeWhile isD ∧ l.drop (l.takeWhile isD).length = l.dropWhile isD := by
  have h := List.takeWhile_append_dropWhile (p := isD) (l := l)
  constructor
  · exact (congrArg (List.take _) h.symm).trans (List.take_left ..)
  · exact (congrArg (List.drop _) h.symm).trans (List.drop_left ..)
theorem all_while (l : List UInt8) : (l.takeWhile isD).all isD = true := by
  induction l with
  | nil => rfl
  | cons c r ih =>
    by_cases h : isD c = true
    · rw [List.takeWhile_cons_of_pos h, List.all_cons, h, ih]; rfl
    · rw [List.takeWhile_cons_of_neg h]; rfl

/-! ### the number -/
theorem ref_l0 (neg : Bool) (s : ByteArray) (hd : s.data.toList.all isD = true) (hs : s.size ≤ 11) (d : Nat) : ∀ (k i : Nat), i + d = s.size → d < k →
    vinculumref01_Parse.l0 k neg ((val 0 (s.data.toList.take i) : Nat) : Int) s (i : Int) = some (if isL (if neg = true then -((val 0 s.data.toList : Nat) : Int) else ((val 0 s.data.toList : Nat) : Int)) = true then ((if neg = true then -((val 0 s.data.toList : Nat) : Int) else ((val 0 s.data.toList : Nat) : Int)), 0) else (0, 2)) := by
  have hl := size_list s
  have small : ∀ l : List UInt8, l.all isD = true → l.length ≤ 11 → val 0 l < 100000000000 := fun l h1 h2 => by
    have := (val_bd l h1 0).2
    have hp : 10 ^ l.length ≤ 10 ^ 11 := Nat.pow_le_pow_right (by decide) h2
    have e : (10 : Nat) ^ 11 = 100000000000 := by decide
    omega
  induction d with
  | zero =>
    intro k i h hk
    obtain ⟨k, rfl⟩ : ∃ m, k = m + 1 := ⟨k - 1, by omega⟩
    have hv := small _ hd (by omega)
    simp only [vinculumref01_Parse.l0]
    rw [if_neg (by omega), List.take_of_length_le (by omega), w64 (by omega) (by omega), ref_valid, ref_valid]
    cases neg
    · simp only [Option.bind_some, Bool.false_eq_true, if_false]
      split <;> rfl
    · simp only [Option.bind_some, if_true]
      split <;> rfl
  | succ d ih =>
    intro k i h hk
    obtain ⟨k, rfl⟩ : ∃ m, k = m + 1 := ⟨k - 1, by omega⟩
    have hi : i < s.data.toList.length := by omega
    have hc := isD_iff.1 (List.all_eq_true.1 hd _ (List.getElem_mem hi))
    have e1 : val 0 (s.data.toList.take (i + 1)) = 10 * val 0 (s.data.toList.take i) + ((s.data.toList[i]).toNat - 48) := by
      rw [List.take_succ_eq_append_getElem hi, val_append, val_cons, val_nil]
    have h1 : (s.data.toList.take i).all isD = true := by
      rw [List.all_eq_true]
      intro c hm
      exact List.all_eq_true.1 hd _ (List.mem_of_mem_take hm)
    have hv := small _ h1 (by simp; omega)
    have := ih k (i + 1) (by omega) (by omega)
    simp only [vinculumref01_Parse.l0]
    rw [if_pos (by omega), if_pos (by omega), bt_list s i hi]
    generalize s.data.toList[i] = c at *
    rw [w64 (x := 10 * _) (by omega) (by omega), show (((c.toNat : Int) - 48) % 256) = ((c.toNat - 48 : Nat) : Int) by omega, w64 (x := (10 * ((val 0 (List.take i s.data.toList) : Nat) : Int) + ((c.toNat - 48 : Nat) : Int))) (by omega) (by omega), w64 (x := (i : Int) + 1) (by omega) (by omega), show (10 * ((val 0 (List.take i s.data.toList) : Nat) : Int) + ((c.toNat - 48 : Nat) : Int)) = ((10 * val 0 (List.take i s.data.toList) + (c.toNat - 48) : Nat) : Int) by omega, ← e1, show ((i : Int) + 1) = ((i + 1 : Nat) : Int) by omega]
    exact this
theorem ref_j5_stop (k : Nat) (neg : Bool) (W F : ByteArray) : vinculumref01_Parse.j5 (k + 1) neg W F true = some (0, 3) := by simp [vinculumref01_Parse.j5]
theorem ref_j5 (k : Nat) (hk : 12 ≤ k) (neg : Bool) (W F : ByteArray) (hW : W.data.toList.all isD = true) (hF : F.data.toList.all isD = true) (hFs : F.size ≤ 1000) :
    vinculumref01_Parse.j5 (k + 1) neg W F false = some (fin neg W.data.toList F.data.toList) := by
  simp only [vinculumref01_Parse.j5]
  rw [if_neg (by decide)]
  have hs := size_list W
  have hf := size_list F
  unfold fin
  by_cases h7 : (W.size : Int) > 7
  · rw [if_pos h7, if_pos (by omega)]
  · have hx : (F ++ (⟨#[48, 48, 48]⟩ : ByteArray)).size = F.size + 3 := by rw [ByteArray.size_append]; rfl
    have hd : ((F ++ (⟨#[48, 48, 48]⟩ : ByteArray)).extract 0 3).data.toList = (F.data.toList ++ [48, 48, 48]).take 3 := by
      rw [Lib.extract_data, ByteArray.data_append, Array.toList_append]; rfl
    have hall : (W ++ ((F ++ (⟨#[48, 48, 48]⟩ : ByteArray)).extract 0 3)).data.toList = W.data.toList ++ (F.data.toList ++ [48, 48, 48]).take 3 := by
      rw [ByteArray.data_append, Array.toList_append, hd]
    obtain ⟨t1, t2⟩ := thousandths W.data.toList F.data.toList hF
    rw [if_neg h7, if_pos (by omega), if_pos (by omega), if_pos (by rw [hx]; omega), if_pos (by rw [size_list ((F ++ _).extract 0 3), hd]; simp; omega), if_neg (by omega)]
    have := ref_l0 neg (W ++ ((F ++ (⟨#[48, 48, 48]⟩ : ByteArray)).extract 0 3)) (by rw [hall]; exact t2 hW) (by rw [size_list, hall, t1]; omega) (W ++ ((F ++ (⟨#[48, 48, 48]⟩ : ByteArray)).extract 0 3)).size k 0 (by omega) (by rw [size_list, hall, t1]; omega)
    rw [List.take_zero, val_nil, hall] at this
    exact this
/-- behind the whole part and the fraction -/
theorem ref_j4 (k : Nat) (hk : 12 ≤ k) (neg : Bool) (W R F : ByteArray) (hW : W.data.toList.all isD = true) (hF : F.data.toList.all isD = true) (hFs : F.size ≤ 1000) :
    vinculumref01_Parse.j4 (k + 2) neg W R F = some (if R.data.toList = [112, 116] then (if neg = true ∧ W.data.toList = [48] ∧ F.data.toList = [] then (0, 3) else fin neg W.data.toList F.data.toList) else (0, 3)) := by
  simp only [vinculumref01_Parse.j4]
  rw [Lib.toList_data, Lib.toList_data, Lib.toList_data]
  by_cases hr : R.data.toList = [112, 116]
  · rw [if_pos hr, if_pos hr]
    cases neg
    · rw [if_neg (by decide), if_neg (by simp)]
      exact ref_j5 k hk false W F hW hF hFs
    · rw [if_pos rfl]
      by_cases hw : W.data.toList = [48]
      · rw [if_pos hw]
        by_cases hf : F.data.toList = []
        · rw [if_pos ⟨rfl, hw, hf⟩, hf]
          exact ref_j5_stop k true W F
        · rw [if_neg (fun h => hf h.2.2), show (F.data.toList == []) = false by simpa using hf]
          exact ref_j5 k hk true W F hW hF hFs
      · rw [if_neg hw, if_neg (fun h => hw h.2.1)]
        exact ref_j5 k hk true W F hW hF hFs
  · rw [if_neg hr, if_neg hr]
    exact ref_j5_stop k neg W F

/-- from the fraction on -/
theorem ref_j3 (k : Nat) (hk : 1100 ≤ k) (neg : Bool) (W R : ByteArray) (hW : W.data.toList.all isD = true) (hR : R.size ≤ 1000) (hb : R.data.toList.head? = some 46) :
    vinculumref01_Parse.j3 (k + 3) neg W R ⟨#[]⟩ true = some (if fracB (R.data.toList.tail.takeWhile isD) = true then (if R.data.toList.tail.dropWhile isD = [112, 116] then fin neg W.data.toList (R.data.toList.tail.takeWhile isD) else (0, 3)) else (0, 3)) := by
  simp only [vinculumref01_Parse.j3]
  have hr := size_list R
  obtain ⟨c, r, hcr⟩ : ∃ c r, R.data.toList = c :: r := by
    cases h : R.data.toList with
    | nil => rw [h] at hb; cases hb
    | cons c r => exact ⟨c, r, rfl⟩
  have hlen : R.size = r.length + 1 := by rw [hr, hcr]; rfl
  have h1 : (R.extract 1 R.size).data.toList = r := by
    rw [Lib.extract_data, hcr, List.drop_succ_cons, List.drop_zero, List.take_of_length_le (by omega)]
  have hx1 : (R.extract 1 R.size).size = r.length := by rw [size_list, h1]
  have hrun := run_eq (R.extract 1 R.size) (by omega) (k + 2) (by omega)
  rw [h1] at hrun
  rw [if_pos trivial, if_pos (by omega), hrun, Option.bind_some]
  obtain ⟨e1, e2⟩ := take_while r
  have hall := all_while r
  have hle : (r.takeWhile isD).length ≤ r.length := List.Sublist.length_le (List.takeWhile_sublist _)
  rw [hcr, List.tail_cons]
  generalize hG : r.takeWhile isD = G at *
  rw [w64 (x := 1 + (G.length : Int)) (by omega) (by omega), if_pos (by omega), if_pos (by omega), if_pos (by omega)]
  have hG1 : (R.extract 1 ((1 + (G.length : Int)) : Int).toNat).data.toList = G := by
    rw [Lib.extract_data, hcr, List.drop_succ_cons, List.drop_zero, show (1 + (G.length : Int)).toNat - 1 = G.length by omega, e1]
  have hR1 : (R.extract ((1 + (G.length : Int)) : Int).toNat R.size).data.toList = r.dropWhile isD := by
    rw [Lib.extract_data, hcr, show (1 + (G.length : Int)).toNat = G.length + 1 by omega, List.drop_succ_cons, e2, List.take_of_length_le]
    have := List.Sublist.length_le (List.dropWhile_sublist isD (l := r))
    rw [← e2, List.length_drop]
    omega
  have j4 := ref_j4 (k) (by omega) neg W (R.extract ((1 + (G.length : Int)) : Int).toNat R.size) (R.extract 1 ((1 + (G.length : Int)) : Int).toNat) hW (by rw [hG1]; exact hall) (by rw [size_list, hG1]; omega)
  rw [hR1, hG1] at j4
  split
  · rename_i h0
    have : fracB G = false := by
      unfold fracB
      rw [show G = [] from List.eq_nil_of_length_eq_zero (by omega)]
      rfl
    rw [this, if_neg (by decide)]
  · split
    · rename_i h3
      have : fracB G = false := by
        unfold fracB
        rw [show decide (G.length ≤ 3) = false from decide_eq_false (by omega)]
        simp
      rw [this, if_neg (by decide)]
    · rename_i h0 h3
      have hne : G ≠ [] := fun e => by rw [e] at h0; exact h0 (by decide)
      rw [w64 (x := (G.length : Int) - 1) (by omega) (by omega), if_pos (by omega), if_pos (by rw [size_list, hG1]; omega)]
      have hb2 := bt_list (R.extract 1 ((1 + (G.length : Int)) : Int).toNat) (G.length - 1) (by rw [hG1]; omega)
      rw [show (G.length : Int) - 1 = ((G.length - 1 : Nat) : Int) by omega, hb2]
      simp only [hG1]
      have hl : G.getLast? = some (G[G.length - 1]'(by omega)) := by rw [List.getLast?_eq_getElem?, List.getElem?_eq_getElem]
      generalize G[G.length - 1]'(by omega) = x at *
      have e48 : (48 : UInt8).toNat = 48 := by decide
      split
      · rename_i hx
        have : x = 48 := toNat_inj (by omega)
        subst this
        have : fracB G = false := by unfold fracB; rw [hl]; simp
        rw [this, if_neg (by decide)]
      · rename_i hx
        have hx' : x ≠ 48 := fun e => hx (by rw [e]; rfl)
        have : fracB G = true := fracB_iff.2 ⟨hne, hall, by omega, by rw [hl]; simpa using hx'⟩
        rw [this, if_pos rfl, j4]
        congr 1
        split
        · rw [if_neg (fun h => hne h.2.2)]
        · rfl
theorem ref_j3_none (k : Nat) (hk : 1100 ≤ k) (neg : Bool) (W R : ByteArray) (hW : W.data.toList.all isD = true) :
    vinculumref01_Parse.j3 (k + 3) neg W R ⟨#[]⟩ false = some (if R.data.toList = [112, 116] then (if neg = true ∧ W.data.toList = [48] then (0, 3) else fin neg W.data.toList []) else (0, 3)) := by
  simp only [vinculumref01_Parse.j3]
  rw [if_neg (by decide)]
  have := ref_j4 k (by omega) neg W R ⟨#[]⟩ hW rfl (by decide)
  rw [this]
  congr 1
  split
  · by_cases h : neg = true ∧ W.data.toList = [48]
    · rw [if_pos ⟨h.1, h.2, rfl⟩, if_pos h]
    · rw [if_neg (fun h' => h ⟨h'.1, h'.2.1⟩), if_neg h]
  · rfl
/-- behind the sign -/
def tailV (neg : Bool) (l : List UInt8) : Int × Int :=
  if l.takeWhile isD ≠ [] ∧ ¬ (1 < (l.takeWhile isD).length ∧ (l.takeWhile isD).head? = some 48) then
    (if (l.dropWhile isD).head? = some 46 then
      (if fracB ((l.dropWhile isD).tail.takeWhile isD) = true then (if (l.dropWhile isD).tail.dropWhile isD = [112, 116] then fin neg (l.takeWhile isD) ((l.dropWhile isD).tail.takeWhile isD) else (0, 3)) else (0, 3))
    else (if l.dropWhile isD = [112, 116] then (if neg = true ∧ l.takeWhile isD = [48] then (0, 3) else fin neg (l.takeWhile isD) []) else (0, 3)))
  else (0, 3)
theorem ref_j2_stop (k : Nat) (s : ByteArray) (neg : Bool) (t : Int) : vinculumref01_Parse.j2 (k + 1) s neg t true = some (0, 3) := by simp [vinculumref01_Parse.j2]
theorem ref_j1 (k : Nat) (hk : 1100 ≤ k) (neg : Bool) (s : ByteArray) (hs : s.size ≤ 1000) : vinculumref01_Parse.j1 (k + 5) s neg = some (tailV neg s.data.toList) := by
  simp only [vinculumref01_Parse.j1]
  rw [run_eq s (by omega) _ (by omega)]
  simp only [Option.bind_some]
  have hl := size_list s
  obtain ⟨e1, e2⟩ := take_while s.data.toList
  have hall := all_while s.data.toList
  have hle : (s.data.toList.takeWhile isD).length ≤ s.data.toList.length := List.Sublist.length_le (List.takeWhile_sublist _)
  unfold tailV
  generalize hW : s.data.toList.takeWhile isD = W at *
  generalize hD : s.data.toList.dropWhile isD = D at *
  have h48 : (48 : UInt8).toNat = 48 := by decide
  split
  · rename_i h0
    rw [ref_j2_stop, if_neg (fun h => h.1 (List.eq_nil_of_length_eq_zero (by omega)))]
  · rename_i h0
    have hne : W ≠ [] := fun e => by rw [e] at h0; exact h0 rfl
    have step : ¬ (1 < W.length ∧ W.head? = some 48) → vinculumref01_Parse.j2 (k + 4) s neg (W.length : Int) false = some (if D.head? = some 46 then
      (if fracB (D.tail.takeWhile isD) = true then (if D.tail.dropWhile isD = [112, 116] then fin neg W (D.tail.takeWhile isD) else (0, 3)) else (0, 3))
    else (if D = [112, 116] then (if neg = true ∧ W = [48] then (0, 3) else fin neg W []) else (0, 3))) := fun hz => by
      have x1 : (s.extract 0 (W.length : Int).toNat).data.toList = W := by rw [Lib.extract_data, List.drop_zero, show (W.length : Int).toNat - 0 = W.length by omega, e1]
      have x2 : (s.extract (W.length : Int).toNat s.size).data.toList = D := by
        rw [Lib.extract_data, show (W.length : Int).toNat = W.length by omega, e2, List.take_of_length_le]
        rw [← e2, List.length_drop]
        omega
      have sD : (s.extract (W.length : Int).toNat s.size).size = D.length := by rw [size_list, x2]
      have dl : D.length ≤ 1000 := by rw [← e2, List.length_drop]; omega
      simp only [vinculumref01_Parse.j2]
      rw [if_neg (by decide), if_pos (by omega), if_pos (by omega), sD]
      split
      · rename_i hp
        obtain ⟨c, r, hcr⟩ := List.exists_cons_of_ne_nil (show D ≠ [] from fun e => by rw [e] at hp; exact absurd hp (by decide))
        have hb := bt_list (s.extract (W.length : Int).toNat s.size) 0 (by rw [x2]; omega)
        rw [show ((0 : Nat) : Int) = 0 from rfl] at hb
        simp only [x2, hcr, List.getElem_cons_zero] at hb
        have e46 : (46 : UInt8).toNat = 46 := by decide
        rw [hb]
        by_cases hc : c = 46
        · subst hc
          have := ref_j3 k hk neg (s.extract 0 (W.length : Int).toNat) (s.extract (W.length : Int).toNat s.size) (by rw [x1]; exact hall) (by omega) (by rw [x2, hcr]; rfl)
          rw [x1, x2] at this
          rw [show (((46 : UInt8).toNat : Int) == 46) = true by decide, this]
          exact congrArg some (if_pos (by rw [hcr]; rfl)).symm
        · have : ((c.toNat : Int) == 46) = false := by
            rw [beq_eq_false_iff_ne]
            intro e
            exact hc (toNat_inj (by omega))
          have j3 := ref_j3_none k hk neg (s.extract 0 (W.length : Int).toNat) (s.extract (W.length : Int).toNat s.size) (by rw [x1]; exact hall)
          rw [x1, x2] at j3
          rw [this, j3]
          exact congrArg some (if_neg (by rw [hcr]; simpa using hc)).symm
      · rename_i hp
        have hD0 : D = [] := List.eq_nil_of_length_eq_zero (by omega)
        have j3 := ref_j3_none k hk neg (s.extract 0 (W.length : Int).toNat) (s.extract (W.length : Int).toNat s.size) (by rw [x1]; exact hall)
        rw [x1, x2] at j3
        rw [j3, hD0]
        rfl
    split
    · rename_i h1
      have hpos : 0 < s.data.toList.length := by omega
      rw [if_pos (by omega)]
      have hb := bt_list s 0 hpos
      rw [show ((0 : Nat) : Int) = 0 from rfl] at hb
      obtain ⟨c, r, hcr⟩ := List.exists_cons_of_ne_nil hne
      have hh : s.data.toList[0] = c := by
        have := congrArg (·.head?) e1
        rw [hcr, List.head?_take, if_neg (by simp), List.head?_cons, List.head?_eq_getElem?, List.getElem?_eq_getElem hpos] at this
        exact Option.some.inj this
      rw [hb, hh]
      by_cases hc : c = 48
      · subst hc
        rw [show (((48 : UInt8).toNat : Int) == 48) = true by decide, ref_j2_stop, if_neg (fun h => h.2 ⟨by omega, by rw [hcr]; rfl⟩)]
      · have : ((c.toNat : Int) == 48) = false := by
          rw [beq_eq_false_iff_ne]
          intro e
          exact hc (toNat_inj (by omega))
        have hz : ¬ (1 < W.length ∧ W.head? = some 48) := fun h => hc (by have := h.2; rw [hcr] at this; exact Option.some.inj this)
        rw [this, step hz]
        exact congrArg some (if_pos ⟨hne, hz⟩).symm
    · rename_i h1
      have hz : ¬ (1 < W.length ∧ W.head? = some 48) := fun h => by omega
      rw [step hz]
      exact congrArg some (if_pos ⟨hne, hz⟩).symm
/-- the reference's Parse -/
def refV (l : List UInt8) : Int × Int := if l.head? = some 45 then tailV true l.tail else tailV false l
theorem ref_value (s : ByteArray) (hs : s.size ≤ 1000) (k : Nat) (hk : 1100 ≤ k) : vinculumref01_Parse.f (k + 6) s = some (refV s.data.toList) := by
  have hl := size_list s
  unfold vinculumref01_Parse.f refV
  have plain : vinculumref01_Parse.j0 (k + 6) s false = some (tailV false s.data.toList) := by
    simp only [vinculumref01_Parse.j0]
    rw [if_neg (by decide)]
    exact ref_j1 k hk false s hs
  split
  · rename_i hp
    obtain ⟨c, r, hcr⟩ := List.exists_cons_of_ne_nil (show s.data.toList ≠ [] from fun e => by rw [e] at hl; rw [hl] at hp; exact absurd hp (by decide))
    have hb := bt_list s 0 (by omega)
    rw [show ((0 : Nat) : Int) = 0 from rfl] at hb
    simp only [hcr, List.getElem_cons_zero] at hb
    have e45 : (45 : UInt8).toNat = 45 := by decide
    rw [hb]
    by_cases hc : c = 45
    · subst hc
      have hx : (s.extract 1 s.size).data.toList = r := by rw [Lib.extract_data, hcr, List.drop_succ_cons, List.drop_zero, List.take_of_length_le (by rw [hl, hcr]; simp)]
      rw [show (((45 : UInt8).toNat : Int) == 45) = true by decide]
      simp only [vinculumref01_Parse.j0]
      rw [if_pos trivial, if_pos (by omega), ref_j1 k hk true (s.extract 1 s.size) (by rw [size_list, hx]; rw [hl, hcr] at hs; simp at hs; omega), hx, if_pos (by rw [hcr]; rfl), hcr]
      rfl
    · have : ((c.toNat : Int) == 45) = false := by
        rw [beq_eq_false_iff_ne]
        intro e
        exact hc (toNat_inj (by omega))
      rw [this, plain, if_neg (by rw [hcr]; simpa using hc)]
  · rename_i hp
    rw [plain, if_neg (by rw [List.eq_nil_of_length_eq_zero (show s.data.toList.length = 0 by omega)]; simp)]
theorem ref_shape {l : List UInt8} {neg : Bool} {W : List UInt8} {F : Option (List UInt8)} (h : Shape l neg W F) : refV l = fin neg W (F.getD []) := by
  obtain ⟨he, h0, h1, h2, h3, h4⟩ := h
  have d112 : isD 112 = false := by decide
  have tv : tailV neg (W ++ frac F ++ [112, 116]) = fin neg W (F.getD []) := by
    unfold tailV
    cases F with
    | none =>
      rw [frac_none, List.append_nil]
      obtain ⟨e1, e2⟩ := while_app W 112 [116] h1 d112
      rw [e1, e2, if_pos ⟨h0, h2⟩, if_neg (by decide), if_pos rfl, if_neg (fun h => h4 ⟨h.1, h.2, rfl⟩)]
      rfl
    | some f =>
      rw [frac_some, List.append_assoc]
      obtain ⟨f0, f1, f2, f3⟩ := h3 f rfl
      obtain ⟨e1, e2⟩ := while_app W 46 (f ++ [112, 116]) h1 isD_false_46
      obtain ⟨e3, e4⟩ := while_app f 112 [116] f1 d112
      rw [show W ++ (46 :: f ++ [112, 116]) = W ++ 46 :: (f ++ [112, 116]) from rfl, e1, e2, if_pos ⟨h0, h2⟩, if_pos (show (46 :: (f ++ [112, 116])).head? = some 46 from rfl), List.tail_cons, e3, e4, fracB_iff.2 ⟨f0, f1, f2, f3⟩, if_pos rfl, if_pos rfl]
      rfl
  unfold refV
  rw [he]
  obtain ⟨c, r, hcr⟩ := List.exists_cons_of_ne_nil h0
  cases neg
  · rw [if_neg (show ¬ false = true by decide), List.nil_append, if_neg ?_]
    · exact tv
    · rw [hcr]
      intro e
      have : c = 45 := Option.some.inj e
      rw [hcr, List.all_cons, Bool.and_eq_true, this, isD_false_45] at h1
      cases h1.1
  · rw [if_pos rfl, if_pos (by rfl)]
    exact tv
theorem tailV_other (neg : Bool) (l : List UInt8) (h : ∀ W F, ¬ (l = W ++ frac F ++ [112, 116] ∧ W ≠ [] ∧ W.all isD = true ∧ ¬ (1 < W.length ∧ W.head? = some 48) ∧ (∀ f, F = some f → f ≠ [] ∧ f.all isD = true ∧ f.length ≤ 3 ∧ f.getLast? ≠ some 48) ∧ ¬ (neg = true ∧ W = [48] ∧ F = none))) : tailV neg l = (0, 3) := by
  unfold tailV
  have ht := List.takeWhile_append_dropWhile (p := isD) (l := l)
  have hall := all_while l
  generalize l.takeWhile isD = W at *
  generalize l.dropWhile isD = D at *
  split
  · rename_i hw
    split
    · rename_i h46
      split
      · rename_i hf
        split
        · rename_i he
          obtain ⟨d, r, hd⟩ : ∃ d r, D = d :: r := by
            cases D with
            | nil => cases h46
            | cons d r => exact ⟨d, r, rfl⟩
          subst hd
          obtain rfl : d = 46 := Option.some.inj h46
          rw [List.tail_cons] at hf he
          have hr := List.takeWhile_append_dropWhile (p := isD) (l := r)
          refine absurd ?_ (h W (some (r.takeWhile isD)))
          refine ⟨?_, hw.1, hall, hw.2, fun f e => by obtain rfl := Option.some.inj e; exact fracB_iff.1 hf, fun hh => by cases hh.2.2⟩
          rw [frac_some, ← ht, List.append_assoc, List.cons_append, ← he, hr]
        · rfl
      · rfl
    · split
      · rename_i hD
        split
        · rfl
        · rename_i hz
          refine absurd ?_ (h W none)
          refine ⟨?_, hw.1, hall, hw.2, (fun f e => by cases e), fun hh => hz ⟨hh.1, hh.2.1⟩⟩
          rw [frac_none, List.append_nil, ← ht, hD]
      · rfl
  · rfl
theorem ref_other {l : List UInt8} (h : ∀ neg W F, ¬ Shape l neg W F) : refV l = (0, 3) := by
  unfold refV
  split
  · rename_i h45
    obtain ⟨c, r, rfl⟩ : ∃ c r, l = c :: r := by
      cases l with
      | nil => cases h45
      | cons c r => exact ⟨c, r, rfl⟩
    obtain rfl : c = 45 := Option.some.inj h45
    rw [List.tail_cons]
    refine tailV_other true r fun W F hh => h true W F ⟨?_, hh.2.1, hh.2.2.1, hh.2.2.2.1, hh.2.2.2.2.1, hh.2.2.2.2.2⟩
    rw [hh.1, if_pos rfl]; rfl
  · refine tailV_other false l fun W F hh => h false W F ⟨?_, hh.2.1, hh.2.2.1, hh.2.2.2.1, hh.2.2.2.2.1, hh.2.2.2.2.2⟩
    rw [hh.1, if_neg (by decide)]; rfl
/-- both agree -/
theorem parse_agree (s : ByteArray) (hs : s.size ≤ 1000) : length_Parse.f 1200 s = vinculumref01_Parse.f 1200 s := by
  rw [ref_value s hs 1194 (by omega)]
  by_cases h : ∃ neg W F, Shape s.data.toList neg W F
  · obtain ⟨neg, W, F, h⟩ := h
    rw [impl_shape s hs 1197 h, ref_shape h]
  · have h : ∀ neg W F, ¬ Shape s.data.toList neg W F := fun a b c hh => h ⟨a, b, c, hh⟩
    rw [impl_other s hs 1197 h, ref_other h]
end Go.Proofs.YtignpfhlagfijaaDoor.Pure
