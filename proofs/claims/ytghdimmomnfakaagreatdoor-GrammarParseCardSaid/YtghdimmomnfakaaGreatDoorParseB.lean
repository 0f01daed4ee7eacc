/-
  grammar.Parse and the reference's answer alike; what is accepted is the text of the result.
-/
import Derived.Test.YtghdimmomnfakaaGreatDoorRefParse
import Derived.Test.YtghdimmomnfakaaGreatDoorParseA
set_option linter.unusedVariables false
set_option linter.unusedSimpArgs false
namespace Go.Proofs.YtghdimmomnfakaaGreatDoor.Pure
open Go.RowKit Go.Proofs.YtghdimmomnfakaaGreatDoorW.PrintWords Go.Proofs.YtghdimmomnfakaaGreatDoorW.PrintLast Go.Proofs.YtghdimmomnfakaaGreatDoorW.PrintMore Go.Proofs.YtghdimmomnfakaaGreatDoor.Gv Go.Proofs.YtghdimmomnfakaaGreatDoor.X
open Go.Proofs.YtghdimmomnfakaaGreatDoor.P (vinculumref49_Parse.f vinculumref49_Parse.l0 vinculumref49_Parse.l1 vinculumref49_Parse.l2 vinculumref49_Parse.j1 vinculumref49_Parse.j2)
theorem refW_line {x : S31} (h : prR x = true) : refW (wordsR x) = x := by
  obtain ⟨hk, h3, h4, h5, hn, hd⟩ := prB_parts h
  have n3 := numR_itoa (n := x.f3) (by omega) (by omega)
  have n4 := numR_itoa h4.1 h4.2
  have n5 := numR_itoa h5.1 h5.2
  obtain ⟨f0, f1, f2, f3, f4, f5⟩ := x
  simp only at hk n3 n4 n5 hd
  unfold wordsR
  unfold kindB at hd
  rcases hk with rfl | rfl | rfl | rfl
  · rw [if_pos rfl]
    show (⟨1, f1, f2, numR (itoaB f3), numR (itoaB f4), numR (itoaB f5)⟩ : S31) = _
    rw [n3, n4, n5]
  · rw [if_neg (show ¬ (2 : Int) = 1 by decide), if_pos rfl]
    rw [if_neg (by decide), if_pos rfl, Bool.and_eq_true, decide_eq_true_eq] at hd
    unfold refW
    rw [if_neg (fun h => absurd h.2 (by simp)), if_pos ⟨rfl, rfl⟩]
    show (⟨2, f1, f2, numR (itoaB f3), 0, numR (itoaB f5)⟩ : S31) = _
    rw [n3, n5, hd.2]
  · rw [if_neg (show ¬ (3 : Int) = 1 by decide), if_neg (show ¬ (3 : Int) = 2 by decide), if_pos rfl]
    rw [if_neg (by decide), if_neg (by decide), if_pos rfl, Bool.and_eq_true, decide_eq_true_eq] at hd
    unfold refW
    rw [if_neg (fun h => absurd h.2 (by simp)), if_neg (fun h => absurd (show (⟨#[112, 111, 115, 116, 102, 105, 120]⟩ : ByteArray) = wordK 1 from h.1) (by decide +kernel)), if_pos ⟨rfl, rfl⟩]
    show (⟨3, f1, f2, numR (itoaB f3), numR (itoaB f4), 0⟩ : S31) = _
    rw [n3, n4, hd.2]
  · rw [if_neg (show ¬ (4 : Int) = 1 by decide), if_neg (show ¬ (4 : Int) = 2 by decide), if_neg (show ¬ (4 : Int) = 3 by decide)]
    rw [if_neg (by decide), if_neg (by decide), if_neg (by decide), if_pos rfl, decide_eq_true_eq] at hd
    unfold refW
    rw [if_neg (fun h => absurd h.2 (by simp)), if_neg (fun h => absurd (show (⟨#[106, 117, 120, 116, 97, 112, 111, 115, 101]⟩ : ByteArray) = wordK 1 from h.1) (by decide +kernel)), if_neg (fun h => absurd (show (⟨#[106, 117, 120, 116, 97, 112, 111, 115, 101]⟩ : ByteArray) = wordK 2 from h.1) (by decide +kernel)), if_pos ⟨rfl, rfl⟩]
    show (⟨4, ⟨#[]⟩, f2, numR (itoaB f3), numR (itoaB f4), numR (itoaB f5)⟩ : S31) = _
    rw [n3, n4, n5, size0 hd]
theorem refRL_line {x : S31} (h : prR x = true) : refRL (lineB x) = (x, true) := by
  unfold refRL
  rw [parts_line h, refW_line h, h]
  simp
theorem refRL_true {s : ByteArray} (h : (refRL s).2 = true) : ∃ x, prR x = true ∧ lineB x = s := by
  unfold refRL at h
  simp only [Bool.and_eq_true, decide_eq_true_eq] at h
  exact ⟨_, h.1, h.2⟩
theorem readR_true {s : ByteArray} (h : (readR s).2 = true) : ∃ x, prR x = true ∧ lineB x = s := by
  unfold readR at h
  split at h
  · cases h
  · simp only [Bool.and_eq_true, decide_eq_true_eq] at h
    exact ⟨_, h.1, h.2⟩
theorem reads_alike (s : ByteArray) : (readR s).2 = (refRL s).2 ∧ ((readR s).2 = true → (readR s).1 = (refRL s).1) := by
  cases h : (readR s).2 with
  | true =>
    obtain ⟨x, h1, rfl⟩ := readR_true h
    rw [refRL_line h1, readR_line h1]
    exact ⟨rfl, fun _ => rfl⟩
  | false =>
    refine ⟨?_, fun h' => by cases h'⟩
    cases h2 : (refRL s).2 with
    | false => rfl
    | true =>
      obtain ⟨x, h1, rfl⟩ := refRL_true h2
      rw [readR_line h1] at h
      cases h
theorem readLine_f {s : ByteArray} (h : s.size ≤ 1000000) : vinculumref49_ReadLine.f s = some ((refRL s).1.f0, (refRL s).1.f1, (refRL s).1.f2, (refRL s).1.f3, (refRL s).1.f4, (refRL s).1.f5, (refRL s).2) := if_pos h
/-- what comes behind the lines: the first rule that clashes, or is one too many -/
def finI (l : List S31) (i : Nat) : List S31 × Int × Int := if (chF l (l.length - i) i).2 = 0 then (l, 0, 0) else ([], (chF l (l.length - i) i).1, (chF l (l.length - i) i).2)
theorem clRest_split (l : List S31) (y : S31) : ∀ n j, clRest l y n j = true → ∃ m, m < n ∧ cl (rd_T31 l ((j + m : Nat) : Int)) y = true
  | 0, j, h => by cases h
  | n + 1, j, h => by
    rw [clRest, Bool.or_eq_true] at h
    rcases h with h | h
    · exact ⟨0, by omega, h⟩
    · obtain ⟨m, hm, h⟩ := clRest_split l y n (j + 1) h
      exact ⟨m + 1, by omega, by rwa [show j + (m + 1) = j + 1 + m by omega]⟩
theorem ref_cl (x y : S31) : vinculumref49_clash.f x.f0 x.f1 x.f2 x.f3 x.f4 x.f5 y.f0 y.f1 y.f2 y.f3 y.f4 y.f5 = some (cl x y) := ref_clash x y
theorem ref_l2 (l : List S31) (hl : l.length ≤ 1000000) (i : Nat) (hi : i < l.length) : ∀ n j k, i = j + n → n < k →
    vinculumref49_Parse.l2 k l (i : Int) (j : Int) = if clRest l (rd_T31 l (i : Int)) n j = true then some ([], (i : Int) + 1, 9) else if (i : Int) = 64 then some ([], (i : Int) + 1, 6) else vinculumref49_Parse.l1 (k - n - 1) l ((i : Int) + 1)
  | _, j, 0, _, hk => absurd hk (Nat.not_lt_zero _)
  | 0, j, k + 1, hj, hk => by
    rw [vinculumref49_Parse.l2, if_neg (by omega), w64 (x := (i : Int) + 1) (by omega) (by omega)]
    rfl
  | n + 1, j, k + 1, hj, hk => by
    rw [vinculumref49_Parse.l2, if_pos (by omega), if_pos (by omega), if_pos (by omega), if_pos (by omega), if_pos (by omega), ref_cl, Option.bind_some, clRest, cl_symm (rd_T31 l (j : Int)) (rd_T31 l (i : Int)), w64 (x := (i : Int) + 1) (by omega) (by omega), w64 (x := (j : Int) + 1) (by omega) (by omega)]
    cases hc : cl (rd_T31 l (i : Int)) (rd_T31 l (j : Int)) with
    | true => rw [if_pos rfl]; rfl
    | false =>
      rw [if_neg (by decide), show ((j : Int) + 1) = ((j + 1 : Nat) : Int) by omega, ref_l2 l hl i hi n (j + 1) k (by omega) (by omega), show k + 1 - (n + 1) - 1 = k - n - 1 by omega]
      rfl
theorem ref_l1 (l : List S31) (hl : l.length ≤ 1000000) : ∀ n i k, l.length = i + n → n * (l.length + 3) < k → vinculumref49_Parse.l1 k l (i : Int) = some (finI l i)
  | _, i, 0, _, hk => absurd hk (Nat.not_lt_zero _)
  | 0, i, k + 1, hi, hk => by
    rw [vinculumref49_Parse.l1, if_neg (by omega)]
    unfold finI
    rw [show l.length - i = 0 by omega]
    rfl
  | n + 1, i, k + 1, hi, hk => by
    have hm : (n + 1) * (l.length + 3) = n * (l.length + 3) + (l.length + 3) := by rw [Nat.add_mul, Nat.one_mul]
    rw [vinculumref49_Parse.l1, if_pos (by omega)]
    have h0 := ref_l2 l hl i (by omega) i 0 k (by omega) (by omega)
    rw [show ((0 : Int)) = ((0 : Nat) : Int) from rfl, h0, ← clAt_is l i (by omega)]
    unfold finI
    rw [chF_step l (show i < l.length by omega)]
    by_cases h1 : clAt l i = true
    · rw [if_pos h1, if_pos h1]; rfl
    · rw [if_neg h1, if_neg h1]
      by_cases h2 : (i : Int) = 64
      · rw [if_pos h2, if_pos h2]; rfl
      · rw [if_neg h2, if_neg h2, show ((i : Int) + 1) = ((i + 1 : Nat) : Int) by omega, ref_l1 l hl n (i + 1) _ (by omega) (by omega)]
        rfl
theorem ref_j2 (l : List S31) (hl : l.length ≤ 1000000) (k : Nat) (hk : l.length * (l.length + 3) + 1 < k) : vinculumref49_Parse.j2 k l = some (finI l 0) := by
  obtain ⟨k, rfl⟩ : ∃ m, k = m + 1 := ⟨k - 1, by omega⟩
  rw [vinculumref49_Parse.j2]
  exact ref_l1 l hl l.length 0 k (by omega) (by omega)
theorem parts_cons {t : ByteArray} {p : List UInt8} {r : List (List UInt8)} (h : Spl.splitL 10 t.data.toList = p :: r) : partsS 10 t = (⟨p.toArray⟩ : ByteArray) :: r.map fun p => ⟨p.toArray⟩ := by
  unfold partsS; rw [h]; rfl
theorem rd_drop {L : List ByteArray} {i : Nat} {p : ByteArray} {r : List ByteArray} (h : L.drop i = p :: r) : rdOf ByteArray.empty L (i : Int) = p ∧ i < L.length ∧ L.drop (i + 1) = r ∧ L.length = i + 1 + r.length := by
  have hi : i < L.length := by
    by_cases c : i < L.length
    · exact c
    · rw [List.drop_eq_nil_of_le (by omega)] at h; cases h
  rw [List.drop_eq_getElem_cons hi] at h
  injection h with h1 h2
  refine ⟨?_, hi, h2, ?_⟩
  · rw [← h1]
    unfold rdOf
    rw [show ((i : Int)).toNat = i from rfl, List.getD_eq_getElem?_getD, List.getElem?_eq_getElem hi]; rfl
  · have := congrArg List.length h2
    rw [List.length_drop] at this
    omega
theorem empty_size {t : ByteArray} (h : t.toList.isEmpty = true) : t.data.toList = [] := by
  rw [ByteArray.toList_eq] at h
  exact List.isEmpty_iff.1 h
def ansO (o : Except Int (List S31)) : List S31 × Int × Int := match o with
  | .error n => ([], n, 3)
  | .ok l => finI l 0
/-- the reference's loop over the lines -/
theorem ref_l0 (L : List ByteArray) (hL : L.length ≤ 10000) (F : Nat) (hF : 10000 * 10003 + 10 ≤ F) : ∀ (gg : Nat) (t : ByteArray) (acc : List S31) (i k : Nat), t.size ≤ gg → t.size ≤ 1000000 → L.drop i = partsS 10 t → acc.length = i → 2 * gg + F ≤ k →
    vinculumref49_Parse.l0 k L acc (i : Int) = some (ansO (lpF readR gg t acc))
  | gg, t, acc, i, k, hg, ht, hd, ha, hk => by
    obtain ⟨k, rfl⟩ : ∃ m, k = m + 2 := ⟨k - 2, by omega⟩
    by_cases he : t.toList.isEmpty = true
    · have e0 := empty_size he
      have hp : partsS 10 t = [(⟨#[]⟩ : ByteArray)] := by unfold partsS; rw [e0]; rfl
      rw [hp] at hd
      obtain ⟨h1, h2, h3, h4⟩ := rd_drop hd
      have h5 : L.length = i + 1 := by simpa using h4
      rw [vinculumref49_Parse.l0, if_pos (by omega), w64 (x := (L.length : Int) - 1) (by omega) (by omega), if_pos (by omega), if_pos (by omega), h1]
      rw [vinculumref49_Parse.j1, if_pos (by decide +kernel)]
      have hq : acc.length * (acc.length + 3) ≤ 10000 * 10003 := Nat.mul_le_mul (by omega) (by omega)
      rw [ref_j2 acc (by omega) k (by omega), lpF_done readR gg acc he]
      rfl
    · have hef : t.toList.isEmpty = false := by simpa using he
      have hs1 := size_of_ne hef
      obtain ⟨gg, rfl⟩ : ∃ m, gg = m + 1 := ⟨gg - 1, by omega⟩
      have hj := Spl.join_splitL 10 t.data.toList
      have hfr : ∀ p ∈ Spl.splitL 10 t.data.toList, (10 : UInt8) ∉ p := fun p hp => Spl.splitL_free p hp
      have hne := Spl.splitL_ne 10 t.data.toList
      rw [lpF, if_neg (by rw [hef]; decide)]
      have hlc := lineC_size t
      have hrs := restC_size t
      have e1 : lineC t = ⟨(Lib.cut t.data.toList [10]).1.toArray⟩ := rfl
      have e2 : restC t = ⟨(Lib.cut t.data.toList [10]).2.1.toArray⟩ := rfl
      have e3 : foundC t = (Lib.cut t.data.toList [10]).2.2 := rfl
      rw [Spl.cut_eq] at e1 e2 e3
      generalize hq : Spl.splitL 10 t.data.toList = q at *
      match q with
      | [] => exact absurd rfl hne
      | [p] =>
        simp only at e1 e2 e3
        rw [parts_cons hq] at hd
        obtain ⟨h1, h2, h3, h4⟩ := rd_drop hd
        have h5 : L.length = i + 1 := by simpa using h4
        have hz : (⟨p.toArray⟩ : ByteArray).size ≤ 1000000 := by rw [← e1]; omega
        have hpne : ((⟨p.toArray⟩ : ByteArray).toList == ([] : List UInt8)) = false := by
          rw [ByteArray.toList_eq]
          have : p ≠ [] := fun hp => by
            rw [hp] at hj
            simp [Lib.join_cons, Lib.joinTail] at hj
            have : t.size = 0 := by
              show t.data.size = 0
              rw [hj]; rfl
            omega
          cases p with
          | nil => exact absurd rfl this
          | cons a r => rfl
        rw [vinculumref49_Parse.l0, if_pos (by omega), w64 (x := (L.length : Int) - 1) (by omega) (by omega), if_pos (by omega), if_pos (by omega), h1, hpne]
        rw [vinculumref49_Parse.j1, if_neg (by decide), if_pos (by omega), if_pos (by omega), h1, readLine_f hz, Option.bind_some, w64 (x := (L.length : Int) - 1) (by omega) (by omega), w64 (x := (i : Int) + 1) (by omega) (by omega)]
        have hf : foundC t = false := e3
        rw [hf]
        simp only [Bool.false_eq_true, if_false]
        rw [if_pos (show (i : Int) = (L.length : Int) - 1 by omega)]
        have hn : ((acc.length : Int) + 1) = (i : Int) + 1 := by omega
        rw [hn]
        simp only [ite_self]
        rfl
      | p :: b :: r =>
        simp only at e1 e2 e3
        rw [parts_cons hq] at hd
        obtain ⟨h1, h2, h3, h4⟩ := rd_drop hd
        have h5 : L.length = i + 1 + (r.length + 1) := by simpa using h4
        have hz : (⟨p.toArray⟩ : ByteArray).size ≤ 1000000 := by rw [← e1]; omega
        have hf : foundC t = true := e3
        have hrs' := hrs hf
        have hrest : L.drop (i + 1) = partsS 10 (restC t) := by
          rw [h3, e2]
          unfold partsS
          show _ = (Spl.splitL 10 (Lib.join (b :: r) [10]).toArray.toList).map _
          rw [List.toList_toArray, Spl.splitL_join (b :: r) (by simp) (fun x hx => hfr x (List.mem_cons_of_mem _ hx))]
        obtain ⟨ra1, ra2⟩ := reads_alike (lineC t)
        rw [vinculumref49_Parse.l0, if_pos (by omega), w64 (x := (L.length : Int) - 1) (by omega) (by omega), if_neg (by omega)]
        rw [vinculumref49_Parse.j1, if_neg (by decide), if_pos (by omega), if_pos (by omega), h1, ← e1, readLine_f (by omega), Option.bind_some, w64 (x := (L.length : Int) - 1) (by omega) (by omega), w64 (x := (i : Int) + 1) (by omega) (by omega), hf]
        dsimp only
        cases hr : (readR (lineC t)).2 with
        | false =>
          rw [if_neg (show ¬ (refRL (lineC t)).2 = true by rw [← ra1, hr]; decide), if_neg (show ¬ (false = true) by decide)]
          have hn : ((acc.length : Int) + 1) = (i : Int) + 1 := by omega
          rw [hn]
          rfl
        | true =>
          rw [if_pos (show (refRL (lineC t)).2 = true by rw [← ra1, hr]), if_neg (show ¬ (i : Int) = (L.length : Int) - 1 by omega), if_pos (show acc.length < 2199023255552 by omega), if_pos rfl, if_pos rfl]
          have ea : (⟨(refRL (lineC t)).1.f0, (refRL (lineC t)).1.f1, (refRL (lineC t)).1.f2, (refRL (lineC t)).1.f3, (refRL (lineC t)).1.f4, (refRL (lineC t)).1.f5⟩ : S31) = (readR (lineC t)).1 := by rw [ra2 hr]
          rw [ea, show ((i : Int) + 1) = ((i + 1 : Nat) : Int) by omega]
          exact ref_l0 L hL F hF gg (restC t) (acc ++ [(readR (lineC t)).1]) (i + 1) k (by omega) (by omega) hrest (by simp [ha]) (by omega)
theorem parseG_ans (s : ByteArray) : ansO (lpF readR s.size s []) = parseG readR s := by
  unfold ansO parseG
  cases lpF readR s.size s [] with
  | error n => rfl
  | ok l => rfl
theorem ref_parse (s : ByteArray) (hs : s.size ≤ 5000) : ∃ k, vinculumref49_Parse.f k s = some (parseG readR s) := by
  obtain ⟨F, hF⟩ : ∃ F, 10000 * 10003 + 10 ≤ F := ⟨_, Nat.le_refl _⟩
  refine ⟨2 * s.size + F + s.size, ?_⟩
  unfold vinculumref49_Parse.f
  have h := split_f s 10 (by omega) (2 * s.size + F + s.size) (by omega)
  rw [show ((10 : UInt8).toNat : Int) = 10 from rfl] at h
  rw [h, Option.bind_some]
  have hl := partsS_len 10 s
  have := ref_l0 (partsS 10 s) (by omega) F hF s.size s [] 0 (2 * s.size + F + s.size) (Nat.le_refl _) (by omega) rfl rfl (by omega)
  rw [parseG_ans] at this
  exact this
theorem join_cons2 (p b : List UInt8) (r : List (List UInt8)) : Lib.join (p :: b :: r) [10] = p ++ 10 :: Lib.join (b :: r) [10] := by
  simp [Lib.join_cons, Lib.joinTail]
/-- what the lines gave is what was read -/
theorem lp_inv : ∀ (gg : Nat) (t : ByteArray) (acc l : List S31), t.size ≤ gg → lpF readR gg t acc = .ok l → ∃ r, l = acc ++ r ∧ t.data.toList = textL r ∧ ∀ x ∈ r, prR x = true
  | gg, t, acc, l, hg, h => by
    by_cases he : t.toList.isEmpty = true
    · rw [lpF_done readR gg acc he] at h
      injection h with h
      exact ⟨[], by rw [h]; simp, by rw [empty_size he]; rfl, by simp⟩
    · have hef : t.toList.isEmpty = false := by simpa using he
      have hs1 := size_of_ne hef
      obtain ⟨gg, rfl⟩ : ∃ m, gg = m + 1 := ⟨gg - 1, by omega⟩
      rw [lpF, if_neg (by rw [hef]; decide)] at h
      cases hr : (readR (lineC t)).2 with
      | false => rw [hr, if_neg (by decide)] at h; cases h
      | true =>
        rw [hr, if_pos rfl] at h
        cases hf : foundC t with
        | false => rw [hf, if_neg (by decide)] at h; cases h
        | true =>
          rw [hf, if_pos rfl] at h
          have hrs := restC_size t hf
          obtain ⟨r, h1, h2, h3⟩ := lp_inv gg (restC t) (acc ++ [(readR (lineC t)).1]) l (by omega) h
          obtain ⟨x, hx1, hx2⟩ := readR_true hr
          have hx : (readR (lineC t)).1 = x := by rw [← hx2, readR_line hx1]
          refine ⟨x :: r, by rw [h1, hx]; simp, ?_, ?_⟩
          · have hj := Spl.join_splitL 10 t.data.toList
            have e1 : lineC t = ⟨(Lib.cut t.data.toList [10]).1.toArray⟩ := rfl
            have e2 : restC t = ⟨(Lib.cut t.data.toList [10]).2.1.toArray⟩ := rfl
            have e3 : foundC t = (Lib.cut t.data.toList [10]).2.2 := rfl
            rw [Spl.cut_eq] at e1 e2 e3
            generalize Spl.splitL 10 t.data.toList = q at *
            match q with
            | [] => rw [hf] at e3; cases e3
            | [p] => rw [hf] at e3; cases e3
            | p :: b :: r' =>
              simp only at e1 e2
              rw [← hj, join_cons2, textL, ← h2, e2, hx2, e1]
          · intro y hy
            rcases List.mem_cons.1 hy with rfl | hy
            · exact hx1
            · exact h3 y hy
theorem ch_zero (l : List S31) : ∀ n i, l.length = i + n → (chF l n i).2 = 0 → ∀ j, i ≤ j → j < l.length → clAt l j = false ∧ j ≠ 64
  | 0, i, hi, _, j, h1, h2 => by omega
  | n + 1, i, hi, h, j, h1, h2 => by
    rw [chF] at h
    by_cases hc : clAt l i = true
    · rw [if_pos hc] at h; simp at h
    · rw [if_neg hc] at h
      by_cases h64 : (i : Int) = 64
      · rw [if_pos h64] at h; simp at h
      · rw [if_neg h64] at h
        by_cases e : j = i
        · subst e; exact ⟨by simpa using hc, by omega⟩
        · exact ch_zero l n (i + 1) (by omega) h j (by omega) h2
theorem vRest_of (l : List S31) (hp : ∀ x ∈ l, prR x = true) (hc : ∀ j, j < l.length → clAt l j = false) : ∀ n i, l.length = i + n → vRest l n i = true
  | 0, _, _ => rfl
  | n + 1, i, hi => by
    have hil : i < l.length := by omega
    rw [vRest, ← clAt_is l i (by omega), hc i hil, rd_lt hil, hp _ (List.getElem_mem hil), vRest_of l hp hc n (i + 1) (by omega)]
    rfl
theorem sym_small {s : ByteArray} (h : symB s = true) : s.size ≤ 16 := by
  unfold symB at h
  split at h
  · omega
  · simp only [Bool.and_eq_true, decide_eq_true_eq] at h
    exact h.2.2.1
theorem pr_small {x : S31} (h : prR x = true) : x.f1.size ≤ 100 ∧ x.f2.size ≤ 100 := by
  obtain ⟨hk, h3, h4, h5, hn, hd⟩ := prB_parts h
  unfold nameB at hn
  simp only [Bool.and_eq_true, decide_eq_true_eq] at hn
  refine ⟨?_, by omega⟩
  unfold kindB at hd
  rcases hk with e | e | e | e
  · rw [if_pos e] at hd
    have := sym_small hd; omega
  · rw [if_neg (by omega), if_pos e, Bool.and_eq_true] at hd
    have := sym_small hd.1; omega
  · rw [if_neg (by omega), if_neg (by omega), if_pos e, Bool.and_eq_true] at hd
    have := sym_small hd.1; omega
  · rw [if_neg (by omega), if_neg (by omega), if_neg (by omega), if_pos e, decide_eq_true_eq] at hd
    omega
/-- what is accepted -/
theorem parse_ok {s : ByteArray} (h : (parseG readR s).2.2 = 0) : ∃ l, parseG readR s = (l, 0, 0) ∧ textB l = s ∧ l.length ≤ 64 ∧ smallR 100 l ∧ vRest l l.length 0 = true := by
  cases hl : lpF readR s.size s [] with
  | error n => rw [parseG_err hl] at h; cases h
  | ok l =>
    have hc : (chF l l.length 0).2 = 0 := by
      unfold parseG at h
      rw [hl] at h
      by_cases hc : (chF l l.length 0).2 = 0
      · exact hc
      · simp only [if_neg hc] at h
        exact h
    obtain ⟨r, h1, h2, h3⟩ := lp_inv s.size s [] l (Nat.le_refl _) hl
    rw [List.nil_append] at h1
    subst h1
    have hz := ch_zero l l.length 0 (by omega) hc
    have h64 : l.length ≤ 64 := by
      by_cases c : l.length ≤ 64
      · exact c
      · exact absurd rfl (hz 64 (by omega) (by omega)).2
    refine ⟨l, ?_, ?_, h64, fun j hj => ?_, vRest_of l h3 (fun j hj => (hz j (by omega) hj).1) _ _ (by omega)⟩
    · unfold parseG; rw [hl]; simp only [if_pos hc]
    · apply ByteArray.ext; apply Array.ext'; rw [textB_list, h2]
    · rw [rd_lt hj]; exact pr_small (h3 _ (List.getElem_mem hj))
theorem parse_len {s : ByteArray} (hs : s.size ≤ 5000) : (parseG readR s).1.length ≤ 64 := by
  by_cases h : (parseG readR s).2.2 = 0
  · obtain ⟨l, e, _, h64, _⟩ := parse_ok h
    rw [e]; exact h64
  · cases hl : lpF readR s.size s [] with
    | error n => rw [parseG_err hl]; simp
    | ok l =>
      unfold parseG at h ⊢
      rw [hl] at h ⊢
      by_cases hc : (chF l l.length 0).2 = 0
      · simp [hc] at h
      · simp only [if_neg hc]; simp
end Go.Proofs.YtghdimmomnfakaaGreatDoor.Pure

set_option linter.unusedVariables false
set_option linter.unusedSimpArgs false
namespace Go.Proofs.YtghdimmomnfakaaGreatDoor.Gv
open Go.RowKit Go.Proofs.YtghdimmomnfakaaGreatDoorW.PrintWords Go.Proofs.YtghdimmomnfakaaGreatDoorW.PrintLast Go.Proofs.YtghdimmomnfakaaGreatDoorW.PrintMore
open Go.Proofs.YtghdimmomnfakaaGreatDoor.X (S31 k31 rd_T31 at_T31 z31)
open Go.Proofs.YtghdimmomnfakaaGreatDoor.Pure
theorem awakeG (w : World) (hG : Gw w) : Calls Tryz.prog 4 #[] w fun e w' => e = .returned (.bool true) ∧ Below w.heap.size w w' :=
  Go.Proofs.YtghdimmomnfakaaGreatDoor.X.vinculumlaw49_awake.calls 20 true w hG awake_at
/-- what Text answers -/
def textR (l : List S31) : ByteArray := if (vRest l l.length 0 && decide (l.length ≤ 64)) = true then textB l else ⟨#[]⟩
theorem textG (A0 : Option Addr) (c0 : Nat) (l : List S31) (w : World) (hG : Gw w) (hr : Kd.C k31 w A0 l.length l) (hc : l.length ≤ c0) (hl : l.length ≤ 9223372036854775807) (hs : smallR 100 l) :
    Calls Tryz.prog 8 #[.slice A0 l.length c0] w fun e w' => e = .returned (.string (textR l)) ∧ Below w.heap.size w w' := by
  refine grammar_Text.calls (l.length + 200) A0 c0 l (textR l) w hG hr hc ?_
  unfold textR
  cases hv : (vRest l l.length 0 && decide (l.length ≤ 64)) with
  | false =>
    rw [if_neg (by decide)]
    exact text_no 100 (by omega) l hl hs (by rw [Bool.and_comm]; exact hv) _ (by omega)
  | true =>
    rw [if_pos rfl]
    rw [Bool.and_eq_true, decide_eq_true_eq] at hv
    exact text_f 100 (by omega) (by omega) l hv.2 hs hv.1 _ (by omega)
theorem same_l0 (l : List S31) (hl : l.length ≤ 9223372036854775807) : ∀ n i k, l.length = i + n → n < k → Go.Proofs.YtghdimmomnfakaaGreatDoor.X.vinculumref49_Same.l0 k l l (i : Int) = some true
  | n, i, 0, _, hk => by omega
  | n, i, k + 1, hi, hk => by
    rw [Go.Proofs.YtghdimmomnfakaaGreatDoor.X.vinculumref49_Same.l0]
    by_cases h : (i : Int) < (l.length : Int)
    · obtain ⟨m, rfl⟩ : ∃ m, n = m + 1 := ⟨n - 1, by omega⟩
      rw [if_pos h, if_pos (by omega), if_pos h, if_neg (by simp), w64 (x := (i : Int) + 1) (by omega) (by omega)]
      exact same_l0 l hl m (i + 1) k (by omega) (by omega)
    · rw [if_neg h]
theorem sameG (A0 : Option Addr) (c0 : Nat) (A1 : Option Addr) (c1 : Nat) (l : List S31) (w : World) (h0 : Kd.C k31 w A0 l.length l) (hc0 : l.length ≤ c0) (h1 : Kd.C k31 w A1 l.length l) (hc1 : l.length ≤ c1) (hl : l.length ≤ 9223372036854775807) :
    Calls Tryz.prog 7 #[.slice A0 l.length c0, .slice A1 l.length c1] w fun e w' => e = .returned (.bool true) ∧ Below w.heap.size w w' :=
  (Go.Proofs.YtghdimmomnfakaaGreatDoor.X.vinculumref49_Same.calls (l.length + 1) A0 c0 l A1 c1 l true w h0 hc0 h1 hc1 (by
    unfold Go.Proofs.YtghdimmomnfakaaGreatDoor.X.vinculumref49_Same.f
    rw [if_pos rfl]
    exact same_l0 l hl l.length 0 _ (by omega) (Nat.lt_succ_self _))).mono (by
    rintro e w' ⟨rfl, m, rfl⟩
    exact ⟨rfl, below_drewN' m⟩)
theorem ref_any (s : ByteArray) (w : World) (hs : s.size ≤ 5000) :
    Calls Tryz.prog 6 #[.string s] w fun e w' => ∃ v, e = .returned (.tuple #[v, .int .i64 (parseG readR s).2.1, .int .i64 (parseG readR s).2.2]) ∧ OwnR w' w.heap.size v (parseG readR s).1 ∧ Below w.heap.size w w' := by
  obtain ⟨k, hk⟩ := ref_parse s hs
  exact Go.Proofs.YtghdimmomnfakaaGreatDoor.P.vinculumref49_Parse.calls k s _ _ _ w hk
set_option maxHeartbeats 4000000 in
set_option maxRecDepth 1000000 in
theorem GrammarParse.calls (s : ByteArray) (w : World) (hG : Ge w) (hs63 : s.size ≤ 9223372036854775807) :
    Calls Tryz.prog 3 #[.string s] w fun e w' => e = .returned (.bool true) ∧ Below w.heap.size w w' := by
  have HG := Aside0.mk hG
  have AW := Aside0.mk (awakeG w hG.g)
  by_cases hs : s.size ≤ 4000
  · have t0 : decide ((4000 : Int) < (s.size : Int)) = false := decide_eq_false (by omega)
    have PI := Aside0.mk (fun W hW => grammar_Parse.any s W hW (by omega))
    have PR := Aside0.mk (fun W => ref_any s W (by omega))
    have hlen := parse_len (s := s) (by omega)
    have OK := Aside0.mk (parse_ok (s := s))
    have HS := Aside0.mk hs
    generalize parseG readR s = R at *
    obtain ⟨l, ln, e⟩ := R
    simp only at hlen
    have SM := Aside0.mk (fun W A0 c0 A1 c1 h0 hc0 h1 hc1 => sameG A0 c0 A1 c1 l W h0 hc0 h1 hc1 (by omega))
    have TX := Aside0.mk (fun W A0 c0 hW hC hc hsm => textG A0 c0 l W hW hC hc (by omega) hsm)
    generalize hn : l.length = n at *
    have HN := Aside0.mk hn
    clear hn hG hs
    go_enter Tryz.func3, Tryz.ntmps3
    go_wp2_with fail
    refine AW.out.mono ?_
    rintro e1 w1 ⟨rfl, hb⟩
    have B1 := Aside0.mk hb
    clear hb AW
    go_wp2_with fail
    refine (PI.out _ (Ge.below HG.out B1.out)).mono ?_
    rintro e2 w2 ⟨v, rfl, ho, hb⟩
    have B2 := Aside0.mk (keepB hb B1.out)
    obtain ⟨A0, c0, ev⟩ := Kd.R_slice ho
    subst ev
    have hr' := Kd.R_reads' ho
    have C0 := Aside0.mk (show n ≤ c0 ∧ Kd.C k31 w2 A0 n l from by
      have := HN.out
      have h := hr'.2.2
      have h2 := hr'.2.1
      simp only [this] at h h2
      exact ⟨h2, h⟩)
    clear hb ho B1 PI hr'
    rw [HN.out]
    go_wp2_with fail
    refine (PR.out _).mono ?_
    rintro e3 w3 ⟨v, rfl, ho, hb⟩
    have B3 := Aside0.mk (keepB hb B2.out)
    have C03 := Aside0.mk (Kd.C_below C0.out.2 hb)
    obtain ⟨A1, c1, ev⟩ := Kd.R_slice ho
    subst ev
    have hr' := Kd.R_reads' ho
    have C1 := Aside0.mk (show n ≤ c1 ∧ Kd.C k31 w3 A1 n l from by
      have := HN.out
      have h := hr'.2.2
      have h2 := hr'.2.1
      simp only [this] at h h2
      exact ⟨h2, h⟩)
    clear hb ho B2 PR hr'
    rw [HN.out]
    go_wp2_with fail
    refine (SM.out _ _ _ _ _ C03.out C0.out.1 C1.out.2 C1.out.1).mono ?_
    rintro e4 w4 ⟨rfl, hb⟩
    have B4 := Aside0.mk (keepB hb B3.out)
    have C04 := Aside0.mk (Kd.C_below C03.out hb)
    clear hb B3 SM C1 C03
    by_cases h0 : e = 0
    · subst h0
      obtain ⟨l', el, et, h64, hsm, hv⟩ := OK.out rfl
      have el2 : l = l' := congrArg Prod.fst el
      subst el2
      have ET := Aside0.mk (show textR l = s by unfold textR; rw [hv, decide_eq_true h64]; exact et)
      have HSM := Aside0.mk hsm
      clear el et h64 hsm hv OK
      go_wp2_with fail
      refine (TX.out _ _ _ (Gw.below HG.out.g B4.out) C04.out C0.out.1 HSM.out).mono ?_
      rintro e5 w5 ⟨rfl, hb⟩
      have B5 := Aside0.mk (keepB hb B4.out)
      rw [ET.out]
      clear hb B4 TX
      go_wp2
      go_ret
      exact ⟨by first | rfl | simp, B5.out⟩
    · have h0b : (e == 0) = false := beq_eq_false_iff_ne.2 h0
      have h0c : (e != 0) = true := by rw [bne_iff_ne]; exact h0
      clear h0 OK
      go_wp2
      go_ret
      exact ⟨by first | rfl | simp, B4.out⟩
  · have t0 : decide ((4000 : Int) < (s.size : Int)) = true := decide_eq_true (by omega)
    clear hs hG
    go_enter Tryz.func3, Tryz.ntmps3
    go_wp2_with fail
    refine AW.out.mono ?_
    rintro e1 w1 ⟨rfl, hb⟩
    have B1 := Aside0.mk hb
    clear hb AW
    go_wp2
    go_ret
    exact ⟨rfl, B1.out⟩
end Go.Proofs.YtghdimmomnfakaaGreatDoor.Gv
