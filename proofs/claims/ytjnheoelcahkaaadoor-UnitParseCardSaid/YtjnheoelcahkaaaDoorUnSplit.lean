/-
  vinculumref49.Split and vinculumref53.exponent, plainly.
-/
import Derived.Test.YtjnheoelcahkaaaDoorUnRText
import Derived.Test.YtjnheoelcahkaaaDoorVx1
set_option linter.unusedVariables false
set_option linter.unusedSimpArgs false
namespace Go.Proofs.YtjnheoelcahkaaaDoor.Gv
open Go.RowKit Go.Proofs.YtjnheoelcahkaaaDoorW.PrintWords Go.Proofs.YtjnheoelcahkaaaDoorW.PrintLast Go.Proofs.YtjnheoelcahkaaaDoorW.PrintMore
open Go.Proofs.YtjnheoelcahkaaaDoor.V
theorem w64 {x : Int} (h0 : -9223372036854775808 ≤ x) (h1 : x ≤ 9223372036854775807) : wrap64 x = x := by
  unfold wrap64
  omega
theorem extract_list (s : ByteArray) (a b : Nat) : (s.extract a b).data.toList = (s.data.toList.drop a).take (b - a) := by
  simp [ByteArray.data_extract, List.take_drop]
  try omega
theorem extract_mk (s : ByteArray) (a b : Nat) : s.extract a b = ⟨((s.data.toList.drop a).take (b - a)).toArray⟩ := by
  rw [← extract_list, mk_data]
theorem bt_at (s : ByteArray) {i : Nat} (h : i < s.size) : bt s (i : Int) = ((s.data.toList[i]'(by simpa using h)).toNat : Int) := by
  unfold bt
  simp [h, ByteArray.getElem_eq_getElem_data]
theorem split_l0 (s : ByteArray) (c : UInt8) (hs : s.size ≤ 1000000000) : ∀ (n : Nat) (acc : List ByteArray) (a i k : Nat), s.size + 1 = i + n → a ≤ i → i ≤ s.size → c ∉ (s.data.toList.drop a).take (i - a) → acc.length ≤ i → n < k →
    vinculumref49_Split.l0 k s (c.toNat : Int) acc (a : Int) (i : Int) = some (acc ++ (Spl.splitL c (s.data.toList.drop a)).map fun p => ⟨p.toArray⟩)
  | 0, acc, a, i, k, h, _, h2, _, _, _ => by omega
  | n + 1, acc, a, i, 0, _, _, _, _, _, hk => by omega
  | n + 1, acc, a, i, k + 1, h, h1, h2, hno, hacc, hk => by
    have hlen : s.data.toList.length = s.size := by simp
    rw [vinculumref49_Split.l0, if_pos (by omega), w64 (x := (i : Int) + 1) (by omega) (by omega)]
    by_cases e : i = s.size
    · rw [if_pos (by omega), if_pos (by omega), if_pos (by omega), if_pos (by omega)]
      have hall : (s.data.toList.drop a).take (i - a) = s.data.toList.drop a := List.take_of_length_le (by rw [List.length_drop, hlen, e]; omega)
      rw [hall] at hno
      rw [Spl.splitL_none hno]
      obtain ⟨k, rfl⟩ : ∃ m, k = m + 1 := ⟨k - 1, by omega⟩
      rw [vinculumref49_Split.l0, if_neg (by omega), show ((a : Int)).toNat = a from rfl, show ((i : Int)).toNat = i from rfl, extract_mk, hall]
      rfl
    · have hi : i < s.size := by omega
      have hil : i < s.data.toList.length := by rw [hlen]; exact hi
      rw [if_neg (by omega), if_pos (by omega), if_pos (by omega), bt_at s hi]
      by_cases ec : s.data.toList[i] = c
      · rw [if_pos (by rw [ec]), if_pos (by omega), if_pos (by omega), if_pos (by omega), show ((a : Int)).toNat = a from rfl, show ((i : Int)).toNat = i from rfl]
        have hd : s.data.toList.drop a = (s.data.toList.drop a).take (i - a) ++ c :: s.data.toList.drop (i + 1) := by
          have h3 : s.data.toList.drop i = c :: s.data.toList.drop (i + 1) := by rw [List.drop_eq_getElem_cons hil, ec]
          rw [← h3]
          conv => lhs; rw [← List.take_append_drop (i - a) (s.data.toList.drop a), List.drop_drop, show a + (i - a) = i by omega]
        have ih := split_l0 s c hs n (acc ++ [s.extract a i]) (i + 1) (i + 1) k (by omega) (by omega) (by omega) (by simp) (by simp; omega) (by omega)
        rw [hd, Spl.splitL_cut _ hno, List.map_cons]
        rw [show ((i : Int) + 1) = ((i + 1 : Nat) : Int) by omega, ih, extract_mk, List.append_assoc]
        rfl
      · rw [if_neg (fun h => ec (UInt8.toNat_inj.1 (by omega))), show ((i : Int) + 1) = ((i + 1 : Nat) : Int) by omega]
        refine split_l0 s c hs n acc a (i + 1) k (by omega) (by omega) (by omega) ?_ (by omega) (by omega)
        have e3 : (s.data.toList.drop a).take (i + 1 - a) = (s.data.toList.drop a).take (i - a) ++ [s.data.toList[i]] := by
          have hj : i - a < (s.data.toList.drop a).length := by rw [List.length_drop, hlen]; omega
          rw [show i + 1 - a = (i - a) + 1 by omega, List.take_succ_eq_append_getElem hj]
          congr 2
          rw [List.getElem_drop]
          congr 1
          omega
        rw [e3, List.mem_append, List.mem_singleton]
        rintro (h' | h')
        · exact hno h'
        · exact ec h'.symm
theorem split_f (s : ByteArray) (c : UInt8) (hs : s.size ≤ 1000000000) (k : Nat) (hk : s.size + 1 < k) : vinculumref49_Split.f k s (c.toNat : Int) = some (partsS c s) := by
  have := split_l0 s c hs (s.size + 1) [] 0 0 k (by omega) (by omega) (by omega) (by simp) (by simp) (by omega)
  simp only [List.nil_append, List.drop_zero] at this
  exact this
theorem ref_split (s : ByteArray) (c : UInt8) (hs : s.size ≤ 1000000000) (w : World) :
    Calls Tryd.prog 61 #[.string s, .int .u8 (c.toNat : Int)] w fun e w' => ∃ v0_ : Value, e = .returned (v0_) ∧ Kd.R Kd.string 9 w' w.heap.size (fun _ => True) v0_ (partsS c s) ∧ Below w.heap.size w w' :=
  vinculumref49_Split.calls (s.size + 2) s _ _ w (split_f s c hs _ (by omega))
theorem numberV {n : Int} (h0 : -100 ≤ n) (h1 : n ≤ 100) (k : Nat) (hk : 6 ≤ k) : vinculumref01_Number.f k n = some (itoB n) := by
  have := small_all (P := fun n => decide (vinculumref01_Number.f 6 n = some (itoB n))) (by decide +kernel) h0 h1
  exact at_rounds (vinculumref01_Number.mono n) hk (by simpa using this)
theorem itoB_inj {a b : Int} (ha : -100 ≤ a ∧ a ≤ 100) (hb : -100 ≤ b ∧ b ≤ 100) (h : itoB a = itoB b) : a = b := by
  have h1 := num_itoa ha.1 ha.2
  have h2 := num_itoa hb.1 hb.2
  have e : Lib.itoa a = Lib.itoa b := by
    have := congrArg (fun x : ByteArray => x.data.toList) h
    simpa [itoB] using this
  rw [e, h2] at h1
  exact (Option.some.inj h1).symm
theorem exp_l0 (l : List ByteArray) (hl : 1 < l.length) : ∀ (n : Nat) (x : Int) (k : Nat), 101 = x + n → -100 ≤ x → n + 10 ≤ k → ∃ r, vinculumref53_exponent.l0 k l x = some r ∧ -100 ≤ r ∧ r ≤ 100
  | n, x, 0, _, _, hk => by omega
  | n, x, k + 1, h, h0, hk => by
    rw [vinculumref53_exponent.l0]
    by_cases hx : x ≤ 100
    · rw [if_pos hx, numberV h0 hx k (by omega), Option.bind_some, if_pos (by omega)]
      by_cases e : (itoB x).toList = (rdOf ByteArray.empty l 1).toList
      · rw [if_pos e]; exact ⟨x, rfl, h0, hx⟩
      · rw [if_neg e, w64 (x := x + 1) (by omega) (by omega)]
        obtain ⟨n, rfl⟩ : ∃ m, n = m + 1 := ⟨n - 1, by omega⟩
        exact exp_l0 l hl n (x + 1) k (by omega) (by omega) (by omega)
    · rw [if_neg hx]; exact ⟨0, rfl, by omega, by omega⟩
theorem exp_total (l : List ByteArray) : ∃ r, vinculumref53_exponent.f 300 l = some r ∧ -100 ≤ r ∧ r ≤ 100 := by
  unfold vinculumref53_exponent.f
  by_cases h : (l.length : Int) < 2
  · rw [if_pos h]; exact ⟨1, rfl, by omega, by omega⟩
  · rw [if_neg h]
    exact exp_l0 l (by omega) 201 (-100) 300 (by omega) (by omega) (by omega)
def expV (l : List ByteArray) : Int := (vinculumref53_exponent.f 300 l).getD 0
theorem expV_f (l : List ByteArray) : vinculumref53_exponent.f 300 l = some (expV l) := by
  obtain ⟨r, h, _⟩ := exp_total l
  unfold expV; rw [h]; rfl
theorem expV_range (l : List ByteArray) : -100 ≤ expV l ∧ expV l ≤ 100 := by
  obtain ⟨r, h, h1, h2⟩ := exp_total l
  unfold expV; rw [h]; exact ⟨h1, h2⟩
theorem expV_one (x : ByteArray) : expV [x] = 1 := by
  unfold expV vinculumref53_exponent.f
  rw [if_pos (by simp)]; rfl
theorem exp_hit (x : ByteArray) {n : Int} (hn : -100 ≤ n ∧ n ≤ 100) : ∀ (m : Nat) (y : Int) (k : Nat), n = y + m → -100 ≤ y → m + 10 ≤ k → vinculumref53_exponent.l0 k [x, itoB n] y = some n
  | m, y, 0, _, _, hk => by omega
  | m, y, k + 1, h, h0, hk => by
    rw [vinculumref53_exponent.l0, if_pos (by omega), numberV h0 (by omega) k (by omega), Option.bind_some, if_pos (by simp)]
    have er : rdOf ByteArray.empty [x, itoB n] 1 = itoB n := rfl
    rw [er]
    by_cases e : y = n
    · subst e; rw [if_pos rfl]
    · have hne : ¬ (itoB y).toList = (itoB n).toList := fun h' => by
        rw [ByteArray.toList_eq, ByteArray.toList_eq] at h'
        exact e (itoB_inj ⟨h0, by omega⟩ hn (ByteArray.ext (Array.ext' h')))
      rw [if_neg hne, w64 (x := y + 1) (by omega) (by omega)]
      obtain ⟨m, rfl⟩ : ∃ j, m = j + 1 := ⟨m - 1, by omega⟩
      exact exp_hit x hn m (y + 1) k (by omega) (by omega) (by omega)
theorem expV_two (x : ByteArray) {n : Int} (hn : -100 ≤ n ∧ n ≤ 100) : expV [x, itoB n] = n := by
  unfold expV vinculumref53_exponent.f
  rw [if_neg (by simp), exp_hit x hn (n + 100).toNat (-100) 300 (by omega) (by omega) (by omega)]
  rfl
end Go.Proofs.YtjnheoelcahkaaaDoor.Gv
