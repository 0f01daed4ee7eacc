/-
  unit.Parse gives a dimension back from its text.
-/
import Derived.Test.YtjnheoelcahkaaaDoorUnParse2
set_option linter.unusedVariables false
set_option linter.unusedSimpArgs false
namespace Go.Proofs.YtjnheoelcahkaaaDoor.Gv
open Go.RowKit Go.Proofs.YtjnheoelcahkaaaDoorW.PrintWords Go.Proofs.YtjnheoelcahkaaaDoorW.PrintLast Go.Proofs.YtjnheoelcahkaaaDoorW.PrintMore
set_option maxHeartbeats 1000000 in
theorem unit_Parse.one (w : World) :
    Calls Tryd.prog 30 #[.string ⟨#[49]⟩] w fun e w' => e = .returned (.tuple #[.agg (agg7 zeroD), .int .i64 0]) ∧ Below w.heap.size w w' := by
  have hb1 : ((⟨#[49]⟩ : ByteArray).toList == ([49] : List UInt8)) = true := by decide +kernel
  have hz : (((w.alloc (.cells (agg7 zeroD) 23)).alloc (.cells (agg7 zeroD) 23))).heap[w.heap.size]? = some (.cells (agg7 zeroD) 23 (0, 0)) := blk_alloc (blk_new _ _) _
  have HZ := Aside0.mk hz
  clear hz
  go_enter Tryd.func30, Tryd.ntmps30
  go_wp2
  exact bodyPost_ret (results_ct (p := 2) (u := 3) rfl _ _ w.heap.size 23 (agg7 zeroD) (0, 0) _ rfl HZ.out Tryd.underlying23 rfl (by kernel_rfl)) rfl ⟨rfl, ((Below.refl _ _).alloc (Nat.le_refl _) _).alloc (by simp) _⟩
theorem unit_Parse.any (s : ByteArray) (w : World) (hG : Ge w) (hs : s.size < 4000000000) :
    Calls Tryd.prog 30 #[.string s] w fun e w' => e = .returned (.tuple #[.agg (agg7 (parseD s (partsS 32 s)).1), .int .i64 (parseD s (partsS 32 s)).2]) ∧ Below w.heap.size w w' := by
  by_cases h : s = ⟨#[49]⟩
  · have := unit_Parse.one w
    unfold parseD
    rw [if_pos h, h]
    exact this
  · exact unit_Parse.many s w hG hs h
/-! ### small numbers as texts -/
theorem small_all {P : Int → Bool} (h : ((List.range 201).all fun i => P ((i : Int) - 100)) = true) {n : Int} (h0 : -100 ≤ n) (h1 : n ≤ 100) : P n = true := by
  have := List.all_eq_true.1 h (n + 100).toNat (List.mem_range.2 (by omega))
  have e : (((n + 100).toNat : Nat) : Int) - 100 = n := by omega
  rwa [e] at this
theorem num_itoa {n : Int} (h0 : -100 ≤ n) (h1 : n ≤ 100) : numO (Lib.itoa n) = some n := by
  have := small_all (P := fun n => decide (numO (Lib.itoa n) = some n)) (by decide +kernel) h0 h1
  simpa using this
theorem itoa_free {n : Int} (h0 : -100 ≤ n) (h1 : n ≤ 100) : (32 : UInt8) ∉ Lib.itoa n ∧ (94 : UInt8) ∉ Lib.itoa n := by
  have := small_all (P := fun n => decide ((32 : UInt8) ∉ Lib.itoa n ∧ (94 : UInt8) ∉ Lib.itoa n)) (by decide +kernel) h0 h1
  simpa using this
theorem base_free {k : Nat} (hk : k < 7) : (32 : UInt8) ∉ (baseN k).data.toList ∧ (94 : UInt8) ∉ (baseN k).data.toList ∧ idxS baseL (baseN k) = (k : Int) := by
  rcases lt7 hk with rfl | rfl | rfl | rfl | rfl | rfl | rfl <;> decide +kernel
theorem mk_data (b : ByteArray) : (⟨b.data.toList.toArray⟩ : ByteArray) = b := by simp
theorem step_one (d : Nat → Int) {k : Nat} (hk : k < 7) : stepD d (baseN k) = some (updD d k 1) := by
  obtain ⟨_, h2, h3⟩ := base_free hk
  unfold stepD
  rw [Spl.cut_none h2]
  simp only [mk_data, h3]
  rw [if_neg (by omega), if_neg (by decide)]
  rfl
theorem step_num (d : Nat → Int) {k : Nat} (hk : k < 7) {n : Int} (h0 : -100 ≤ n) (h1 : n ≤ 100) : stepD d (baseN k ++ ⟨#[94]⟩ ++ ⟨(Lib.itoa n).toArray⟩) = some (updD d k n) := by
  obtain ⟨_, h2, h3⟩ := base_free hk
  have e : (baseN k ++ ⟨#[94]⟩ ++ ⟨(Lib.itoa n).toArray⟩ : ByteArray).data.toList = (baseN k).data.toList ++ 94 :: Lib.itoa n := by simp
  unfold stepD
  rw [e, Spl.cut_some h2]
  simp only [mk_data, h3]
  rw [if_neg (by omega), if_pos trivial, num_itoa h0 h1]
  rfl
/-- the dimension at its first places, zero at the others -/
def cutD (d : Nat → Int) (n j : Nat) : Int := if j < n then d j else 0
theorem fold_parts (d : Nat → Int) (hd : dimB d = true) : ∀ n, n ≤ 7 → foldD zeroD (partsD d n) = some (cutD d n)
  | 0, _ => by
    show some zeroD = some (cutD d 0)
    congr 1
  | n + 1, hn => by
    have ih := fold_parts d hd n (by omega)
    have hok := okD_le ((dimB_iff d).1 hd n (by omega))
    have hup : ∀ v, v = d n → updD (cutD d n) n v = cutD d (n + 1) := by
      rintro v rfl
      funext j
      unfold updD cutD
      by_cases e : j = n
      · subst e; rw [if_pos rfl, if_pos (by omega)]
      · rw [if_neg e]
        by_cases h : j < n
        · rw [if_pos h, if_pos (by omega)]
        · rw [if_neg h, if_neg (by omega)]
    show foldD zeroD (partsD d n ++ partD d n) = _
    unfold partD
    by_cases h0 : d n = 0
    · rw [if_pos h0, List.append_nil, ih]
      congr 1
      funext j
      unfold cutD
      by_cases h : j < n
      · rw [if_pos h, if_pos (by omega)]
      · rw [if_neg h]
        by_cases e : j = n
        · subst e; rw [if_pos (by omega), h0]
        · rw [if_neg (by omega)]
    · rw [if_neg h0]
      by_cases h1 : d n = 1
      · rw [if_pos h1, foldD_snoc, ih]
        show stepD (cutD d n) (baseN n) = _
        rw [step_one _ (by omega), hup 1 h1.symm]
      · rw [if_neg h1, foldD_snoc, ih]
        show stepD (cutD d n) _ = _
        rw [step_num _ (by omega) hok.1 hok.2, hup _ rfl]
theorem partD_free (d : Nat → Int) (hd : dimB d = true) {k : Nat} (hk : k < 7) : ∀ x ∈ partD d k, (32 : UInt8) ∉ x.data.toList := by
  obtain ⟨h1, _, _⟩ := base_free hk
  have hok := okD_le ((dimB_iff d).1 hd k hk)
  unfold partD
  intro x hx
  split at hx
  · cases hx
  · split at hx
    · rw [List.mem_singleton] at hx; subst hx; exact h1
    · rw [List.mem_singleton] at hx
      subst hx
      have e : (baseN k ++ ⟨#[94]⟩ ++ ⟨(Lib.itoa (d k)).toArray⟩ : ByteArray).data.toList = (baseN k).data.toList ++ 94 :: Lib.itoa (d k) := by simp
      rw [e, List.mem_append, List.mem_cons]
      rintro (h | h | h)
      · exact h1 h
      · revert h; decide
      · exact (itoa_free hok.1 hok.2).1 h
theorem partsD_free (d : Nat → Int) (hd : dimB d = true) : ∀ k, k ≤ 7 → ∀ x ∈ partsD d k, (32 : UInt8) ∉ x.data.toList
  | 0, _, x, hx => by cases hx
  | k + 1, hk, x, hx => by
    rcases List.mem_append.1 hx with h | h
    · exact partsD_free d hd k (by omega) x h
    · exact partD_free d hd (by omega) x h
theorem partsD_nil (d : Nat → Int) : ∀ k, k ≤ 7 → partsD d k = [] → ∀ j, j < k → d j = 0
  | 0, _, _, j, hj => by omega
  | k + 1, hk, h, j, hj => by
    obtain ⟨h1, h2⟩ := List.append_eq_nil_iff.1 (show partsD d k ++ partD d k = [] from h)
    by_cases e : j = k
    · subst e
      unfold partD at h2
      split at h2
      · assumption
      · split at h2 <;> cases h2
    · exact partsD_nil d k (by omega) h1 j (by omega)
theorem text_parts (d : Nat → Int) (hd : dimB d = true) (hz : eqD d zeroD = false) : textD d = ⟨(joinB (partsD d 7) ⟨#[32]⟩).toArray⟩ ∧ partsS 32 (textD d) = partsD d 7 := by
  have e : textD d = ⟨(joinB (partsD d 7) ⟨#[32]⟩).toArray⟩ := by
    unfold textD
    rw [if_pos hd, if_neg (by rw [hz]; decide)]
  refine ⟨e, ?_⟩
  have hne : partsD d 7 ≠ [] := fun h => by
    have := (eqD_iff d zeroD).2 (fun j hj => partsD_nil d 7 (Nat.le_refl _) h j hj)
    rw [hz] at this; cases this
  rw [e]
  unfold partsS joinB
  show List.map _ (Spl.splitL 32 (Lib.join ((partsD d 7).map (·.data.toList)) [32]).toArray.toList) = _
  rw [List.toList_toArray, Spl.splitL_join _ (by simpa using hne) (by
    intro p hp
    obtain ⟨x, hx, rfl⟩ := List.mem_map.1 hp
    exact partsD_free d hd 7 (Nat.le_refl _) x hx), List.map_map]
  have : ((fun p : List UInt8 => (⟨p.toArray⟩ : ByteArray)) ∘ fun x : ByteArray => x.data.toList) = id := by
    funext x; simp
  rw [this, List.map_id]
theorem partD_congr {d d' : Nat → Int} {k : Nat} (h : d k = d' k) : partD d k = partD d' k := by unfold partD; rw [h]
theorem partsD_congr {d d' : Nat → Int} : ∀ k, (∀ j, j < k → d j = d' j) → partsD d k = partsD d' k
  | 0, _ => rfl
  | k + 1, h => by
    show partsD d k ++ partD d k = partsD d' k ++ partD d' k
    rw [partsD_congr k (fun j hj => h j (by omega)), partD_congr (h k (by omega))]
theorem dimB_congr' {p q : Nat → Int} (h : ∀ j, j < 7 → p j = q j) : dimB p = dimB q := by
  rw [Bool.eq_iff_iff, dimB_iff, dimB_iff]
  exact ⟨fun g j hj => by rw [← h j hj]; exact g j hj, fun g j hj => by rw [h j hj]; exact g j hj⟩
theorem textD_congr {d d' : Nat → Int} (h : ∀ j, j < 7 → d j = d' j) : textD d = textD d' := by
  have h1 := dimB_congr' h
  have h2 : eqD d zeroD = eqD d' zeroD := by
    rw [Bool.eq_iff_iff, eqD_iff, eqD_iff]
    exact ⟨fun g j hj => by rw [← h j hj]; exact g j hj, fun g j hj => by rw [h j hj]; exact g j hj⟩
  unfold textD
  rw [h1, h2, partsD_congr 7 h]
theorem cutD_at (d : Nat → Int) : ∀ j, j < 7 → cutD d 7 j = d j := fun j hj => if_pos hj
/-- no part is the text 1 -/
theorem text_not_one (d : Nat → Int) (hd : dimB d = true) (hz : eqD d zeroD = false) : textD d ≠ ⟨#[49]⟩ := by
  intro h
  have h1 := (text_parts d hd hz).2
  rw [h] at h1
  have h2 := fold_parts d hd 7 (Nat.le_refl _)
  rw [← h1] at h2
  have h3 : foldD zeroD (partsS 32 ⟨#[49]⟩) = none := by
    have : partsS 32 ⟨#[49]⟩ = [⟨#[49]⟩] := by decide +kernel
    rw [this]
    show (stepD zeroD ⟨#[49]⟩).bind _ = none
    have : stepD zeroD ⟨#[49]⟩ = none := by
      unfold stepD
      rw [if_pos (by decide +kernel)]
    rw [this]; rfl
  rw [h3] at h2
  cases h2
/-- Parse of a text -/
theorem parse_text (d : Nat → Int) (hd : dimB d = true) : (parseD (textD d) (partsS 32 (textD d))).2 = 0 ∧ eqD (parseD (textD d) (partsS 32 (textD d))).1 d = true := by
  cases hz : eqD d zeroD with
  | true =>
    have e : textD d = ⟨#[49]⟩ := by unfold textD; rw [if_pos hd, if_pos hz]
    unfold parseD
    rw [e, if_pos rfl]
    exact ⟨rfl, (eqD_iff _ _).2 (fun j hj => ((eqD_iff _ _).1 hz j hj).symm)⟩
  | false =>
    have h1 := text_not_one d hd hz
    have h2 := fold_parts d hd 7 (Nat.le_refl _)
    have h3 : dimB (cutD d 7) = true ∧ textD (cutD d 7) = textD d := ⟨by rw [dimB_congr' (cutD_at d)]; exact hd, textD_congr (cutD_at d)⟩
    unfold parseD
    rw [if_neg h1, (text_parts d hd hz).2, h2]
    show (if dimB (cutD d 7) = true ∧ textD (cutD d 7) = textD d then (cutD d 7, (0 : Int)) else (zeroD, 3)).2 = 0 ∧ eqD (if dimB (cutD d 7) = true ∧ textD (cutD d 7) = textD d then (cutD d 7, (0 : Int)) else (zeroD, 3)).1 d = true
    rw [if_pos h3]
    exact ⟨rfl, (eqD_iff _ _).2 (cutD_at d)⟩
theorem parse_empty : parseD ⟨#[]⟩ (partsS 32 ⟨#[]⟩) = (zeroD, 3) := by
  have h1 : (⟨#[]⟩ : ByteArray) ≠ ⟨#[49]⟩ := by decide
  have h2 : partsS 32 ⟨#[]⟩ = [⟨#[]⟩] := by decide +kernel
  have h3 : stepD zeroD ⟨#[]⟩ = none := by
    unfold stepD
    rw [if_pos (by decide +kernel)]
  have h4 : foldD zeroD [⟨#[]⟩] = none := by
    show (stepD zeroD ⟨#[]⟩).bind _ = none
    rw [h3]; rfl
  unfold parseD
  rw [if_neg h1, h2, h4]
theorem textD_size (d : Nat → Int) : (textD d).size ≤ 217 := by
  unfold textD
  by_cases hd : dimB d = true
  · rw [if_pos hd]
    split
    · decide
    · have h1 := joinB_le ⟨#[32]⟩ 30 (partsD d 7) (partsD_le d hd 7 (Nat.le_refl _))
      have h2 := partsD_size d 7
      have e : (⟨#[32]⟩ : ByteArray).size = 1 := rfl
      rw [e] at h1
      have h3 : (partsD d 7).length * (30 + 1) ≤ 7 * 31 := Nat.mul_le_mul_right _ h2
      show (joinB (partsD d 7) ⟨#[32]⟩).toArray.size ≤ 217
      rw [List.size_toArray]; omega
  · rw [if_neg hd]; decide
theorem unit_Text.full (d : Nat → Int) (w : World) (hG : Gw w) :
    Calls Tryd.prog 29 #[.agg (agg7 d)] w fun e w' => e = .returned (.string (textD d)) ∧ Below w.heap.size w w' := by
  cases hd : dimB d with
  | true => exact unit_Text.all d hd w hG
  | false =>
    have e : textD d = ⟨#[]⟩ := by unfold textD; rw [if_neg (by rw [hd]; decide)]
    rw [e]; exact unit_Text.no d w hd
end Go.Proofs.YtjnheoelcahkaaaDoor.Gv
