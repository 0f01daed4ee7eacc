/-
  vinculumref53.Text: the same text.
-/
import Derived.Test.YtjnheoelcahkaaaDoorUnParse3
import Derived.Test.YtjnheoelcahkaaaDoorUnRefP
import Derived.Test.YtjnheoelcahkaaaDoorYx1
set_option linter.unusedVariables false
set_option linter.unusedSimpArgs false
namespace Go.Proofs.YtjnheoelcahkaaaDoor.Gv
open Go.RowKit Go.Proofs.YtjnheoelcahkaaaDoorW.PrintWords Go.Proofs.YtjnheoelcahkaaaDoorW.PrintLast Go.Proofs.YtjnheoelcahkaaaDoorW.PrintMore
def itoB (n : Int) : ByteArray := ⟨(Lib.itoa n).toArray⟩
theorem number_small {n : Int} (h0 : -100 ≤ n) (h1 : n ≤ 100) : Go.Proofs.YtjnheoelcahkaaaDoor.Y.vinculumref01_Number.f 6 n = some (itoB n) := by
  have := small_all (P := fun n => decide (Go.Proofs.YtjnheoelcahkaaaDoor.Y.vinculumref01_Number.f 6 n = some (itoB n))) (by decide +kernel) h0 h1
  simpa using this
theorem number_any {n : Int} (h0 : -100 ≤ n) (h1 : n ≤ 100) (w : World) :
    Calls Tryd.prog 60 #[.int .i64 n] w fun e w' => e = .returned (.string (itoB n)) ∧ Below w.heap.size w w' :=
  Go.Proofs.YtjnheoelcahkaaaDoor.Y.vinculumref01_Number.calls 6 n _ w (number_small h0 h1)
theorem vinculumref53_bases.any (w : World) : Calls Tryd.prog 41 #[] w fun e w' => e = .returned basesV ∧ Below w.heap.size w w' := by
  go_enter Tryd.func41, Tryd.ntmps41
  go_wp2
  exact bodyPost_ret (results_cell_row rfl _ _ w.heap.size 71 #[.string ⟨#[109]⟩, .string ⟨#[107, 103]⟩, .string ⟨#[115]⟩, .string ⟨#[65]⟩, .string ⟨#[75]⟩, .string ⟨#[109, 111, 108]⟩, .string ⟨#[99, 100]⟩] (0, 0) _ rfl (blk_new _ _) Tryd.underlying71 rfl (by kernel_rfl)) rfl ⟨rfl, (Below.refl _ _).alloc (Nat.le_refl _) _⟩
/-- the text so far -/
def accD (d : Nat → Int) (k : Nat) : ByteArray := ⟨(joinB (partsD d k) ⟨#[32]⟩).toArray⟩
theorem joinB_snoc (p : ByteArray) : ∀ l : List ByteArray, l ≠ [] → joinB (l ++ [p]) ⟨#[32]⟩ = joinB l ⟨#[32]⟩ ++ 32 :: p.data.toList
  | [], h => absurd rfl h
  | [x], _ => by simp [joinB, Lib.join_cons, Lib.join_one, Lib.joinTail]
  | x :: y :: r, _ => by
    have ih := joinB_snoc p (y :: r) (by simp)
    unfold joinB at ih ⊢
    rw [List.cons_append, List.map_cons, List.map_cons, Lib.join_cons, Lib.join_cons]
    simp only [Lib.joinTail, List.map_append, List.map_cons, List.map_nil, List.flatten_append, List.flatten_cons, List.flatten_nil, List.append_assoc, List.append_nil]
    rfl
theorem accD_size (d : Nat → Int) (hd : dimB d = true) (k : Nat) (hk : k ≤ 7) : (accD d k).size ≤ 217 := by
  have h1 := joinB_le ⟨#[32]⟩ 30 (partsD d k) (partsD_le d hd k hk)
  have h2 := partsD_size d k
  have e : (⟨#[32]⟩ : ByteArray).size = 1 := rfl
  rw [e] at h1
  have h3 : (partsD d k).length * (30 + 1) ≤ 7 * 31 := Nat.mul_le_mul_right _ (by omega)
  show (joinB (partsD d k) ⟨#[32]⟩).toArray.size ≤ 217
  rw [List.size_toArray]; omega
theorem baseN_ne (k : Nat) : (baseN k).data.toList ≠ [] := by unfold baseN; split <;> decide
theorem partD_ne (d : Nat → Int) (k : Nat) : ∀ x ∈ partD d k, x.data.toList ≠ [] := by
  have hb := baseN_ne k
  unfold partD
  intro x hx
  split at hx
  · cases hx
  · split at hx
    · rw [List.mem_singleton] at hx; subst hx; exact hb
    · rw [List.mem_singleton] at hx
      subst hx
      simp
theorem partsD_ne (d : Nat → Int) : ∀ k, ∀ x ∈ partsD d k, x.data.toList ≠ []
  | 0, x, hx => by cases hx
  | k + 1, x, hx => by
    rcases List.mem_append.1 hx with h | h
    · exact partsD_ne d k x h
    · exact partD_ne d k x h
theorem accD_empty (d : Nat → Int) (k : Nat) : (accD d k).toList = [] ↔ partsD d k = [] := by
  rw [ByteArray.toList_eq]
  show (joinB (partsD d k) ⟨#[32]⟩).toArray.toList = [] ↔ _
  rw [List.toList_toArray]
  constructor
  · intro h
    cases hp : partsD d k with
    | nil => rfl
    | cons x r =>
      have hx := partsD_ne d k x (by rw [hp]; simp)
      rw [hp] at h
      unfold joinB at h
      rw [List.map_cons, Lib.join_cons] at h
      exact absurd (List.append_eq_nil_iff.1 h).1 hx
  · intro h
    rw [h]; rfl
theorem accD_zero (d : Nat → Int) {k : Nat} (h : d k = 0) : accD d (k + 1) = accD d k := by
  unfold accD
  have : partsD d (k + 1) = partsD d k := by
    show partsD d k ++ partD d k = _
    unfold partD; rw [if_pos h, List.append_nil]
  rw [this]
theorem mk_ext {l : List UInt8} {b : ByteArray} (h : l = b.data.toList) : (⟨l.toArray⟩ : ByteArray) = b := by
  subst h; exact mk_data b
theorem accD_first (d : Nat → Int) {k : Nat} (h : ¬ d k = 0) (he : (accD d k).toList = []) : accD d (k + 1) = if d k = 1 then accD d k ++ baseN k else accD d k ++ baseN k ++ (⟨#[94]⟩ ++ itoB (d k)) := by
  have hp := (accD_empty d k).1 he
  have ha : (accD d k).data.toList = [] := by rw [ByteArray.toList_eq] at he; exact he
  unfold accD at ha ⊢
  have : partsD d (k + 1) = partD d k := by
    show partsD d k ++ partD d k = _
    rw [hp]; rfl
  rw [this]
  unfold partD
  rw [if_neg h]
  split
  · refine mk_ext ?_
    rw [ByteArray.data_append, Array.toList_append, ha]
    simp [joinB, Lib.join_one]
  · refine mk_ext ?_
    rw [ByteArray.data_append, Array.toList_append, ByteArray.data_append, Array.toList_append, ha]
    simp [joinB, Lib.join_one, itoB]
theorem accD_next (d : Nat → Int) {k : Nat} (h : ¬ d k = 0) (he : (accD d k).toList ≠ []) : accD d (k + 1) = if d k = 1 then accD d k ++ ⟨#[32]⟩ ++ baseN k else accD d k ++ ⟨#[32]⟩ ++ baseN k ++ (⟨#[94]⟩ ++ itoB (d k)) := by
  have hp : partsD d k ≠ [] := fun e => he ((accD_empty d k).2 e)
  unfold accD
  split
  · have : partsD d (k + 1) = partsD d k ++ [baseN k] := by
      show partsD d k ++ partD d k = _
      unfold partD; rw [if_neg h, if_pos (by assumption)]
    rw [this, joinB_snoc _ _ hp]
    refine mk_ext ?_
    simp
  · have : partsD d (k + 1) = partsD d k ++ [baseN k ++ ⟨#[94]⟩ ++ itoB (d k)] := by
      show partsD d k ++ partD d k = _
      unfold partD; rw [if_neg h, if_neg (by assumption)]; rfl
    rw [this, joinB_snoc _ _ hp]
    refine mk_ext ?_
    simp [itoB]
theorem textD_acc (d : Nat → Int) (hd : dimB d = true) : textD d = if (accD d 7).toList = [] then ⟨#[49]⟩ else accD d 7 := by
  unfold textD
  rw [if_pos hd]
  cases hz : eqD d zeroD with
  | true =>
    rw [if_pos rfl, if_pos]
    rw [accD_empty]
    have h := (eqD_iff d zeroD).1 hz
    have : ∀ k, k ≤ 7 → partsD d k = [] := by
      intro k
      induction k with
      | zero => intro _; rfl
      | succ k ih =>
        intro hk
        show partsD d k ++ partD d k = []
        rw [ih (by omega)]
        unfold partD
        rw [if_pos (show d k = 0 from h k (by omega))]; rfl
    exact this 7 (Nat.le_refl _)
  | false =>
    rw [if_neg (by decide), if_neg]
    · rfl
    · rw [accD_empty]
      intro h
      have := (eqD_iff d zeroD).2 (fun j hj => partsD_nil d 7 (Nat.le_refl _) h j hj)
      rw [hz] at this; cases this
set_option maxHeartbeats 4000000 in
set_option maxRecDepth 1000000 in
theorem vinculumref53_Text.good (d : Nat → Int) (hd : dimB d = true) (w : World) :
    Calls Tryd.prog 33 #[.agg (agg7 d)] w fun e w' => e = .returned (.string (textD d)) ∧ Below w.heap.size w w' := by
  have va := vinculumref53_Valid.is d _ hd
  have HD := Aside0.mk hd
  clear hd
  go_enter Tryd.func33, Tryd.ntmps33
  go_wp2_with fail
  refine (va _).mono ?_
  rintro e w1 ⟨rfl, hb1⟩
  have X1 := Aside0.mk (box_block hb1)
  have B1 := Aside0.mk (box_below hb1)
  clear hb1 va
  go_wp2
  go_loopw [3, 4] (fun s i wr => ∃ k : Nat, k ≤ 7 ∧ i = .int .i64 k ∧ s = .string (accD d k) ∧ Aside0 (Box7 wr w.heap.size d) ∧ Aside0 (Below w.heap.size w wr)) (fun _ i _ => 7 - (intOf i).toNat)
  case atStart => exact ⟨0, Nat.zero_le _, rfl, rfl, X1, B1⟩
  case round =>
    clear X1 B1
    obtain ⟨k, hk, rfl, rfl, X, BW⟩ := hrel
    have hsz := accD_size d HD.out k hk
    by_cases hlt : k < 7
    · have ix := bases_at k hlt
      have hl0 : (0 : Int) ≤ (k : Int) := by omega
      have hl7 : (k : Int) < 7 := by omega
      have hx := cell7 X.out hlt
      have hok := okD_le ((dimB_iff d).1 HD.out k hlt)
      have hbs := baseN_size k
      by_cases h0 : d k = 0
      · have e0 : (d k == 0) = true := beq_iff_eq.2 h0
        have HP := Aside0.mk (accD_zero d h0)
        clear h0 hok
        go_wp2
        go_roundw
        case rel => exact ⟨k + 1, by omega, by go_num, by rw [HP.out], X, BW⟩
        case measure => simp [intOf]; omega
      · have e0 : (d k == 0) = false := beq_eq_false_iff_ne.2 h0
        have his : (itoB (d k)).size ≤ 21 := by
          have := Lib.itoa_length_le (d k) (by omega) (by omega)
          show (Lib.itoa (d k)).toArray.size ≤ 21
          rw [List.size_toArray]; omega
        have num := fun W => number_any hok.1 hok.2 W
        have NUM := Aside0.mk num
        clear num
        by_cases he : (accD d k).toList = []
        · have hac := accD_first d h0 he
          have e1 : ((accD d k).toList == ([] : List UInt8)) = true := beq_iff_eq.2 he
          have e2 : ((accD d k).toList != ([] : List UInt8)) = false := by rw [bne, e1]; rfl
          have e3 : (accD d k).toList.isEmpty = true := by rw [he]; rfl
          by_cases h1 : d k = 1
          · rw [if_pos h1] at hac
            have k1 : (d k != 1) = false := by rw [h1]; rfl
            have HP := Aside0.mk hac
            clear hac h1 h0 hok he
            generalize accD d k = ac at *
            generalize baseN k = bn at *
            go_wp2_with fail
            refine (vinculumref53_bases.any _).mono ?_
            rintro e w3 ⟨rfl, hb3⟩
            have X3 := Aside0.mk (blk_below X.out hb3)
            have B3 := Aside0.mk (keepB hb3 BW.out)
            clear hb3 hx X BW
            have hx := cell7 X3.out hlt
            go_wp2
            go_roundw
            case rel => exact ⟨k + 1, by omega, by go_num, by rw [HP.out], X3, B3⟩
            case measure => simp [intOf]; omega
          · rw [if_neg h1] at hac
            have k1 : (d k != 1) = true := by rw [bne_iff_ne]; exact h1
            have HP := Aside0.mk hac
            clear hac h1 h0 hok he
            generalize accD d k = ac at *
            generalize baseN k = bn at *
            generalize itoB (d k) = it at *
            go_wp2_with fail
            refine (vinculumref53_bases.any _).mono ?_
            rintro e w3 ⟨rfl, hb3⟩
            have X3 := Aside0.mk (blk_below X.out hb3)
            have B3 := Aside0.mk (keepB hb3 BW.out)
            clear hb3 hx X BW
            have hx := cell7 X3.out hlt
            go_wp2_with fail
            refine (NUM.out _).mono ?_
            rintro e w4 ⟨rfl, hb4⟩
            have X4 := Aside0.mk (blk_below X3.out hb4)
            have B4 := Aside0.mk (keepB hb4 B3.out)
            clear hb4 hx
            go_wp2
            go_roundw
            case rel => exact ⟨k + 1, by omega, by go_num, by rw [HP.out], X4, B4⟩
            case measure => simp [intOf]; omega
        · have hac := accD_next d h0 he
          have e1 : ((accD d k).toList == ([] : List UInt8)) = false := beq_eq_false_iff_ne.2 he
          have e2 : ((accD d k).toList != ([] : List UInt8)) = true := by rw [bne, e1]; rfl
          have e3 : (accD d k).toList.isEmpty = false := by
            cases hl : (accD d k).toList with
            | nil => exact absurd hl he
            | cons x r => rfl
          by_cases h1 : d k = 1
          · rw [if_pos h1] at hac
            have k1 : (d k != 1) = false := by rw [h1]; rfl
            have HP := Aside0.mk hac
            clear hac h1 h0 hok he
            generalize accD d k = ac at *
            generalize baseN k = bn at *
            have hs1 : (⟨#[32]⟩ : ByteArray).size = 1 := rfl
            go_wp2_with fail
            refine (vinculumref53_bases.any _).mono ?_
            rintro e w3 ⟨rfl, hb3⟩
            have X3 := Aside0.mk (blk_below X.out hb3)
            have B3 := Aside0.mk (keepB hb3 BW.out)
            clear hb3 hx X BW
            have hx := cell7 X3.out hlt
            go_wp2
            go_roundw
            case rel => exact ⟨k + 1, by omega, by go_num, by rw [HP.out], X3, B3⟩
            case measure => simp [intOf]; omega
          · rw [if_neg h1] at hac
            have k1 : (d k != 1) = true := by rw [bne_iff_ne]; exact h1
            have HP := Aside0.mk hac
            clear hac h1 h0 hok he
            generalize accD d k = ac at *
            generalize baseN k = bn at *
            generalize itoB (d k) = it at *
            have hs1 : (⟨#[32]⟩ : ByteArray).size = 1 := rfl
            go_wp2_with fail
            refine (vinculumref53_bases.any _).mono ?_
            rintro e w3 ⟨rfl, hb3⟩
            have X3 := Aside0.mk (blk_below X.out hb3)
            have B3 := Aside0.mk (keepB hb3 BW.out)
            clear hb3 hx X BW
            have hx := cell7 X3.out hlt
            go_wp2_with fail
            refine (NUM.out _).mono ?_
            rintro e w4 ⟨rfl, hb4⟩
            have X4 := Aside0.mk (blk_below X3.out hb4)
            have B4 := Aside0.mk (keepB hb4 B3.out)
            clear hb4 hx
            go_wp2
            go_roundw
            case rel => exact ⟨k + 1, by omega, by go_num, by rw [HP.out], X4, B4⟩
            case measure => simp [intOf]; omega
    · have hk7 : k = 7 := by omega
      subst hk7
      clear hlt hk
      have hfin := textD_acc d HD.out
      by_cases he : (accD d 7).toList = []
      · rw [if_pos he] at hfin
        have HP := Aside0.mk hfin
        have e1 : ((accD d 7).toList == ([] : List UInt8)) = true := beq_iff_eq.2 he
        have e3 : (accD d 7).toList.isEmpty = true := by rw [he]; rfl
        clear hfin he
        generalize accD d 7 = ac at *
        go_wp2
        go_ret
        exact ⟨by rw [HP.out]; rfl, BW.out⟩
      · rw [if_neg he] at hfin
        have HP := Aside0.mk hfin
        have e1 : ((accD d 7).toList == ([] : List UInt8)) = false := beq_eq_false_iff_ne.2 he
        have e3 : (accD d 7).toList.isEmpty = false := by
          cases hl : (accD d 7).toList with
          | nil => exact absurd hl he
          | cons x r => rfl
        clear hfin he
        generalize accD d 7 = ac at *
        go_wp2
        go_ret
        exact ⟨by rw [HP.out]; rfl, BW.out⟩
end Go.Proofs.YtjnheoelcahkaaaDoor.Gv
