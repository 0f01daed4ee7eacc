/-
  UnitParse: the two readings agree; the walk.
-/
import Derived.Test.YtjnheoelcahkaaaDoorUnRParse
set_option linter.unusedVariables false
set_option linter.unusedSimpArgs false
namespace Go.Proofs.YtjnheoelcahkaaaDoor.Gv
open Go.RowKit Go.Proofs.YtjnheoelcahkaaaDoorW.PrintWords Go.Proofs.YtjnheoelcahkaaaDoorW.PrintLast Go.Proofs.YtjnheoelcahkaaaDoorW.PrintMore
theorem base_same {j n : Nat} (hj : j < 7) (hn : n < 7) : ((baseN j).toList == (baseN n).toList) = decide (j = n) := by
  rcases lt7 hj with rfl | rfl | rfl | rfl | rfl | rfl | rfl <;> rcases lt7 hn with rfl | rfl | rfl | rfl | rfl | rfl | rfl <;> decide +kernel
theorem parts_one {n : Nat} (hn : n < 7) : partsS 94 (baseN n) = [baseN n] := by
  unfold partsS
  rw [Spl.splitL_none (base_free hn).2.1]
  simp
theorem parts_two {n : Nat} (hn : n < 7) {v : Int} (h0 : -100 ≤ v) (h1 : v ≤ 100) : partsS 94 (baseN n ++ ⟨#[94]⟩ ++ ⟨(Lib.itoa v).toArray⟩) = [baseN n, itoB v] := by
  have e : (baseN n ++ ⟨#[94]⟩ ++ ⟨(Lib.itoa v).toArray⟩ : ByteArray).data.toList = (baseN n).data.toList ++ 94 :: Lib.itoa v := by simp
  unfold partsS
  rw [e, Spl.splitL_cut _ (base_free hn).2.1, Spl.splitL_none (itoa_free h0 h1).2]
  simp [itoB]
theorem stepR_part (d : Nat → Int) {n : Nat} (hn : n < 7) {w : List ByteArray} (h0 : nthS w 0 = baseN n) : innerD d w 7 = updD d n (expV w) := by
  funext j
  unfold innerD updD
  rw [h0]
  by_cases e : j = n
  · subst e
    rw [if_pos ⟨hn, by rw [base_same hn hn]; simp⟩, if_pos rfl]
  · rw [if_neg e, if_neg]
    rintro ⟨h1, h2⟩
    rw [base_same h1 hn] at h2
    exact e (of_decide_eq_true h2)
theorem cutD_upd (d : Nat → Int) (n : Nat) : updD (cutD d n) n (d n) = cutD d (n + 1) := by
  funext j
  unfold updD cutD
  by_cases e : j = n
  · subst e; rw [if_pos rfl, if_pos (by omega)]
  · rw [if_neg e]
    by_cases h : j < n
    · rw [if_pos h, if_pos (by omega)]
    · rw [if_neg h, if_neg (by omega)]
theorem cutD_skip (d : Nat → Int) {n : Nat} (h0 : d n = 0) : cutD d n = cutD d (n + 1) := by
  rw [← cutD_upd]
  funext j
  unfold updD
  by_cases e : j = n
  · subst e
    rw [if_pos rfl, h0]
    exact if_neg (Nat.lt_irrefl _)
  · rw [if_neg e]
theorem foldR_parts (d : Nat → Int) (hd : dimB d = true) : ∀ n, n ≤ 7 → foldR (partsD d n) = cutD d n
  | 0, _ => by
    show zeroD = cutD d 0
    funext j
    exact (if_neg (Nat.not_lt_zero j)).symm
  | n + 1, hn => by
    have ih := foldR_parts d hd n (by omega)
    have hok := okD_le ((dimB_iff d).1 hd n (by omega))
    have e : foldR (partsD d (n + 1)) = (partD d n).foldl stepR (foldR (partsD d n)) := by
      show (partsD d n ++ partD d n).foldl stepR zeroD = _
      rw [List.foldl_append]; rfl
    rw [e, ih]
    unfold partD
    by_cases h0 : d n = 0
    · rw [if_pos h0]
      exact cutD_skip d h0
    · rw [if_neg h0]
      by_cases h1 : d n = 1
      · rw [if_pos h1]
        show innerD (cutD d n) (partsS 94 (baseN n)) 7 = _
        rw [parts_one (by omega), stepR_part _ (n := n) (by omega) rfl, expV_one, ← cutD_upd, h1]
      · rw [if_neg h1]
        show innerD (cutD d n) (partsS 94 (baseN n ++ ⟨#[94]⟩ ++ ⟨(Lib.itoa (d n)).toArray⟩)) 7 = _
        rw [parts_two (by omega) hok.1 hok.2, stepR_part _ (n := n) (by omega) rfl, expV_two _ hok, cutD_upd]
theorem foldR_text (d : Nat → Int) (hd : dimB d = true) : ∀ j, j < 7 → foldR (partsS 32 (textD d)) j = d j := by
  cases hz : eqD d zeroD with
  | true =>
    have e : textD d = ⟨#[49]⟩ := by unfold textD; rw [if_pos hd, if_pos hz]
    have h2 : partsS 32 ⟨#[49]⟩ = [⟨#[49]⟩] := by decide +kernel
    intro j hj
    rw [e, h2]
    have h3 := (eqD_iff d zeroD).1 hz j hj
    rw [h3]
    show innerD zeroD (partsS 94 ⟨#[49]⟩) 7 j = zeroD j
    have h4 : partsS 94 ⟨#[49]⟩ = [⟨#[49]⟩] := by decide +kernel
    rw [h4]
    unfold innerD
    rw [if_neg]
    rintro ⟨h5, h6⟩
    revert h6
    rcases lt7 hj with rfl | rfl | rfl | rfl | rfl | rfl | rfl <;> decide +kernel
  | false =>
    intro j hj
    rw [(text_parts d hd hz).2, foldR_parts d hd 7 (Nat.le_refl _), cutD_at d j hj]
theorem parse_same (s : ByteArray) : (parseD s (partsS 32 s)).2 = (parseR s).2 ∧ eqD (parseD s (partsS 32 s)).1 (parseR s).1 = true ∧ ((parseR s).2 = 0 → textD (parseD s (partsS 32 s)).1 = s) := by
  have hv : dimB (foldR (partsS 32 s)) = true := foldR_dim (partsS 32 s) zeroD zeroD_dim
  by_cases h : textD (foldR (partsS 32 s)) = s
  · have hr : parseR s = (foldR (partsS 32 s), 0) := by unfold parseR; rw [if_pos h]
    rw [hr]
    have hp := parse_text _ hv
    rw [h] at hp
    refine ⟨hp.1, hp.2, fun _ => ?_⟩
    rw [textD_congr ((eqD_iff _ _).1 hp.2), h]
  · have hr : parseR s = (zeroD, 3) := by unfold parseR; rw [if_neg h]
    have hd : parseD s (partsS 32 s) = (zeroD, 3) := by
      unfold parseD
      by_cases h1 : s = ⟨#[49]⟩
      · exfalso
        apply h
        have := foldR_text zeroD zeroD_dim
        have e : textD zeroD = ⟨#[49]⟩ := by decide +kernel
        rw [e, ← h1] at this
        rw [textD_congr this, e, h1]
      · rw [if_neg h1]
        cases hf : foldD zeroD (partsS 32 s) with
        | none => rfl
        | some d =>
          show (if dimB d = true ∧ textD d = s then (d, (0 : Int)) else (zeroD, 3)) = _
          rw [if_neg]
          rintro ⟨h2, h3⟩
          apply h
          have := foldR_text d h2
          rw [h3] at this
          rw [textD_congr this, h3]
    rw [hr, hd]
    exact ⟨rfl, eqD_refl _, fun h => by cases h⟩
set_option maxHeartbeats 4000000 in
set_option maxRecDepth 1000000 in
theorem UnitParse.calls (s : ByteArray) (w : World) (hG : Ge w) (hs : s.size ≤ 140737488351232) :
    Calls Tryd.prog 10 #[.string s] w fun e w' => e = .returned (.bool true) ∧ Below w.heap.size w w' := by
  have ca := vinculumlaw53_awake.any w hG.g
  have CA := Aside0.mk ca
  have HG := Aside0.mk hG
  clear ca hG
  by_cases h200 : s.size ≤ 200
  · have c1 := fun W hW => unit_Parse.any s W hW (by omega)
    have c2 := fun W => vinculumref53_Parse.any s W (by omega)
    obtain ⟨p1, p2, p3⟩ := parse_same s
    generalize (parseD s (partsS 32 s)).1 = q at *
    generalize (parseD s (partsS 32 s)).2 = e at *
    generalize (parseR s).1 = r at *
    generalize (parseR s).2 = f at *
    subst p1
    have heq := fun W => eq7 q r W
    rw [p2] at heq
    have EQ := Aside0.mk heq
    have c3 := fun W hW => unit_Text.full q W hW
    have C3 := Aside0.mk c3
    have FACT := Aside0.mk p3
    clear p2 p3 heq c3
    go_enter Tryd.func10, Tryd.ntmps10
    go_wp2_with fail
    refine CA.out.mono ?_
    rintro e1 w1 ⟨rfl, hb1⟩
    have B1 := Aside0.mk hb1
    clear hb1
    go_wp2_with fail
    refine (c1 _ (Ge.below HG.out B1.out)).mono ?_
    rintro e w2 ⟨rfl, hb2⟩
    have B2 := Aside0.mk (keepB hb2 B1.out)
    clear hb2  B1
    go_wp2_with fail
    refine (c2 _).mono ?_
    rintro e w3 ⟨rfl, hb3⟩
    have P3 := Aside0.mk (blk_below (blk_new w2 (.cells (agg7 q) 23)) hb3)
    have B3 := Aside0.mk (keepB (box_below hb3) B2.out)
    clear hb3  B2
    clear c1 c2
    have heq := EQ.out
    by_cases he : e = 0
    · have hT := FACT.out he
      subst he
      have HT := Aside0.mk (show ((textD q).toList == s.toList) = true by rw [hT]; simp)
      clear hT FACT
      generalize textD q = tq at *
      obtain ⟨P_0, P_1, P_2, P_3, P_4, P_5, P_6⟩ := cells7 P3.out
      have lP := blk_lt P3.out
      have nP := Nat.ne_of_lt lP
      have mP := Ne.symm nP
      go_wp2_with fail
      refine (C3.out _ (Gw.below HG.out.g (B3.out.alloc B3.out.size _))).mono ?_
      rintro e w4 ⟨rfl, hb4⟩
      clear P_0 P_1 P_2 P_3 P_4 P_5 P_6 lP nP mP
      have P4 := Aside0.mk (blk_below (blk_alloc P3.out _) hb4)
      have R4 := Aside0.mk (blk_below (blk_new w3 (.cells (agg7 r) 23)) hb4)
      have B4 := Aside0.mk (keepB (box_below hb4) B3.out)
      clear hb4 P3 B3
      have ht := HT.out
      go_wp2
      go_ret
      exact ⟨rfl, B4.out⟩
    · have hne : (e != 0) = true := by simpa using he
      clear he FACT C3
      obtain ⟨P_0, P_1, P_2, P_3, P_4, P_5, P_6⟩ := cells7 P3.out
      have lP := blk_lt P3.out
      have nP := Nat.ne_of_lt lP
      have mP := Ne.symm nP
      go_wp2
      go_ret
      exact ⟨rfl, B3.out.alloc B3.out.size _⟩
  · have hlt : (200 : Int) < (s.size : Int) := by omega
    clear h200
    go_enter Tryd.func10, Tryd.ntmps10
    go_wp2_with fail
    refine CA.out.mono ?_
    rintro e1 w1 ⟨rfl, hb1⟩
    have B1 := Aside0.mk hb1
    clear hb1
    go_wp2
    go_ret
    exact ⟨rfl, B1.out⟩
end Go.Proofs.YtjnheoelcahkaaaDoor.Gv
