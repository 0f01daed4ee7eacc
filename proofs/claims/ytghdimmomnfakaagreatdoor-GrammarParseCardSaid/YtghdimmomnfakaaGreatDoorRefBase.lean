/-
  vinculumref49.Line: the line of a proper rule.
-/
import Derived.Test.YtghdimmomnfakaaGreatDoorReadBase
import Derived.Test.YtghdimmomnfakaaGreatDoorXx6
import Derived.Deep.RegionHeld3
import Derived.Test.YtghdimmomnfakaaGreatDoorXx3
set_option linter.unusedVariables false
set_option linter.unusedSimpArgs false
namespace Go.Proofs.YtghdimmomnfakaaGreatDoor.Gv
open Go.RowKit Go.Proofs.YtghdimmomnfakaaGreatDoorW.PrintWords Go.Proofs.YtghdimmomnfakaaGreatDoorW.PrintLast Go.Proofs.YtghdimmomnfakaaGreatDoorW.PrintMore
open Go.Proofs.YtghdimmomnfakaaGreatDoor.X (S31 k31 rd_T31 at_T31 z31)
open Go.Proofs.YtghdimmomnfakaaGreatDoor.Pure
theorem tens_all {P : Int → Bool} (h : ((List.range 102).all fun i => P (i : Int)) = true) {n : Int} (h0 : 0 ≤ n) (h1 : n ≤ 101) : P n = true := by
  rw [List.all_eq_true] at h
  have := h n.toNat (List.mem_range.2 (by omega))
  rwa [show ((n.toNat : Nat) : Int) = n by omega] at this
theorem digits_f {n : Int} (h0 : 0 ≤ n) (h1 : n ≤ 101) : Go.Proofs.YtghdimmomnfakaaGreatDoor.X.vinculumref01_Digits.f 6 n = some (itoaB n) := by
  have := tens_all (P := fun n => decide (Go.Proofs.YtghdimmomnfakaaGreatDoor.X.vinculumref01_Digits.f 6 n = some (itoaB n))) (by decide +kernel) h0 h1
  simpa using this
theorem digits_any {n : Int} (h0 : 0 ≤ n) (h1 : n ≤ 101) (w : World) :
    Calls Tryz.prog 46 #[.int .i64 n] w fun e w' => e = .returned (.string (itoaB n)) ∧ Below w.heap.size w w' :=
  Go.Proofs.YtghdimmomnfakaaGreatDoor.X.vinculumref01_Digits.calls 6 n _ w (digits_f h0 h1)
theorem lineS2 {W0 W W1 : World} {b : Nat} {x : S31} (h : W.cell? ⟨b, 3, none⟩ = some (.int .i64 x.f3) ∧ W.cell? ⟨b, 4, none⟩ = some (.int .i64 x.f4) ∧ W.cell? ⟨b, 5, none⟩ = some (.int .i64 x.f5) ∧ Below W0.heap.size W0 W) (hb : Below W.heap.size W W1) :
    W1.cell? ⟨b, 3, none⟩ = some (.int .i64 x.f3) ∧ W1.cell? ⟨b, 4, none⟩ = some (.int .i64 x.f4) ∧ W1.cell? ⟨b, 5, none⟩ = some (.int .i64 x.f5) ∧ Below W0.heap.size W0 W1 :=
  ⟨keepC hb h.1, keepC hb h.2.1, keepC hb h.2.2.1, keepB hb h.2.2.2⟩
theorem lineB_of {W0 W : World} {b : Nat} {x : S31} (h : W.cell? ⟨b, 3, none⟩ = some (.int .i64 x.f3) ∧ W.cell? ⟨b, 4, none⟩ = some (.int .i64 x.f4) ∧ W.cell? ⟨b, 5, none⟩ = some (.int .i64 x.f5) ∧ Below W0.heap.size W0 W) : Below W0.heap.size W0 W := h.2.2.2
theorem line_k1 (x : S31) (h : x.f0 = 1) : (⟨#[105, 110, 102, 105, 120, 32]⟩ : ByteArray) ++ x.f1 ++ (⟨#[32]⟩ : ByteArray) ++ x.f2 ++ ((⟨#[32]⟩ : ByteArray) ++ itoaB x.f3) ++ ((⟨#[32]⟩ : ByteArray) ++ itoaB x.f4) ++ ((⟨#[32]⟩ : ByteArray) ++ itoaB x.f5) = lineB x := by
  unfold lineB wordsR
  rw [if_pos h]
  apply ByteArray.ext; apply Array.ext'
  simp [joinB, Lib.join_cons, Lib.joinTail, sp, ByteArray.data_append]
theorem line_k2 (x : S31) (h : x.f0 = 2) : (⟨#[112, 114, 101, 102, 105, 120, 32]⟩ : ByteArray) ++ x.f1 ++ (⟨#[32]⟩ : ByteArray) ++ x.f2 ++ ((⟨#[32]⟩ : ByteArray) ++ itoaB x.f3) ++ ((⟨#[32]⟩ : ByteArray) ++ itoaB x.f5) = lineB x := by
  unfold lineB wordsR
  rw [if_neg (by omega), if_pos h]
  apply ByteArray.ext; apply Array.ext'
  simp [joinB, Lib.join_cons, Lib.joinTail, sp, ByteArray.data_append]
theorem line_k3 (x : S31) (h : x.f0 = 3) : (⟨#[112, 111, 115, 116, 102, 105, 120, 32]⟩ : ByteArray) ++ x.f1 ++ (⟨#[32]⟩ : ByteArray) ++ x.f2 ++ ((⟨#[32]⟩ : ByteArray) ++ itoaB x.f3) ++ ((⟨#[32]⟩ : ByteArray) ++ itoaB x.f4) = lineB x := by
  unfold lineB wordsR
  rw [if_neg (by omega), if_neg (by omega), if_pos h]
  apply ByteArray.ext; apply Array.ext'
  simp [joinB, Lib.join_cons, Lib.joinTail, sp, ByteArray.data_append]
theorem line_k4 (x : S31) (h : x.f0 = 4) : (⟨#[106, 117, 120, 116, 97, 112, 111, 115, 101, 32]⟩ : ByteArray) ++ x.f2 ++ ((⟨#[32]⟩ : ByteArray) ++ itoaB x.f3) ++ ((⟨#[32]⟩ : ByteArray) ++ itoaB x.f4) ++ ((⟨#[32]⟩ : ByteArray) ++ itoaB x.f5) = lineB x := by
  unfold lineB wordsR
  rw [if_neg (by omega), if_neg (by omega), if_neg (by omega)]
  apply ByteArray.ext; apply Array.ext'
  simp [joinB, Lib.join_cons, Lib.joinTail, sp, ByteArray.data_append]
set_option maxHeartbeats 4000000 in
set_option maxRecDepth 1000000 in
theorem ref_line (x : S31) (w : World) (h : prR x = true) (hs1 : x.f1.size ≤ 1000000) (hs2 : x.f2.size ≤ 1000000) :
    Calls Tryz.prog 34 #[.agg #[.int .i64 x.f0, .string x.f1, .string x.f2, .int .i64 x.f3, .int .i64 x.f4, .int .i64 x.f5]] w fun e w' => e = .returned (.string (lineB x)) ∧ Below w.heap.size w w' := by
  have hp := prB_parts h
  have hk := hp.1
  have h3 := hp.2.1
  have h4 := hp.2.2.1
  have h5 := hp.2.2.2.1
  clear hp
  have D3 := Aside0.mk (fun W => digits_any (n := x.f3) (by omega) (by omega) W)
  have D4 := Aside0.mk (fun W => digits_any (n := x.f4) h4.1 h4.2 W)
  have D5 := Aside0.mk (fun W => digits_any (n := x.f5) h5.1 h5.2 W)
  have z3 := itoaB_size x.f3 (by omega) (by omega)
  have z4 := itoaB_size x.f4 (by omega) (by omega)
  have z5 := itoaB_size x.f5 (by omega) (by omega)
  have K := Aside0.mk hk
  have L1 := Aside0.mk (line_k1 x)
  have L2 := Aside0.mk (line_k2 x)
  have L3 := Aside0.mk (line_k3 x)
  have L4 := Aside0.mk (line_k4 x)
  clear hk h3 h4 h5 h
  generalize hd3 : itoaB x.f3 = d3 at *
  generalize hd4 : itoaB x.f4 = d4 at *
  generalize hd5 : itoaB x.f5 = d5 at *
  have s3 : ¬ 9223372036854775807 < (⟨#[32]⟩ : ByteArray).size + d3.size := by have e : (⟨#[32]⟩ : ByteArray).size = 1 := rfl; omega
  have r3 : ¬ 9223372036854775807 < 1 + d3.size := by omega
  have s4 : ¬ 9223372036854775807 < (⟨#[32]⟩ : ByteArray).size + d4.size := by have e : (⟨#[32]⟩ : ByteArray).size = 1 := rfl; omega
  have r4 : ¬ 9223372036854775807 < 1 + d4.size := by omega
  have s5 : ¬ 9223372036854775807 < (⟨#[32]⟩ : ByteArray).size + d5.size := by have e : (⟨#[32]⟩ : ByteArray).size = 1 := rfl; omega
  have r5 : ¬ 9223372036854775807 < 1 + d5.size := by omega
  go_enter Tryz.func34, Tryz.ntmps34
  go_upto_region 1 with fail
  generalize hW : w.alloc (.cells #[.int .i64 x.f0, .string x.f1, .string x.f2, .int .i64 x.f3, .int .i64 x.f4, .int .i64 x.f5] 31) = W0
  have BK : W0.heap[w.heap.size]? = some (.cells #[.int .i64 x.f0, .string x.f1, .string x.f2, .int .i64 x.f3, .int .i64 x.f4, .int .i64 x.f5] 31 (0, 0)) := by rw [← hW]; exact blk_new _ _
  have B0 : Below w.heap.size w W0 := by rw [← hW]; exact (Below.refl _ _).alloc (Nat.le_refl _) _
  have hlt := blk_lt BK
  have SD := Aside0.mk (show W0.drew.cell? ⟨w.heap.size, 3, none⟩ = some (.int .i64 x.f3) ∧ W0.drew.cell? ⟨w.heap.size, 4, none⟩ = some (.int .i64 x.f4) ∧ W0.drew.cell? ⟨w.heap.size, 5, none⟩ = some (.int .i64 x.f5) ∧ Below W0.heap.size W0 W0.drew from ⟨(blk_cell (blk_drew BK) 3).trans rfl, (blk_cell (blk_drew BK) 4).trans rfl, (blk_cell (blk_drew BK) 5).trans rfl, below_drew (Below.refl _ _)⟩)
  have x3 := (blk_cell BK 3).trans rfl
  have BK' := Aside0.mk BK
  have B0' := Aside0.mk B0
  clear BK B0 hW
  go_cut [3, 4, 5] (fun a b c wx => a = .string ((⟨#[32]⟩ : ByteArray) ++ d3) ∧ b = .string ((⟨#[32]⟩ : ByteArray) ++ d4) ∧ c = .string ((⟨#[32]⟩ : ByteArray) ++ d5) ∧ Aside0 (Below W0.heap.size W0 wx))
  case first =>
    go_region_held3 (fun wx => wx.cell? ⟨w.heap.size, 3, none⟩ = some (.int .i64 x.f3) ∧ wx.cell? ⟨w.heap.size, 4, none⟩ = some (.int .i64 x.f4) ∧ wx.cell? ⟨w.heap.size, 5, none⟩ = some (.int .i64 x.f5) ∧ Below W0.heap.size W0 wx) (first | assumption | exact SD.out | (refine lineS2 ?_ ‹_›; assumption)) (first | (go_at_call_of 46 (x.f3); refine (D3.out _).mono ?_; rintro e w' ⟨rfl, hb⟩) | (go_at_call_of 46 (x.f4); refine (D4.out _).mono ?_; rintro e w' ⟨rfl, hb⟩) | (go_at_call_of 46 (x.f5); refine (D5.out _).mono ?_; rintro e w' ⟨rfl, hb⟩))
    all_goals (try go_wp2_with fail)
    all_goals go_meet
    all_goals (refine ⟨rfl, rfl, rfl, ⟨lineB_of (b := w.heap.size) (x := x) ?_⟩⟩; assumption)
  case rest =>
    obtain ⟨rfl, rfl, rfl, BX⟩ := hcut
    have BKc := Aside0.mk (blk_below BK'.out BX.out)
    have BC := Aside0.mk (keepB BX.out B0'.out)
    have c0 := (blk_cell BKc.out 0).trans rfl
    have c1 := (blk_cell BKc.out 1).trans rfl
    have c2 := (blk_cell BKc.out 2).trans rfl
    clear BX BK' B0' SD hlt x3 s3 s4 s5 r3 r4 r5
    have t3 : ((⟨#[32]⟩ : ByteArray) ++ d3).size ≤ 30 := by rw [ByteArray.size_append]; have e : (⟨#[32]⟩ : ByteArray).size = 1 := rfl; omega
    have t4 : ((⟨#[32]⟩ : ByteArray) ++ d4).size ≤ 30 := by rw [ByteArray.size_append]; have e : (⟨#[32]⟩ : ByteArray).size = 1 := rfl; omega
    have t5 : ((⟨#[32]⟩ : ByteArray) ++ d5).size ≤ 30 := by rw [ByteArray.size_append]; have e : (⟨#[32]⟩ : ByteArray).size = 1 := rfl; omega
    generalize (⟨#[32]⟩ : ByteArray) ++ d3 = e3 at *
    generalize (⟨#[32]⟩ : ByteArray) ++ d4 = e4 at *
    generalize (⟨#[32]⟩ : ByteArray) ++ d5 = e5 at *
    rcases K.out with hk | hk | hk | hk
    · have c0' : wc.cell? ⟨w.heap.size, 0, none⟩ = some (.int .i64 1) := by rw [← hk]; exact c0
      have LL := Aside0.mk (L1.out hk)
      clear c0 hk
      go_wp2
      go_ret
      exact ⟨by rw [← LL.out]; rfl, BC.out⟩
    · have c0' : wc.cell? ⟨w.heap.size, 0, none⟩ = some (.int .i64 2) := by rw [← hk]; exact c0
      have LL := Aside0.mk (L2.out hk)
      clear c0 hk
      go_wp2
      go_ret
      exact ⟨by rw [← LL.out]; rfl, BC.out⟩
    · have c0' : wc.cell? ⟨w.heap.size, 0, none⟩ = some (.int .i64 3) := by rw [← hk]; exact c0
      have LL := Aside0.mk (L3.out hk)
      clear c0 hk
      go_wp2
      go_ret
      exact ⟨by rw [← LL.out]; rfl, BC.out⟩
    · have c0' : wc.cell? ⟨w.heap.size, 0, none⟩ = some (.int .i64 4) := by rw [← hk]; exact c0
      have LL := Aside0.mk (L4.out hk)
      clear c0 hk
      go_wp2
      go_ret
      exact ⟨by rw [← LL.out]; rfl, BC.out⟩
end Go.Proofs.YtghdimmomnfakaaGreatDoor.Gv

set_option linter.unusedVariables false
set_option linter.unusedSimpArgs false
namespace Go.Proofs.YtghdimmomnfakaaGreatDoor.Gv
open Go.RowKit Go.Proofs.YtghdimmomnfakaaGreatDoorW.PrintWords Go.Proofs.YtghdimmomnfakaaGreatDoorW.PrintLast Go.Proofs.YtghdimmomnfakaaGreatDoorW.PrintMore
open Go.Proofs.YtghdimmomnfakaaGreatDoor.X (S31 k31 rd_T31 at_T31 z31 vinculumref49_Split.f vinculumref49_Split.l0 vinculumref49_Split.calls vinculumref49_number.f vinculumref49_number.l0)
open Go.Proofs.YtghdimmomnfakaaGreatDoor.Pure
theorem extract_list (s : ByteArray) (a b : Nat) : (s.extract a b).data.toList = (s.data.toList.drop a).take (b - a) := by
  simp [ByteArray.data_extract, List.take_drop]
  try omega
theorem extract_mk (s : ByteArray) (a b : Nat) : s.extract a b = ⟨((s.data.toList.drop a).take (b - a)).toArray⟩ := by
  rw [← extract_list]
theorem bt_at' (s : ByteArray) {i : Nat} (h : i < s.size) : bt s (i : Int) = ((s.data.toList[i]'(by simpa using h)).toNat : Int) := by
  unfold bt
  simp [h, ByteArray.getElem_eq_getElem_data]
theorem split_l0 (s : ByteArray) (c : UInt8) (hs : s.size ≤ 1000000000) : ∀ (n : Nat) (acc : List ByteArray) (a i k : Nat), s.size + 1 = i + n → a ≤ i → i ≤ s.size → c ∉ (s.data.toList.drop a).take (i - a) → acc.length ≤ i → n < k →
    vinculumref49_Split.l0 k s (c.toNat : Int) acc (a : Int) (i : Int) = some (acc ++ (Spl.splitL c (s.data.toList.drop a)).map fun p => ⟨p.toArray⟩)
  | 0, acc, a, i, k, h, _, h2, _, _, _ => by omega
  | n + 1, acc, a, i, 0, _, _, _, _, _, hk => by omega
  | n + 1, acc, a, i, k + 1, h, h1, h2, hno, hacc, hk => by
    have hlen : s.data.toList.length = s.size := by simp
    rw [vinculumref49_Split.l0, if_pos (by omega), w64 (x := (i : Int) + 1) (by omega) (by omega)]
    by_cases e : i = s.size
    · rw [if_pos (by omega), if_pos (by omega), if_pos (by omega), if_pos (by omega)]
      have hall : (s.data.toList.drop a).take (i - a) = s.data.toList.drop a := List.take_of_length_le (by rw [List.length_drop, hlen, e]; omega)
      rw [hall] at hno
      rw [Spl.splitL_none hno]
      obtain ⟨k, rfl⟩ : ∃ m, k = m + 1 := ⟨k - 1, by omega⟩
      rw [vinculumref49_Split.l0, if_neg (by omega), show ((a : Int)).toNat = a from rfl, show ((i : Int)).toNat = i from rfl, extract_mk, hall]
      rfl
    · have hi : i < s.size := by omega
      have hil : i < s.data.toList.length := by rw [hlen]; exact hi
      rw [if_neg (by omega), if_pos (by omega), if_pos (by omega), bt_at' s hi]
      by_cases ec : s.data.toList[i] = c
      · rw [if_pos (by rw [ec]), if_pos (by omega), if_pos (by omega), if_pos (by omega), show ((a : Int)).toNat = a from rfl, show ((i : Int)).toNat = i from rfl]
        have hd : s.data.toList.drop a = (s.data.toList.drop a).take (i - a) ++ c :: s.data.toList.drop (i + 1) := by
          have h3 : s.data.toList.drop i = c :: s.data.toList.drop (i + 1) := by rw [List.drop_eq_getElem_cons hil, ec]
          rw [← h3]
          conv => lhs; rw [← List.take_append_drop (i - a) (s.data.toList.drop a), List.drop_drop, show a + (i - a) = i by omega]
        have ih := split_l0 s c hs n (acc ++ [s.extract a i]) (i + 1) (i + 1) k (by omega) (by omega) (by omega) (by simp) (by simp; omega) (by omega)
        rw [hd, Spl.splitL_cut _ hno, List.map_cons]
        rw [show ((i : Int) + 1) = ((i + 1 : Nat) : Int) by omega, ih, extract_mk, List.append_assoc]
        rfl
      · rw [if_neg (fun h => ec (UInt8.toNat_inj.1 (by omega))), show ((i : Int) + 1) = ((i + 1 : Nat) : Int) by omega]
        refine split_l0 s c hs n acc a (i + 1) k (by omega) (by omega) (by omega) ?_ (by omega) (by omega)
        have e3 : (s.data.toList.drop a).take (i + 1 - a) = (s.data.toList.drop a).take (i - a) ++ [s.data.toList[i]] := by
          have hj : i - a < (s.data.toList.drop a).length := by rw [List.length_drop, hlen]; omega
          rw [show i + 1 - a = (i - a) + 1 by omega, List.take_succ_eq_append_getElem hj]
          congr 2
          rw [List.getElem_drop]
          congr 1
          omega
        rw [e3, List.mem_append, List.mem_singleton]
        rintro (h' | h')
        · exact hno h'
        · exact ec h'.symm
theorem split_f (s : ByteArray) (c : UInt8) (hs : s.size ≤ 1000000000) (k : Nat) (hk : s.size + 1 < k) : vinculumref49_Split.f k s (c.toNat : Int) = some (partsS c s) := by
  have := split_l0 s c hs (s.size + 1) [] 0 0 k (by omega) (by omega) (by omega) (by simp) (by simp) (by omega)
  simp only [List.nil_append, List.drop_zero] at this
  exact this
/-- a list of strings of the call's own -/
abbrev OwnS (w : World) (b : Nat) (v : Value) (l : List ByteArray) : Prop := Kd.R Kd.string 9 w b (fun _ => True) v l
theorem ref_split (s : ByteArray) (c : UInt8) (hs : s.size ≤ 1000000000) (w : World) :
    Calls Tryz.prog 15 #[.string s, .int .u8 (c.toNat : Int)] w fun e w' => ∃ v0_ : Value, e = .returned (v0_) ∧ OwnS w' w.heap.size v0_ (partsS c s) ∧ Below w.heap.size w w' :=
  vinculumref49_Split.calls (s.size + 2) s _ _ w (split_f s c hs _ (by omega))
theorem OwnS.below {w w1 : World} {b : Nat} {v : Value} {l : List ByteArray} (h : OwnS w b v l) (hb : Below w.heap.size w w1) : OwnS w1 b v l := Kd.R_below h hb
theorem OwnS.cell {w : World} {b : Nat} {A : Option Addr} {n c : Nat} {l : List ByteArray} (h : OwnS w b (.slice A n c) l) {k : Nat} (hk : k < l.length) : ∃ ad, A = some ad ∧ w.cell? (ad.add k) = some (.string (nthS l k)) := by
  have hr := (Kd.R_reads' h).2.2
  have hr2 := Kd.reads_of_C (enc := Value.string) (d := ByteArray.empty) (h1 := fun _ => rfl) hr
  obtain ⟨ad, e, hc⟩ := ReadsOf.at_ hr2 (k : Int) (by omega) (by omega)
  exact ⟨ad, e, hc⟩
theorem number_total (s : ByteArray) : ∀ (n : Nat) (x i : Int) (k : Nat), 0 ≤ i → 3 = i + n → n < k → ∃ r, vinculumref49_number.l0 k s x i = some r
  | _, _, _, 0, _, _, hk => absurd hk (Nat.not_lt_zero _)
  | 0, x, i, k + 1, h0, h, hk => by
    rw [vinculumref49_number.l0]
    by_cases h1 : i < (s.size : Int)
    · rw [if_pos h1, if_neg (by omega)]; exact ⟨_, rfl⟩
    · rw [if_neg h1]; exact ⟨_, rfl⟩
  | n + 1, x, i, k + 1, h0, h, hk => by
    rw [vinculumref49_number.l0]
    by_cases h1 : i < (s.size : Int)
    · rw [if_pos h1, if_pos (by omega), if_pos h0, w64 (x := i + 1) (by omega) (by omega)]
      exact number_total s n _ (i + 1) k (by omega) (by omega) (by omega)
    · rw [if_neg h1]; exact ⟨_, rfl⟩
def numR (s : ByteArray) : Int := (vinculumref49_number.f 5 s).getD 0
theorem numR_f (s : ByteArray) : vinculumref49_number.f 5 s = some (numR s) := by
  obtain ⟨r, h⟩ := number_total s 3 0 0 5 (by omega) (by omega) (by omega)
  have h' : vinculumref49_number.f 5 s = some r := h
  unfold numR; rw [h']; rfl
theorem numR_itoa {n : Int} (h0 : 0 ≤ n) (h1 : n ≤ 101) : numR (itoaB n) = n := by
  have := tens_all (P := fun n => decide (numR (itoaB n) = n)) (by decide +kernel) h0 h1
  simpa using this
set_option maxHeartbeats 8000000 in
set_option maxRecDepth 100000 in
theorem number_same (a0 : ByteArray) (w : World) :
    Calls Tryz.prog 32 #[.string a0] w fun e w' => e = .returned (.int .i64 (numR a0)) ∧ w' = w := by
  have H : (vinculumref49_number.l0 5 a0 0 0) = some (numR a0) := numR_f a0
  generalize numR a0 = r at *
  have H' := Aside0.mk H
  clear H
  go_enter Tryz.func32, Tryz.ntmps32
  go_wp2
  go_loopg [3, 4] 5 (fun kq v3 v4 w' => ∃ (x3_1 : Int) (x4_1 : Int), v3 = .int .i64 x3_1 ∧ v4 = .int .i64 x4_1 ∧ Aside0 (vinculumref49_number.l0 kq a0 x3_1 x4_1 = some r) ∧ Aside0 (kq ≤ 5) ∧ w' = w)
  case atStart => exact ⟨(0), (0), (by first | rfl | (simp; done) | (simp [*]; done)), (by first | rfl | (simp; done) | (simp [*]; done)), H', ⟨Nat.le_refl _⟩, rfl⟩
  case round =>
    clear H'
    obtain ⟨x3_1, x4_1, rfl, rfl, HA, HK1, rfl⟩ := hrel
    cases gk with
    | zero => exact absurd HA.out (by simp [vinculumref49_number.l0])
    | succ k1 =>
      have H := HA.out
      clear HA
      simp only [vinculumref49_number.l0] at H
      by_cases c2 : x4_1 < (a0.size : Int)
      · rw [if_pos c2] at H
        have c2b0 : decide (x4_1 < (a0.size : Int)) = true := decide_eq_true c2
        clear c2
        by_cases c3 : x4_1 < 3
        · rw [if_pos c3] at H
          have c3b0 : decide (x4_1 < 3) = true := decide_eq_true c3
          clear c3
          by_cases c4 : 0 ≤ x4_1
          · rw [if_pos c4] at H
            have c4b0 : decide (0 ≤ x4_1) = true := decide_eq_true c4
            clear c4
            have H' := Aside0.mk H
            clear H
            have p5 : 0 ≤ (x4_1 : Int) := of_decide_eq_true (by first | (with_reducible assumption) | assumption)
            have q5 : x4_1 < (a0.size : Int) := of_decide_eq_true (by first | (with_reducible assumption) | assumption)
            have hx5 := bt_at a0 x4_1
            replace p5 := eq_true p5
            replace q5 := eq_true q5
            go_wp2
            go_roundg k1
            case measure => have := HK1.out; omega
            case rel => exact ⟨(wrap64 ((wrap64 ((wrap64 (10 * x3_1)) + (wrap64 (bt a0 x4_1)))) - 48)), (wrap64 (x4_1 + 1)), (by first | rfl | (simp; done) | (simp [*]; done)), (by first | rfl | (simp; done) | (simp [*]; done)), H', ⟨by have := HK1.out; omega⟩, rfl⟩
          · rw [if_neg c4] at H
            exact absurd H (by simp)
        · rw [if_neg c3] at H
          have c3b0 : decide (x4_1 < 3) = false := decide_eq_false c3
          clear c3
          obtain rfl := Option.some.inj H
          go_wp2
          go_ret
          exact ⟨by first | rfl | (simp; done) | (simp [*]; done), rfl⟩
      · rw [if_neg c2] at H
        have c2b0 : decide (x4_1 < (a0.size : Int)) = false := decide_eq_false c2
        clear c2
        obtain rfl := Option.some.inj H
        go_wp2
        go_ret
        exact ⟨by first | rfl | (simp; done) | (simp [*]; done), rfl⟩
theorem ref_prop (x : S31) (w : World) (h1 : x.f1.size ≤ 1000000) (h2 : x.f2.size ≤ 1000000) :
    Calls Tryz.prog 33 #[.agg (rule6 x)] w fun e w' => e = .returned (.bool (prR x)) ∧ Below w.heap.size w w' :=
  Go.Proofs.YtghdimmomnfakaaGreatDoor.X.vinculumref49_Proper.calls _ x.f0 x.f1 x.f2 x.f3 x.f4 x.f5 _ w (ref_proper x.f0 x.f1 x.f2 x.f3 x.f4 x.f5 (by omega) (by omega) _ (Nat.le_refl _))
theorem far6 {w : World} {b g : Nat} {y : S31} (h : Rule6 w b y) (hne : b ≠ g) (x : S31) : Rule6 ((((((w.setCell ⟨g, 0, none⟩ (.int .i64 x.f0)).setCell ⟨g, 1, none⟩ (.string x.f1)).setCell ⟨g, 2, none⟩ (.string x.f2)).setCell ⟨g, 3, none⟩ (.int .i64 x.f3)).setCell ⟨g, 4, none⟩ (.int .i64 x.f4)).setCell ⟨g, 5, none⟩ (.int .i64 x.f5)) b y :=
  blk_far (blk_far (blk_far (blk_far (blk_far (blk_far h hne _) hne _) hne _) hne _) hne _) hne _
def wordK (k : Nat) : ByteArray := match k with
  | 0 => ⟨#[105, 110, 102, 105, 120]⟩
  | 1 => ⟨#[112, 114, 101, 102, 105, 120]⟩
  | 2 => ⟨#[112, 111, 115, 116, 102, 105, 120]⟩
  | _ => ⟨#[106, 117, 120, 116, 97, 112, 111, 115, 101]⟩
/-- the rule that the reference makes of a line's words -/
def refW (L : List ByteArray) : S31 :=
  if nthS L 0 = wordK 0 ∧ L.length = 6 then ⟨1, nthS L 1, nthS L 2, numR (nthS L 3), numR (nthS L 4), numR (nthS L 5)⟩
  else if nthS L 0 = wordK 1 ∧ L.length = 5 then ⟨2, nthS L 1, nthS L 2, numR (nthS L 3), 0, numR (nthS L 4)⟩
  else if nthS L 0 = wordK 2 ∧ L.length = 5 then ⟨3, nthS L 1, nthS L 2, numR (nthS L 3), numR (nthS L 4), 0⟩
  else if nthS L 0 = wordK 3 ∧ L.length = 5 then ⟨4, ⟨#[]⟩, nthS L 1, numR (nthS L 2), numR (nthS L 3), numR (nthS L 4)⟩
  else z31
def refRL (s : ByteArray) : S31 × Bool := (refW (partsS 32 s), prR (refW (partsS 32 s)) && decide (lineB (refW (partsS 32 s)) = s))
end Go.Proofs.YtghdimmomnfakaaGreatDoor.Gv

set_option linter.unusedVariables false
namespace Go.Proofs.YtghdimmomnfakaaGreatDoor.Pure
open Go.RowKit Go.Proofs.YtghdimmomnfakaaGreatDoorW.PrintWords Go.Proofs.YtghdimmomnfakaaGreatDoorW.PrintLast Go.Proofs.YtghdimmomnfakaaGreatDoorW.PrintMore Go.Proofs.YtghdimmomnfakaaGreatDoor.Gv Go.Proofs.YtghdimmomnfakaaGreatDoor.X
def textL : List S31 → List UInt8
  | [] => []
  | x :: r => (lineB x).data.toList ++ 10 :: textL r
theorem textL_append : ∀ a b, textL (a ++ b) = textL a ++ textL b
  | [], b => rfl
  | x :: r, b => by simp [textL, textL_append r b]
/-- rules that are proper, with strings that are not too long -/
def okR (M : Nat) (l : List S31) : Prop := ∀ x ∈ l, prR x = true ∧ x.f1.size ≤ M ∧ x.f2.size ≤ M
theorem lineB_len (x : S31) (M : Nat) (hM : 30 ≤ M) (h : prR x = true) (h1 : x.f1.size ≤ M) (h2 : x.f2.size ≤ M) : (lineB x).data.toList.length ≤ 6 * (M + 1) := by
  have hw := joinB_len (wordsR x) M (words_size x M hM h h1 h2)
  have h6 := Nat.mul_le_mul_right (M + 1) (wordsR_len x)
  show (joinB (wordsR x) sp).toArray.toList.length ≤ _
  rw [List.toList_toArray]
  omega
theorem lines_f (M : Nat) (hM : 30 ≤ M) (hM2 : M ≤ 1000000) (k : Nat) (hk : 3 ≤ k) : ∀ l, okR M l → lines k l = some (textL l)
  | [], _ => rfl
  | x :: r, h => by
    obtain ⟨hp, h1, h2⟩ := h x (by simp)
    rw [lines, line_f x M hM hM2 hp h1 h2 k hk, lines_f M hM hM2 k hk r (fun y hy => h y (by simp [hy]))]
    rfl
theorem textL_len (M : Nat) (hM : 30 ≤ M) : ∀ l, okR M l → (textL l).length ≤ l.length * (6 * (M + 1) + 1)
  | [], _ => by simp [textL]
  | x :: r, h => by
    obtain ⟨hp, h1, h2⟩ := h x (by simp)
    have h3 := lineB_len x M hM hp h1 h2
    have ih := textL_len M hM r (fun y hy => h y (by simp [hy]))
    simp only [textL, List.length_append, List.length_cons, Nat.add_mul, Nat.one_mul]
    omega
theorem rd_lt {l : List S31} {j : Nat} (h : j < l.length) : rd_T31 l (j : Int) = l[j] := by
  unfold rd_T31
  rw [show ((j : Int)).toNat = j from rfl, List.getD_eq_getElem?_getD, List.getElem?_eq_getElem h]
  rfl
theorem rd_take {l : List S31} {m j : Nat} (h : j < m) (hm : m ≤ l.length) : rd_T31 (l.take m) (j : Int) = rd_T31 l (j : Int) := by
  rw [rd_lt (by simp; omega), rd_lt (by omega)]
  simp
theorem clRest_take {l : List S31} {m : Nat} (hm : m ≤ l.length) (y : S31) : ∀ n j, j + n ≤ m → clRest (l.take m) y n j = clRest l y n j
  | 0, _, _ => rfl
  | n + 1, j, h => by rw [clRest, clRest, rd_take (by omega) hm, clRest_take hm y n (j + 1) (by omega)]
theorem vRest_take {l : List S31} {m : Nat} (hm : m ≤ l.length) : ∀ n i, i + n ≤ m → vRest (l.take m) n i = vRest l n i
  | 0, _, _ => rfl
  | n + 1, i, h => by rw [vRest, vRest, rd_take (by omega) hm, clRest_take hm _ i 0 (by omega), vRest_take hm n (i + 1) (by omega)]
theorem vRest_less {l : List S31} : ∀ n m i, n ≤ m → vRest l m i = true → vRest l n i = true
  | 0, _, _, _, _ => rfl
  | n + 1, 0, _, h, _ => by omega
  | n + 1, m + 1, i, h, hv => by
    rw [vRest, Bool.and_eq_true] at hv ⊢
    exact ⟨hv.1, vRest_less n m (i + 1) (by omega) hv.2⟩
theorem vRest_pr {l : List S31} : ∀ n i, vRest l n i = true → ∀ j, i ≤ j → j < i + n → prR (rd_T31 l (j : Int)) = true
  | 0, _, _, j, _, _ => by omega
  | n + 1, i, hv, j, h1, h2 => by
    rw [vRest, Bool.and_eq_true, Bool.and_eq_true] at hv
    by_cases e : j = i
    · subst e; exact hv.1.1
    · exact vRest_pr n (i + 1) hv.2 j (by omega) (by omega)
theorem okR_of {M : Nat} {l : List S31} (hs : smallR M l) (hv : vRest l l.length 0 = true) : okR M l := by
  intro x hx
  obtain ⟨j, hj, rfl⟩ := List.getElem_of_mem hx
  rw [← rd_lt hj]
  exact ⟨vRest_pr _ _ hv j (by omega) (by omega), hs j hj⟩
theorem smallR_take {M : Nat} {l : List S31} (hs : smallR M l) (m : Nat) (hm : m ≤ l.length) : smallR M (l.take m) := fun j hj => by
  have : j < m := by simp at hj; omega
  rw [rd_take this hm]
  exact hs j (by omega)
theorem text_f (M : Nat) (hM : 30 ≤ M) (hM2 : M ≤ 1000000) (l : List S31) (hl : l.length ≤ 64) (hs : smallR M l) (hv : vRest l l.length 0 = true) (k : Nat) (hk : l.length + M + 60 ≤ k) : grammar_Text.f k l = some ⟨(textL l).toArray⟩ := by
  have hok := okR_of hs hv
  have hlen := textL_len M hM l hok
  have : l.length * (6 * (M + 1) + 1) ≤ 64 * (6 * (M + 1) + 1) := Nat.mul_le_mul_right _ hl
  unfold grammar_Text.f
  rw [impl_valid l M (by omega) (by omega) hs k hk, hv, decide_eq_true hl, Option.bind_some, Bool.and_self, if_pos rfl, lines_f M hM hM2 k (by omega) l hok, Option.bind_some, if_pos (by omega)]
theorem text_no (M : Nat) (hM2 : M ≤ 1000000) (l : List S31) (hl : l.length ≤ 9223372036854775807) (hs : smallR M l) (h : (decide (l.length ≤ 64) && vRest l l.length 0) = false) (k : Nat) (hk : l.length + M + 60 ≤ k) : grammar_Text.f k l = some ⟨#[]⟩ := by
  unfold grammar_Text.f
  rw [impl_valid l M (by omega) hl hs k hk, h, Option.bind_some, if_neg (by decide)]
end Go.Proofs.YtghdimmomnfakaaGreatDoor.Pure

set_option linter.unusedVariables false
set_option linter.unusedSimpArgs false
namespace Go.Proofs.YtghdimmomnfakaaGreatDoor.Gv
open Go.RowKit Go.Proofs.YtghdimmomnfakaaGreatDoorW.PrintWords Go.Proofs.YtghdimmomnfakaaGreatDoorW.PrintLast Go.Proofs.YtghdimmomnfakaaGreatDoorW.PrintMore
open Go.Proofs.YtghdimmomnfakaaGreatDoor.X (S31 k31 rd_T31 at_T31 z31)
open Go.Proofs.YtghdimmomnfakaaGreatDoor.Pure
def textB (l : List S31) : ByteArray := ⟨(textL l).toArray⟩
theorem textB_size (l : List S31) : (textB l).size = (textL l).length := by show (textL l).toArray.size = _; simp
theorem textB_step {l : List S31} {k : Nat} (hk : k < l.length) : textB (l.take k) ++ (lineB (rd_T31 l (k : Int)) ++ (⟨#[10]⟩ : ByteArray)) = textB (l.take (k + 1)) := by
  unfold textB
  rw [List.take_succ_eq_append_getElem hk, textL_append, rd_lt hk]
  apply ByteArray.ext; apply Array.ext'
  simp [textL, ByteArray.data_append]
theorem okR_take {M : Nat} {l : List S31} (h : okR M l) (k : Nat) : okR M (l.take k) := fun x hx => h x (List.mem_of_mem_take hx)
theorem okR_at {M : Nat} {l : List S31} (h : okR M l) {k : Nat} (hk : k < l.length) : prR (rd_T31 l (k : Int)) = true ∧ (rd_T31 l (k : Int)).f1.size ≤ M ∧ (rd_T31 l (k : Int)).f2.size ≤ M := by
  rw [rd_lt hk]; exact h _ (List.getElem_mem _)
theorem textB_take {l : List S31} (h : okR 100 l) (h64 : l.length ≤ 64) (k : Nat) : (textB (l.take k)).size ≤ 40000 := by
  rw [textB_size]
  have := textL_len 100 (by omega) _ (okR_take h k)
  have e : (l.take k).length ≤ 64 := by simp; omega
  have := Nat.mul_le_mul_right (6 * (100 + 1) + 1) e
  omega
theorem line_small {x : S31} (h : prR x = true ∧ x.f1.size ≤ 100 ∧ x.f2.size ≤ 100) : (lineB x).size ≤ 700 := by
  have := lineB_len x 100 (by omega) h.1 h.2.1 h.2.2
  rw [Array.length_toList] at this
  show (lineB x).data.size ≤ 700
  omega
end Go.Proofs.YtghdimmomnfakaaGreatDoor.Gv
