/-
  rational.Pow.
-/
import Derived.Test.YtjnheoelcahkaaaDoorUnRat
import Derived.Test.YtjnheoelcahkaaaDoorUnBase
import Derived.Test.YtjnheoelcahkaaaDoorShelf3
set_option linter.unusedVariables false
set_option linter.unusedSimpArgs false
namespace Go.Proofs.YtjnheoelcahkaaaDoor.Rat
open Go.RowKit Go.Proofs.YtjnheoelcahkaaaDoorW.PrintWords Go.Proofs.YtjnheoelcahkaaaDoorW.PrintLast Go.Proofs.YtjnheoelcahkaaaDoorW.PrintMore Go.Proofs.YtjnheoelcahkaaaDoor.Gv
open Go.Proofs.YtjnheoelcahkaaaDoor.R
theorem big0 : Big 9223372036854775901 := by unfold Big; decide
abbrev rat2 (a b : Int) : Array Value := #[.int .i64 a, .int .i64 b]
theorem valid_any (a b : Int) (w : World) : Calls Tryd.prog 42 #[.agg (rat2 a b)] w fun e w' => e = .returned (.bool (vz a b)) ∧ Below w.heap.size w w' :=
  rational_Valid.calls _ a b _ w (valid_f _ big0)
theorem mul_any (a b c d : Int) (w : World) : Calls Tryd.prog 45 #[.agg (rat2 a b), .agg (rat2 c d)] w fun e w' => e = .returned (.tuple #[.agg (rat2 (mulz a b c d).1 (mulz a b c d).2.1), .int .i64 (mulz a b c d).2.2]) ∧ Below w.heap.size w w' :=
  rational_Mul.calls _ a b c d _ _ _ w (mul_f a b c d _ big0)
theorem div_any (a b c d : Int) (w : World) : Calls Tryd.prog 46 #[.agg (rat2 a b), .agg (rat2 c d)] w fun e w' => e = .returned (.tuple #[.agg (rat2 (divz a b c d).1 (divz a b c d).2.1), .int .i64 (divz a b c d).2.2]) ∧ Below w.heap.size w w' :=
  rational_Div.calls _ a b c d _ _ _ w (div_f a b c d _ big0)
theorem make_any (a b : Int) (ha : i64 a) (hb : i64 b) (w : World) : Calls Tryd.prog 69 #[.int .i64 a, .int .i64 b] w fun e w' => e = .returned (.tuple #[.agg (rat2 (mkz a b).1 (mkz a b).2.1), .int .i64 (mkz a b).2.2]) ∧ Below w.heap.size w w' :=
  rational_Make.calls _ a b _ _ _ w (make_f ha hb _ big0)
theorem below_drewN' {w : World} (m : Nat) : Below w.heap.size w (w.drewN m) := pw_below_drewN (Below.refl _ _) m
theorem size_any (a : Int) (ha : i64 a) (w : World) : Calls Tryd.prog 64 #[.int .i64 a] w fun e w' => e = .returned (.int .u64 (a.natAbs : Int)) ∧ Below w.heap.size w w' :=
  (rational_size.calls a _ w (size_f ha)).mono (by rintro e w' ⟨rfl, m, rfl⟩; exact ⟨rfl, below_drewN' m⟩)
theorem bitLen_small {m : Nat} (h1 : 1 ≤ m) (h31 : m ≤ 31) : 1 ≤ Lib.bitLen m ∧ Lib.bitLen m ≤ 5 ∧ m / 2 ^ (Lib.bitLen m - 1) = 1 := by
  have h : ((List.range 32).all fun m => m == 0 || (decide (1 ≤ Lib.bitLen m) && decide (Lib.bitLen m ≤ 5) && decide (m / 2 ^ (Lib.bitLen m - 1) = 1))) = true := by decide +kernel
  rw [List.all_eq_true] at h
  have := h m (List.mem_range.2 (by omega))
  simp only [Bool.or_eq_true, beq_iff_eq, Bool.and_eq_true, decide_eq_true_eq] at this
  omega
theorem half_step (m j : Nat) : m / 2 ^ j = 2 * (m / 2 ^ (j + 1)) + (m / 2 ^ j) % 2 := by
  rw [Nat.pow_succ, ← Nat.div_div_eq_div_mul]; omega
/-- where a power of a smaller exponent does not fit -/
theorem powz_fail {a b n : Int} {m e : Nat} (h : vz a b = true) (ha : a ≠ 0) (h11 : ¬ (b = 1 ∧ -1 ≤ a ∧ a ≤ 1)) (hm : m = n.natAbs) (hm1 : 1 ≤ m) (hm31 : m ≤ 31) (he : e ≤ m) (hf : ¬ fitz a b e) : powz a b n = (0, 0, 2) := by
  have hb := (vz_iff.1 h).1
  have hfm : ¬ fitz a b n.natAbs := fun c => hf (fit_mono ha hb (by omega) c)
  unfold powz
  rw [if_pos h, if_neg (by omega), if_neg ha, if_neg (by omega), if_neg (by omega), if_neg (by omega)]
  split
  · exact if_neg hfm
  · refine if_neg (fun c => hfm ?_)
    have e1 : (if a < 0 then -b else b).natAbs = b.natAbs := by split <;> omega
    have e2 : ((a.natAbs : Int)).natAbs = a.natAbs := by omega
    unfold fitz at c ⊢
    rw [e1, e2] at c
    exact ⟨c.2, c.1⟩
theorem powz_neg {a b n : Int} {m : Nat} (h : vz a b = true) (ha : a ≠ 0) (h11 : ¬ (b = 1 ∧ -1 ≤ a ∧ a ≤ 1)) (hm : m = n.natAbs) (hm31 : m ≤ 31) (hs : n < 0) (hf : fitz a b m) : powz a b n = mkz (b ^ m) (a ^ m) := by
  unfold powz
  rw [if_pos h, if_neg (by omega), if_neg ha, if_neg (by omega), if_neg (by omega), if_neg (by omega), if_neg (by omega), mk_pow_inv h ha m hf, hm]
theorem powz_pos {a b n : Int} {m : Nat} (h : vz a b = true) (ha : a ≠ 0) (h11 : ¬ (b = 1 ∧ -1 ≤ a ∧ a ≤ 1)) (hm : m = n.natAbs) (hm1 : 1 ≤ m) (hm31 : m ≤ 31) (hs : 0 ≤ n) (hf : fitz a b m) : powz a b n = (a ^ m, b ^ m, 0) := by
  unfold powz
  rw [if_pos h, if_neg (by omega), if_neg ha, if_neg (by omega), if_neg (by omega), if_neg (by omega), if_pos (by omega), ← hm]
  exact if_pos hf
theorem ix0 (a b c d : Int) (w : World) : Sem.run Tryd.prog (Instr.index 104 (.agg #[.int .i64 a, .int .i64 b, .int .i64 c, .int .i64 d]) (.int .i64 0)) w = .ok (.agg #[.int .i64 a, .int .i64 b]) w := by kernel_rfl
theorem ix1 (a b c d : Int) (w : World) : Sem.run Tryd.prog (Instr.index 104 (.agg #[.int .i64 a, .int .i64 b, .int .i64 c, .int .i64 d]) (.int .i64 1)) w = .ok (.agg #[.int .i64 c, .int .i64 d]) w := by kernel_rfl
theorem bit_test {m : Nat} (h : m ≤ 31) (j : Nat) : (bits BinOp.and IntKind.i64 ((m : Int) / 2 ^ j) 1 == 0) = decide (m / 2 ^ j % 2 = 0) := by
  have hd : m / 2 ^ j ≤ 31 := Nat.le_trans (Nat.div_le_self _ _) h
  have e : ((m : Int) / 2 ^ j) = ((m / 2 ^ j : Nat) : Int) := by simp
  rw [e]
  generalize m / 2 ^ j = d at *
  have hall : ((List.range 32).all fun d => (bits BinOp.and IntKind.i64 (d : Int) 1 == 0) == decide (d % 2 = 0)) = true := by decide +kernel
  rw [List.all_eq_true] at hall
  exact beq_iff_eq.1 (hall d (List.mem_range.2 (by omega)))
/-- a fraction's box -/
abbrev Box2 (w : World) (g : Nat) (t : Nat) (a b : Int) : Prop := w.heap[g]? = some (.cells (rat2 a b) t (0, 0))
theorem pow_put {w : World} {g t : Nat} {a b : Int} (h : Box2 w g t a b) (c d : Int) : Box2 ((w.setCell ⟨g, 0, none⟩ (.int .i64 c)).setCell ⟨g, 1, none⟩ (.int .i64 d)) g t c d := by
  have h1 : Box2 (w.setCell ⟨g, 0, none⟩ (.int .i64 c)) g t c b := blk_put h 0 _ (by simp)
  exact blk_put h1 1 _ (by simp)
set_option maxHeartbeats 4000000 in
set_option maxRecDepth 1000000 in
theorem pow_loop (a b n : Int) (m : Nat) (w : World) (hv : vz a b = true) (ha : a ≠ 0) (h11 : ¬ (b = 1 ∧ -1 ≤ a ∧ a ≤ 1)) (hm : m = n.natAbs) (hm1 : 1 ≤ m) (hm31 : m ≤ 31) :
    Calls Tryd.prog 44 #[.agg (rat2 a b), .int .i64 n] w fun e w' => e = .returned (.tuple #[.agg (rat2 (powz a b n).1 (powz a b n).2.1), .int .i64 (powz a b n).2.2]) ∧ Below w.heap.size w w' := by
  have VA := Aside0.mk (fun W => valid_any a b W)
  have SZ := Aside0.mk (fun W => size_any n (by unfold i64; omega) W)
  rw [hv] at VA
  rw [← hm] at SZ
  have HM := Aside0.mk hm
  have k1 : (n == 0) = false := beq_eq_false_iff_ne.2 (by omega)
  have k2 : (a == 0) = false := beq_eq_false_iff_ne.2 ha
  have k3 : decide (31 < n) = false := decide_eq_false (by omega)
  have k4 : decide (n < -31) = false := decide_eq_false (by omega)
  have HA := Aside0.mk ha
  have H11 := Aside0.mk h11
  clear hm ha h11
  go_enter Tryd.func44, Tryd.ntmps44
  go_wp2_with fail
  refine (VA.out _).mono ?_
  rintro e w1 ⟨rfl, hb⟩
  have X1 := Aside0.mk (show Box2 w1 w.heap.size 51 a b from blk_below (blk_alloc (blk_new _ _) _) hb)
  have Y1 := Aside0.mk (show Box2 w1 (w.heap.size + 1) 51 0 0 from by have h := blk_below (blk_new (w.alloc (.cells (rat2 a b) 51)) (.cells (rat2 0 0) 51)) hb; simpa using h)
  have B1 := Aside0.mk (box_below (box_below hb))
  clear hb
  have x0 : w1.cell? ⟨w.heap.size, 0, none⟩ = some (.int .i64 a) := (blk_cell X1.out 0).trans rfl
  have x1 : w1.cell? ⟨w.heap.size, 1, none⟩ = some (.int .i64 b) := (blk_cell X1.out 1).trans rfl
  have KG : (b == 1) = false ∨ ((b == 1) = true ∧ decide (-1 ≤ a) = false) ∨ ((b == 1) = true ∧ decide (-1 ≤ a) = true ∧ decide (a ≤ 1) = false) := by
    by_cases hb1 : b = 1
    · right
      have k5 : (b == 1) = true := beq_iff_eq.2 hb1
      by_cases h6 : -1 ≤ a
      · exact .inr ⟨k5, decide_eq_true h6, decide_eq_false (fun h7 => H11.out ⟨hb1, h6, h7⟩)⟩
      · exact .inl ⟨k5, decide_eq_false h6⟩
    · exact .inl (beq_eq_false_iff_ne.2 hb1)
  rcases KG with k5 | ⟨k5, k6⟩ | ⟨k5, k6, k7⟩
  all_goals
    go_wp2_with fail
    refine (SZ.out _).mono ?_
    rintro e w2 ⟨rfl, hb⟩
    have X2 := Aside0.mk (blk_below X1.out hb)
    have Y2 := Aside0.mk (blk_below Y1.out hb)
    have B2 := Aside0.mk (keepB hb B1.out)
    clear hb X1 Y1 B1 x0 x1 SZ VA
    have x0 : w2.cell? ⟨w.heap.size, 0, none⟩ = some (.int .i64 a) := (blk_cell X2.out 0).trans rfl
    have x1 : w2.cell? ⟨w.heap.size, 1, none⟩ = some (.int .i64 b) := (blk_cell X2.out 1).trans rfl
    have hmi : ((m : Nat) : Int) ≤ 31 := by omega
    have hm0 : 0 ≤ ((m : Nat) : Int) := by omega
    have LEN := Aside0.mk (fun W => Tryd.bits_Len (m : Int) W (by omega) (by omega))
    rw [show ((m : Nat) : Int).toNat = m from rfl] at LEN
    have hl := bitLen_small hm1 hm31
    have HL := Aside0.mk hl
    have hl1 : 1 ≤ Lib.bitLen m := hl.1
    have hl5 : Lib.bitLen m ≤ 5 := hl.2.1
    generalize Lib.bitLen m = L at *
    clear hl
    go_wp2_with fail
    refine (LEN.out _).mono ?_
    rintro e w3 ⟨rfl, rfl⟩
    go_wp2
    have hg : w.heap.size + 1 < w2.heap.size := blk_lt Y2.out
    have G3 := Aside0.mk (blk_new w2 (.cells (rat2 a b) 51))
    have X3 := Aside0.mk (blk_alloc X2.out (.cells (rat2 a b) 51))
    have Y3 := Aside0.mk (blk_alloc Y2.out (.cells (rat2 a b) 51))
    have B3 := Aside0.mk (B2.out.alloc B2.out.size (.cells (rat2 a b) 51))
    generalize hG : w2.heap.size = g at *
    clear X2 Y2 B2 x0 x1 LEN
    have HV := Aside0.mk hv
    clear hv
    go_loopw [8, 10, 11, 12] (fun s8 _ _ _ wr => ∃ j : Nat, j ≤ 4 ∧ s8 = .int .i64 ((j : Int) - 1) ∧ Aside0 (fitz a b (m / 2 ^ j)) ∧ Aside0 (Box2 wr g 51 (a ^ (m / 2 ^ j)) (b ^ (m / 2 ^ j))) ∧ Aside0 (Box2 wr w.heap.size 51 a b) ∧ Aside0 (Box2 wr (w.heap.size + 1) 51 0 0) ∧ Aside0 (Below w.heap.size w wr)) (fun s8 _ _ _ _ => (intOf s8 + 1).toNat)
    case atStart => exact ⟨L - 1, by omega, by congr 1; omega, ⟨by rw [HL.out.2.2]; exact fit_one HV.out⟩, ⟨by rw [HL.out.2.2, Int.pow_one, Int.pow_one]; exact G3.out⟩, X3, Y3, B3⟩
    case round =>
      clear G3 X3 Y3 B3
      obtain ⟨j, hj, rfl, HF, G, X, Y, BW⟩ := hrel
      match j, hj with
      | 0, hj =>
        have hf0 := HF.out
        have g0 := G.out
        rw [Nat.pow_zero, Nat.div_one] at hf0 g0
        have hvb := vz_iff.1 (vz_pow HV.out m hf0)
        have gx : wr.cell? ⟨g, 0, none⟩ = some (.int .i64 (a ^ m)) := (blk_cell g0 0).trans rfl
        have gy : wr.cell? ⟨g, 1, none⟩ = some (.int .i64 (b ^ m)) := (blk_cell g0 1).trans rfl
        have y0 : wr.cell? ⟨w.heap.size + 1, 0, none⟩ = some (.int .i64 0) := (blk_cell Y.out 0).trans rfl
        have y1 : wr.cell? ⟨w.heap.size + 1, 1, none⟩ = some (.int .i64 0) := (blk_cell Y.out 1).trans rfl
        have yf0 := blk_frozen Y.out 0
        have yf1 := blk_frozen Y.out 1
        by_cases hs : n < 0
        · have k8 : decide (n < 0) = true := decide_eq_true hs
          have PZ := Aside0.mk (powz_neg HV.out HA.out H11.out HM.out hm31 hs hf0)
          have MK := Aside0.mk (fun W => make_any (b ^ m) (a ^ m) (by unfold i64; omega) (by unfold i64; omega) W)
          clear hs hvb HF G X hf0 g0
          go_wp2_with fail
          refine (MK.out _).mono ?_
          rintro e w5 ⟨rfl, hb⟩
          have Y5 := Aside0.mk (blk_below Y.out hb)
          have B5 := Aside0.mk (keepB hb BW.out)
          clear hb Y BW y0 y1 yf0 yf1 gx gy MK
          have y0 : w5.cell? ⟨w.heap.size + 1, 0, none⟩ = some (.int .i64 0) := (blk_cell Y5.out 0).trans rfl
          have y1 : w5.cell? ⟨w.heap.size + 1, 1, none⟩ = some (.int .i64 0) := (blk_cell Y5.out 1).trans rfl
          have yf0 := blk_frozen Y5.out 0
          have yf1 := blk_frozen Y5.out 1
          generalize mkz (b ^ m) (a ^ m) = r at *
          go_wp2
          exact bodyPost_ret (results_ct (p := 4) (u := 5) rfl _ _ (w.heap.size + 1) 51 (rat2 r.1 r.2.1) (0, 0) _ rfl (pow_put Y5.out _ _) Tryd.underlying51 rfl (by kernel_rfl)) rfl ⟨by rw [PZ.out]; rfl, (B5.out.setCell (show w.heap.size ≤ w.heap.size + 1 by omega) _).setCell (show w.heap.size ≤ w.heap.size + 1 by omega) _⟩
        · have k8 : decide (n < 0) = false := decide_eq_false hs
          have PZ := Aside0.mk (powz_pos HV.out HA.out H11.out HM.out hm1 hm31 (by omega) hf0)
          clear hs hvb HF G X hf0 g0
          go_wp2
          exact bodyPost_ret (results_ct (p := 4) (u := 5) rfl _ _ (w.heap.size + 1) 51 (rat2 (a ^ m) (b ^ m)) (0, 0) _ rfl (pow_put Y.out _ _) Tryd.underlying51 rfl (by kernel_rfl)) rfl ⟨by rw [PZ.out]; rfl, (BW.out.setCell (show w.heap.size ≤ w.heap.size + 1 by omega) _).setCell (show w.heap.size ≤ w.heap.size + 1 by omega) _⟩
      | j + 1, hj =>
        have e1 : ((j + 1 : Nat) : Int) - 1 = (j : Int) := by omega
        rw [e1]
        have gx := (blk_cell G.out 0).trans rfl
        have gy := (blk_cell G.out 1).trans rfl
        have x0 : wr.cell? ⟨w.heap.size, 0, none⟩ = some (.int .i64 a) := (blk_cell X.out 0).trans rfl
        have x1 : wr.cell? ⟨w.heap.size, 1, none⟩ = some (.int .i64 b) := (blk_cell X.out 1).trans rfl
        have HP := Aside0.mk (half_step m j)
        have hm4 := Aside0.mk (Nat.div_le_self m (2 ^ j))
        generalize hp : m / 2 ^ (j + 1) = p at *
        generalize hd : m / 2 ^ j = d at *
        have KB := Aside0.mk (bit_test hm31 j)
        rw [hd] at KB
        have HD := Aside0.mk hd
        clear hp hd
        go_wp2
        go_loopw [10, 11, 12, 71] (fun _ _ _ s71 wr2 => ∃ (k q : Nat), k ≤ 2 ∧ s71 = .int .i64 (k : Int) ∧ Aside0 (q = (if k = 0 then p else if k = 1 then 2 * p else 2 * p + 1)) ∧ Aside0 (1 ≤ k → d % 2 = 1) ∧ Aside0 (fitz a b q) ∧ Aside0 (Box2 wr2 g 51 (a ^ q) (b ^ q)) ∧ Aside0 (Box2 wr2 w.heap.size 51 a b) ∧ Aside0 (Box2 wr2 (w.heap.size + 1) 51 0 0) ∧ Aside0 (Below w.heap.size w wr2)) (fun _ _ _ s71 _ => 2 - (intOf s71).toNat)
        case atStart => exact ⟨0, p, by omega, rfl, ⟨rfl⟩, ⟨fun h => by omega⟩, HF, G, X, Y, BW⟩
        case round =>
          clear G X Y BW gx gy x0 x1
          obtain ⟨k, q, hk, rfl, HQ, HB, HFq, G, X, Y, BW⟩ := hrel
          rename World => wr
          have hgl : g < wr.heap.size := blk_lt G.out
          have hgn : ¬ g = wr.heap.size := Nat.ne_of_lt hgl
          have hgn' : ¬ wr.heap.size = g := fun e => hgn e.symm
          have hyl : w.heap.size + 1 < wr.heap.size := blk_lt Y.out
          have gx : wr.cell? ⟨g, 0, none⟩ = some (.int .i64 (a ^ q)) := (blk_cell G.out 0).trans rfl
          have gy : wr.cell? ⟨g, 1, none⟩ = some (.int .i64 (b ^ q)) := (blk_cell G.out 1).trans rfl
          have gf0 := blk_frozen G.out 0
          have gf1 := blk_frozen G.out 1
          match k, hk, HQ, HB with
          | 2, _, HQ, HB =>
            have hq : q = 2 * p + 1 := HQ.out
            have hbit := HB.out (by omega)
            have hdq : d = q := by have := HP.out; omega
            subst hdq
            clear hq hbit HQ HB
            go_wp2
            go_roundw
            case rel => exact ⟨j, by omega, rfl, ⟨by rw [HD.out]; exact HFq.out⟩, ⟨by rw [HD.out]; exact G.out⟩, X, Y, BW⟩
            case measure => (simp [intOf]) <;> omega
          | 0, _, HQ, HB =>
            have hq : q = p := HQ.out
            subst hq
            have MP := Aside0.mk (mul_pow HV.out q q HFq.out HFq.out)
            have HS := Aside0.mk (show q + q = 2 * q by omega)
            have FL := Aside0.mk (show ¬ fitz a b (q + q) → powz a b n = (0, 0, 2) from fun h => powz_fail HV.out HA.out H11.out HM.out hm1 hm31 (show q + q ≤ m by have := HP.out; have := hm4.out; omega) h)
            have ML := Aside0.mk (fun W => mul_any (a ^ q) (b ^ q) (a ^ q) (b ^ q) W)
            rw [MP.out] at ML
            have hix := ix0 (a ^ q) (b ^ q) a b
            generalize he : q + q = q2 at *
            have HE := Aside0.mk he
            clear he MP HQ HB
            go_wp2_with fail
            refine (ML.out _).mono ?_
            rintro e w5 ⟨rfl, hb⟩
            have G5 := Aside0.mk (blk_below (blk_alloc G.out _) hb)
            have X5 := Aside0.mk (blk_below (blk_alloc X.out _) hb)
            have Y5 := Aside0.mk (blk_below (blk_alloc Y.out _) hb)
            have B5 := Aside0.mk (keepB (box_below hb) BW.out)
            have hl5 : wr.heap.size < w5.heap.size := blk_lt (box_block hb)
            have hg5 : g < w5.heap.size := by omega
            have hy5 : w.heap.size + 1 < w5.heap.size := by omega
            have hn5 : ¬ g = w5.heap.size := by omega
            have hn5' : ¬ w5.heap.size = g := by omega
            have hXg : w.heap.size ≠ g := by omega
            have hYg : w.heap.size + 1 ≠ g := by omega
            clear hb ML gx gy gf0 gf1 G X Y BW hgn hgn'
            by_cases hf : fitz a b q2
            · have e5 : upz a b q2 = (a ^ q2, b ^ q2, 0) := if_pos hf
              rw [e5]
              have HF2 := Aside0.mk hf
              clear hf e5 FL
              have gx : w5.cell? ⟨g, 0, none⟩ = some (.int .i64 (a ^ q)) := (blk_cell G5.out 0).trans rfl
              have gy : w5.cell? ⟨g, 1, none⟩ = some (.int .i64 (b ^ q)) := (blk_cell G5.out 1).trans rfl
              have gf0 := blk_frozen G5.out 0
              have gf1 := blk_frozen G5.out 1
              have hb0 : d % 2 = 0 ∨ d % 2 = 1 := by omega
              have HD2 := Aside0.mk (show d = q2 + d % 2 by have := HP.out; have := HS.out; omega)
              rcases hb0 with h0 | h0
              · have kb := KB.out
                rw [h0] at kb
                have hdq := HD2.out
                rw [h0, Nat.add_zero] at hdq
                subst hdq
                clear h0 KB
                go_wp2
                go_roundw
                case rel => exact ⟨j, by omega, rfl, ⟨by rw [HD.out]; exact HF2.out⟩, ⟨by rw [HD.out]; exact blk_alloc (pow_put G5.out _ _) _⟩, ⟨blk_alloc (blk_far (blk_far X5.out hXg _) hXg _) _⟩, ⟨blk_alloc (blk_far (blk_far Y5.out hYg _) hYg _) _⟩, ⟨((B5.out.setCell (show w.heap.size ≤ g by omega) _).setCell (show w.heap.size ≤ g by omega) _).alloc (by have := B5.out.size; simpa using this) _⟩⟩
                case measure => (simp [intOf]) <;> omega
              · have kb := KB.out
                rw [h0] at kb
                have HB1 := Aside0.mk h0
                clear h0 KB
                go_wp2
                go_roundw
                case rel => exact ⟨1, q2, by omega, rfl, ⟨HS.out⟩, ⟨fun _ => HB1.out⟩, HF2, ⟨blk_alloc (pow_put G5.out _ _) _⟩, ⟨blk_alloc (blk_far (blk_far X5.out hXg _) hXg _) _⟩, ⟨blk_alloc (blk_far (blk_far Y5.out hYg _) hYg _) _⟩, ⟨((B5.out.setCell (show w.heap.size ≤ g by omega) _).setCell (show w.heap.size ≤ g by omega) _).alloc (by have := B5.out.size; simpa using this) _⟩⟩
                case measure => simp [intOf]
            · have e5 : upz a b q2 = (0, 0, 2) := if_neg hf
              rw [e5]
              have HZ := Aside0.mk (FL.out hf)
              clear hf e5 FL
              have y0 : w5.cell? ⟨w.heap.size + 1, 0, none⟩ = some (.int .i64 0) := (blk_cell Y5.out 0).trans rfl
              have y1 : w5.cell? ⟨w.heap.size + 1, 1, none⟩ = some (.int .i64 0) := (blk_cell Y5.out 1).trans rfl
              have yf0 := blk_frozen Y5.out 0
              have yf1 := blk_frozen Y5.out 1
              have hny : ¬ w.heap.size + 1 = w5.heap.size := by omega
              have hny' : ¬ w5.heap.size = w.heap.size + 1 := by omega
              go_wp2
              exact bodyPost_ret (results_ct (p := 4) (u := 5) rfl _ _ (w.heap.size + 1) 51 (rat2 0 0) (0, 0) _ rfl (blk_alloc (pow_put Y5.out _ _) _) Tryd.underlying51 rfl (by kernel_rfl)) rfl ⟨by rw [HZ.out]; rfl, ((B5.out.setCell (show w.heap.size ≤ w.heap.size + 1 by omega) _).setCell (show w.heap.size ≤ w.heap.size + 1 by omega) _).alloc (by have := B5.out.size; simpa using this) _⟩
          | 1, _, HQ, HB =>
            have hq : q = 2 * p := HQ.out
            have hbit := HB.out (by omega)
            have MP := Aside0.mk (mul_pow HV.out q 1 HFq.out (fit_one HV.out))
            have FL := Aside0.mk (show ¬ fitz a b (q + 1) → powz a b n = (0, 0, 2) from fun h => powz_fail HV.out HA.out H11.out HM.out hm1 hm31 (show q + 1 ≤ m by have := HP.out; have := hm4.out; omega) h)
            have ML := Aside0.mk (fun W => mul_any (a ^ q) (b ^ q) (a ^ 1) (b ^ 1) W)
            rw [MP.out, Int.pow_one, Int.pow_one] at ML
            have HS := Aside0.mk (show q + 1 = 2 * p + 1 by omega)
            have HBIT := Aside0.mk hbit
            clear hq hbit
            have hix := ix1 (a ^ p) (b ^ p) a b
            generalize he : q + 1 = q2 at *
            have HE := Aside0.mk he
            clear he MP HQ HB
            go_wp2_with fail
            refine (ML.out _).mono ?_
            rintro e w5 ⟨rfl, hb⟩
            have G5 := Aside0.mk (blk_below (blk_alloc G.out _) hb)
            have X5 := Aside0.mk (blk_below (blk_alloc X.out _) hb)
            have Y5 := Aside0.mk (blk_below (blk_alloc Y.out _) hb)
            have B5 := Aside0.mk (keepB (box_below hb) BW.out)
            have hl5 : wr.heap.size < w5.heap.size := blk_lt (box_block hb)
            have hg5 : g < w5.heap.size := by omega
            have hy5 : w.heap.size + 1 < w5.heap.size := by omega
            have hn5 : ¬ g = w5.heap.size := by omega
            have hn5' : ¬ w5.heap.size = g := by omega
            have hXg : w.heap.size ≠ g := by omega
            have hYg : w.heap.size + 1 ≠ g := by omega
            clear hb ML gx gy gf0 gf1 G X Y BW hgn hgn'
            by_cases hf : fitz a b q2
            · have e5 : upz a b q2 = (a ^ q2, b ^ q2, 0) := if_pos hf
              rw [e5]
              have HF2 := Aside0.mk hf
              clear hf e5 FL
              have gx : w5.cell? ⟨g, 0, none⟩ = some (.int .i64 (a ^ q)) := (blk_cell G5.out 0).trans rfl
              have gy : w5.cell? ⟨g, 1, none⟩ = some (.int .i64 (b ^ q)) := (blk_cell G5.out 1).trans rfl
              have gf0 := blk_frozen G5.out 0
              have gf1 := blk_frozen G5.out 1
              have kb := KB.out
              rw [HBIT.out] at kb
              clear KB
              go_wp2
              go_roundw
              case rel => exact ⟨2, q2, by omega, rfl, ⟨HS.out⟩, ⟨fun _ => HBIT.out⟩, HF2, ⟨blk_alloc (pow_put G5.out _ _) _⟩, ⟨blk_alloc (blk_far (blk_far X5.out hXg _) hXg _) _⟩, ⟨blk_alloc (blk_far (blk_far Y5.out hYg _) hYg _) _⟩, ⟨((B5.out.setCell (show w.heap.size ≤ g by omega) _).setCell (show w.heap.size ≤ g by omega) _).alloc (by have := B5.out.size; simpa using this) _⟩⟩
              case measure => simp [intOf]
            · have e5 : upz a b q2 = (0, 0, 2) := if_neg hf
              rw [e5]
              have HZ := Aside0.mk (FL.out hf)
              clear hf e5 FL
              have y0 : w5.cell? ⟨w.heap.size + 1, 0, none⟩ = some (.int .i64 0) := (blk_cell Y5.out 0).trans rfl
              have y1 : w5.cell? ⟨w.heap.size + 1, 1, none⟩ = some (.int .i64 0) := (blk_cell Y5.out 1).trans rfl
              have yf0 := blk_frozen Y5.out 0
              have yf1 := blk_frozen Y5.out 1
              have hny : ¬ w.heap.size + 1 = w5.heap.size := by omega
              have hny' : ¬ w5.heap.size = w.heap.size + 1 := by omega
              go_wp2
              exact bodyPost_ret (results_ct (p := 4) (u := 5) rfl _ _ (w.heap.size + 1) 51 (rat2 0 0) (0, 0) _ rfl (blk_alloc (pow_put Y5.out _ _) _) Tryd.underlying51 rfl (by kernel_rfl)) rfl ⟨by rw [HZ.out]; rfl, ((B5.out.setCell (show w.heap.size ≤ w.heap.size + 1 by omega) _).setCell (show w.heap.size ≤ w.heap.size + 1 by omega) _).alloc (by have := B5.out.size; simpa using this) _⟩
end Go.Proofs.YtjnheoelcahkaaaDoor.Rat
