/-
  unit.Text.
-/
import Derived.Test.YtjnheoelcahkaaaDoorUnEq
import Derived.Lib.ItoaLen
set_option linter.unusedVariables false
set_option linter.unusedSimpArgs false
namespace Go.Proofs.YtjnheoelcahkaaaDoor.Gv
open Go.RowKit Go.Proofs.YtjnheoelcahkaaaDoorW.PrintWords Go.Proofs.YtjnheoelcahkaaaDoorW.PrintLast Go.Proofs.YtjnheoelcahkaaaDoorW.PrintMore
def baseN (k : Nat) : ByteArray := match k with | 0 => ⟨#[109]⟩ | 1 => ⟨#[107, 103]⟩ | 2 => ⟨#[115]⟩ | 3 => ⟨#[65]⟩ | 4 => ⟨#[75]⟩ | 5 => ⟨#[109, 111, 108]⟩ | _ => ⟨#[99, 100]⟩
abbrev basesV : Value := .agg #[.string ⟨#[109]⟩, .string ⟨#[107, 103]⟩, .string ⟨#[115]⟩, .string ⟨#[65]⟩, .string ⟨#[75]⟩, .string ⟨#[109, 111, 108]⟩, .string ⟨#[99, 100]⟩]
theorem bases_at (k : Nat) (h : k < 7) (w : World) : Sem.run Tryd.prog (Instr.index 71 basesV (.int .i64 (k : Int))) w = .ok (.string (baseN k)) w := by
  rcases lt7 h with rfl | rfl | rfl | rfl | rfl | rfl | rfl <;> kernel_rfl
theorem unit_bases.any (w : World) : Calls Tryd.prog 53 #[] w fun e w' => e = .returned basesV ∧ Below w.heap.size w w' := by
  go_enter Tryd.func53, Tryd.ntmps53
  go_wp2
  exact bodyPost_ret (results_cell_row rfl _ _ w.heap.size 71 #[.string ⟨#[109]⟩, .string ⟨#[107, 103]⟩, .string ⟨#[115]⟩, .string ⟨#[65]⟩, .string ⟨#[75]⟩, .string ⟨#[109, 111, 108]⟩, .string ⟨#[99, 100]⟩] (0, 0) _ rfl (blk_new _ _) Tryd.underlying71 rfl (by kernel_rfl)) rfl ⟨rfl, (Below.refl _ _).alloc (Nat.le_refl _) _⟩
theorem info_str : (Tryd.prog.info? 9).map (fun i => (i.zero, i.size, i.bytes)) = some (some (.string ⟨#[]⟩), 1, 16) := by kernel_rfl
/-- the parts of the text, up to a place -/
def partD (d : Nat → Int) (k : Nat) : List ByteArray := if d k = 0 then [] else if d k = 1 then [baseN k] else [baseN k ++ ⟨#[94]⟩ ++ ⟨(Lib.itoa (d k)).toArray⟩]
def partsD (d : Nat → Int) : Nat → List ByteArray
  | 0 => []
  | k + 1 => partsD d k ++ partD d k
theorem eqz (d : Nat → Int) (b : Bool) (h : eqD d zeroD = b) (w : World) : Sem.run Tryd.prog (Op.equalIn 10000 23 (.agg (agg7 d)) (.agg #[.int .i64 0, .int .i64 0, .int .i64 0, .int .i64 0, .int .i64 0, .int .i64 0, .int .i64 0])) w = .ok b w := by
  rw [← h]; exact eq7 d zeroD w
theorem partD_size (d : Nat → Int) (k : Nat) : (partD d k).length ≤ 1 := by
  unfold partD
  split
  · simp
  · split <;> simp
theorem partsD_size (d : Nat → Int) (k : Nat) : (partsD d k).length ≤ k := by
  induction k with
  | zero => simp [partsD]
  | succ k ih => have := partD_size d k; simp [partsD]; omega
theorem baseN_size (k : Nat) : (baseN k).size ≤ 3 := by
  unfold baseN; split <;> decide
set_option maxHeartbeats 2000000 in
set_option maxRecDepth 1000000 in
theorem unit_Text.any (d : Nat → Int) (r : ByteArray) (w : World) (hG : Gw w) (hd : dimB d = true) (hz : eqD d zeroD = false) (hj : strings_Join.f (partsD d 7) ⟨#[32]⟩ = some r) :
    Calls Tryd.prog 29 #[.agg (agg7 d)] w fun e w' => e = .returned (.string r) ∧ Below w.heap.size w w' := by
  have va := unit_Valid.is d _ hd
  have HD := Aside0.mk ((dimB_iff d).1 hd)
  have HG := Aside0.mk hG
  have HJ := Aside0.mk hj
  have hq := eqz d _ hz
  clear hd hG hj hz
  go_enter Tryd.func29, Tryd.ntmps29
  go_wp2_with fail
  refine (va _).mono ?_
  rintro e w1 ⟨rfl, hb1⟩
  have X1 := Aside0.mk (box_block hb1)
  have B1 := Aside0.mk (box_below hb1)
  clear hb1 va
  obtain ⟨x0, x1, x2, x3, x4, x5, x6⟩ := cells7 X1.out
  go_wp2_with fail
  refine (unit_bases.any _).mono ?_
  rintro e w2 ⟨rfl, hb2⟩
  have X2 := Aside0.mk (blk_below X1.out hb2)
  have B2 := Aside0.mk (keepB hb2 B1.out)
  clear hb2 x0 x1 x2 x3 x4 x5 x6 hq
  go_wp2
  go_loopw [3, 4, 5, 13] (fun v _ _ i wr => ∃ k : Nat, k ≤ 7 ∧ i = .int .i64 k ∧ Aside0 (Kd.R Kd.string 9 wr w.heap.size (fun _ => True) v (partsD d k)) ∧ Aside0 (Box7 wr w.heap.size d) ∧ Aside0 (Below w.heap.size w wr)) (fun _ _ _ i _ => 7 - (intOf i).toNat)
  case atStart => exact ⟨0, Nat.zero_le _, rfl, ⟨Kd.R_nil _ _ _ _ _⟩, X2, B2⟩
  case round =>
    clear X1 B1 X2 B2
    obtain ⟨k, hk, rfl, HO, X, BW⟩ := hrel
    obtain ⟨Ao, co, eo⟩ := Kd.R_slice HO.out
    subst eo
    by_cases hlt : k < 7
    · have ix := bases_at k hlt
      have hl0 : (0 : Int) ≤ (k : Int) := by omega
      have hl7 : (k : Int) < 7 := by omega
      have hx := cell7 X.out hlt
      have hok := okD_le (HD.out k hlt)
      have hpl := partsD_size d k
      by_cases h0 : d k = 0
      · have e0 : (d k == 0) = true := beq_iff_eq.2 h0
        have hp : partsD d (k + 1) = partsD d k := by
          show partsD d k ++ partD d k = _
          unfold partD
          rw [if_pos h0, List.append_nil]
        have HP := Aside0.mk hp
        clear hp h0 hok
        go_wp2
        go_roundw
        case rel => exact ⟨k + 1, by omega, by go_num, ⟨by rw [HP.out]; exact HO.out⟩, X, BW⟩
        case measure => simp [intOf]; omega
      · have e0 : (d k == 0) = false := beq_eq_false_iff_ne.2 h0
        by_cases h1 : d k = 1
        · have e1 : (d k == 1) = true := beq_iff_eq.2 h1
          have hp : partsD d k ++ [baseN k] = partsD d (k + 1) := by
            show _ = partsD d k ++ partD d k
            unfold partD
            rw [if_neg h0, if_pos h1]
          have HP := Aside0.mk hp
          clear hp h0 h1 hok
          go_wp2_with ((with_reducible refine gate_builtin (b := .append) (xs := #[.tmp 34, .tmp 36]) rfl ?_); at_builtin; refine Kd.R_append Kd.string (w0 := w) w.heap.size rfl (.tmp 34) (.tmp 36) 84 9 (.string ⟨#[]⟩) 16 rfl Tryd.underlying84 info_str rfl (by decide) (by omega) (.slice Ao (partsD d k).length co) (partsD d k) (baseN k) [.string (baseN k)] (fun _ => True) (fun _ => False) rfl (by first | (go_simp; done) | (go_simp; rfl)) ?aP (fun _ hk => hk.elim) ?aF ?aO ?aB ?aS ?aL ?_; (case aP => exact rfl); (case aB => exact BW.out); (case aF => exact (fun _ _ => trivial)); (case aO => exact HO.out); (case aS => exact BW.out.size); (case aL => omega); intro v1 w17 ho hb hg hat; rw [HP.out] at ho; have HO2 := Aside0.mk ho; have BW2 := Aside0.mk hb; have X2 := Aside0.mk (blk_grown X.out hg (Kd.R_ne HO.out X.out (by decide))); clear ho hb hg hat)
          go_roundw
          case rel => exact ⟨k + 1, by omega, by go_num, HO2, X2, BW2⟩
          case measure => simp [intOf]; omega
        · have e1 : (d k == 1) = false := beq_eq_false_iff_ne.2 h1
          have hp : partsD d k ++ [baseN k ++ ⟨#[94]⟩ ++ ⟨(Lib.itoa (d k)).toArray⟩] = partsD d (k + 1) := by
            show _ = partsD d k ++ partD d k
            unfold partD
            rw [if_neg h0, if_neg h1]
          have HP := Aside0.mk hp
          have hi : strconv_Itoa.f (d k) = some ⟨(Lib.itoa (d k)).toArray⟩ := by
            unfold strconv_Itoa.f
            rw [if_pos (by omega), if_pos (by omega)]
          have call := fun W (hW : Gw W) => strconv_Itoa.calls (d k) _ W hW hi
          have hbs := baseN_size k
          have his : (⟨(Lib.itoa (d k)).toArray⟩ : ByteArray).size ≤ 100 := by
            have := Lib.itoa_length_le (d k) (by omega) (by omega)
            show (Lib.itoa (d k)).toArray.size ≤ 100
            rw [List.size_toArray]; omega
          generalize (⟨(Lib.itoa (d k)).toArray⟩ : ByteArray) = it at *
          have CALL := Aside0.mk call
          clear hp h0 h1 hok hi call
          go_wp2_with fail
          refine (CALL.out _ (Gw.below HG.out BW.out)).mono ?_
          rintro e w3 ⟨rfl, hb3⟩
          have HO3 := Aside0.mk (Kd.R_below HO.out hb3)
          have X3 := Aside0.mk (blk_below X.out hb3)
          have BW3 := Aside0.mk (keepB hb3 BW.out)
          clear hb3 hx HO X BW
          go_wp2_with ((with_reducible refine gate_builtin (b := .append) (xs := #[.tmp 20, .tmp 28]) rfl ?_); at_builtin; refine Kd.R_append Kd.string (w0 := w) w.heap.size rfl (.tmp 20) (.tmp 28) 84 9 (.string ⟨#[]⟩) 16 rfl Tryd.underlying84 info_str rfl (by decide) (by omega) (.slice Ao (partsD d k).length co) (partsD d k) (baseN k ++ (⟨#[94]⟩ : ByteArray) ++ it) [Value.string (baseN k ++ (⟨#[94]⟩ : ByteArray) ++ it)] (fun _ => True) (fun _ => False) rfl (by first | (go_simp; done) | (go_simp; rfl)) ?aP (fun _ hk => hk.elim) ?aF ?aO ?aB ?aS ?aL ?_; (case aP => exact rfl); (case aB => exact BW3.out); (case aF => exact (fun _ _ => trivial)); (case aO => exact HO3.out); (case aS => exact BW3.out.size); (case aL => omega); intro v1 w17 ho hb hg hat; rw [HP.out] at ho; have HO2 := Aside0.mk ho; have BW2 := Aside0.mk hb; have X2 := Aside0.mk (blk_grown X3.out hg (Kd.R_ne HO3.out X3.out (by decide))); clear ho hb hg hat)
          go_roundw
          case rel => exact ⟨k + 1, by omega, by go_num, HO2, X2, BW2⟩
          case measure => simp [intOf]; omega
    · have hk7 : k = 7 := by omega
      subst hk7
      have hj := fun W hr => strings_Join.calls Ao co (partsD d 7) ⟨#[32]⟩ r W hr (Kd.R_reads' HO.out).2.1 HJ.out
      have hr := (Kd.R_reads' HO.out).2.2
      have CALL := Aside0.mk (hj wr hr)
      clear hj hr hlt hk
      go_wp2_with fail
      refine CALL.out.mono ?_
      rintro e w3 ⟨rfl, hb3⟩
      have BW3 := Aside0.mk (keepB hb3 BW.out)
      clear hb3
      go_wp2
      go_ret
      exact ⟨rfl, BW3.out⟩
set_option maxHeartbeats 2000000 in
theorem unit_Text.no (d : Nat → Int) (w : World) (hd : dimB d = false) :
    Calls Tryd.prog 29 #[.agg (agg7 d)] w fun e w' => e = .returned (.string ⟨#[]⟩) ∧ Below w.heap.size w w' := by
  have va := unit_Valid.is d _ hd
  clear hd
  go_enter Tryd.func29, Tryd.ntmps29
  go_wp2_with fail
  refine (va _).mono ?_
  rintro e w1 ⟨rfl, hb1⟩
  have B1 := Aside0.mk (box_below hb1)
  clear hb1 va
  go_wp2
  go_ret
  exact ⟨rfl, B1.out⟩
set_option maxHeartbeats 2000000 in
theorem unit_Text.one (d : Nat → Int) (w : World) (hd : dimB d = true) (hz : eqD d zeroD = true) :
    Calls Tryd.prog 29 #[.agg (agg7 d)] w fun e w' => e = .returned (.string ⟨#[49]⟩) ∧ Below w.heap.size w w' := by
  have va := unit_Valid.is d _ hd
  have hq := eqz d _ hz
  clear hd hz
  go_enter Tryd.func29, Tryd.ntmps29
  go_wp2_with fail
  refine (va _).mono ?_
  rintro e w1 ⟨rfl, hb1⟩
  have X1 := Aside0.mk (box_block hb1)
  have B1 := Aside0.mk (box_below hb1)
  clear hb1 va
  obtain ⟨x0, x1, x2, x3, x4, x5, x6⟩ := cells7 X1.out
  go_wp2
  go_ret
  exact ⟨rfl, B1.out⟩
/-- the parts with single spaces between them -/
def textD (d : Nat → Int) : ByteArray := if dimB d = true then (if eqD d zeroD = true then ⟨#[49]⟩ else ⟨(joinB (partsD d 7) ⟨#[32]⟩).toArray⟩) else ⟨#[]⟩
/-- the example -/
def exD : Nat → Int := of7 2 1 (-3) 0 0 0 0
def exT : ByteArray := ⟨#[109, 94, 50, 32, 107, 103, 32, 115, 94, 45, 51]⟩
theorem ex_text : strings_Join.f (partsD exD 7) ⟨#[32]⟩ = some exT := by
  have e : joinB (partsD exD 7) ⟨#[32]⟩ = [109, 94, 50, 32, 107, 103, 32, 115, 94, 45, 51] := by decide +kernel
  unfold strings_Join.f
  rw [e, if_pos (by decide), if_pos (by have := partsD_size exD 7; omega)]
  rfl
set_option maxHeartbeats 2000000 in
theorem vinculumlaw53_awake.any (w : World) (hG : Gw w) :
    Calls Tryd.prog 11 #[] w fun e w' => e = .returned (.bool true) ∧ Below w.heap.size w w' := by
  have h1 : dimB exD = true := by decide +kernel
  have h2 : eqD exD zeroD = false := by decide +kernel
  have hc := fun W (hW : Gw W) => unit_Text.any exD exT W hW h1 h2 ex_text
  have HC := Aside0.mk (hc w hG)
  clear hc h1 h2 hG
  go_enter Tryd.func11, Tryd.ntmps11
  go_wp2_with fail
  refine HC.out.mono ?_
  rintro e w1 ⟨rfl, hb1⟩
  have B1 := Aside0.mk hb1
  clear hb1
  have hx : (exT.toList == ([109, 94, 50, 32, 107, 103, 32, 115, 94, 45, 51] : List UInt8)) = true := by decide +kernel
  go_wp2
  go_ret
  exact ⟨rfl, B1.out⟩
end Go.Proofs.YtjnheoelcahkaaaDoor.Gv
