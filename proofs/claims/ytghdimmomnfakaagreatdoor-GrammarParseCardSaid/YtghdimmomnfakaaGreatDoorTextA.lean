/-
  grammar.Text: the lines of the rules, one behind the other, by a builder.
-/
import Derived.Test.YtghdimmomnfakaaGreatDoorGvValid
import Derived.Test.YtghdimmomnfakaaGreatDoorGvLine
import Derived.Test.YtghdimmomnfakaaGreatDoorBJ
set_option linter.unusedVariables false
namespace Go.Proofs.YtghdimmomnfakaaGreatDoor.Gv
open Go.RowKit Go.Proofs.YtghdimmomnfakaaGreatDoorW.PrintWords Go.Proofs.YtghdimmomnfakaaGreatDoorW.PrintLast Go.Proofs.YtghdimmomnfakaaGreatDoorW.PrintMore
open Go.Proofs.YtghdimmomnfakaaGreatDoor.X (S31 k31 rd_T31 at_T31 z31)
/-- the line of a rule -/
def lineOf (k : Nat) (x : S31) : Option ByteArray := Go.Proofs.YtghdimmomnfakaaGreatDoor.Z.grammar_line.f k x.f0 x.f1 x.f2 x.f3 x.f4 x.f5
def lines (k : Nat) : List S31 → Option (List UInt8)
  | [] => some []
  | x :: r => (lineOf k x).bind fun s => (lines k r).bind fun t => some (s.data.toList ++ 10 :: t)
def grammar_Text.f (k : Nat) (l0 : List S31) : Option ByteArray :=
  (Go.Proofs.YtghdimmomnfakaaGreatDoor.X.grammar_Valid.f k l0).bind fun b => if b = true then (lines k l0).bind fun t => (if t.length ≤ 140737488355328 then some ⟨t.toArray⟩ else none) else some ⟨#[]⟩
theorem lineOf.mono (k : Nat) (x : S31) : LeO (lineOf k x) (lineOf (k + 1) x) := Go.Proofs.YtghdimmomnfakaaGreatDoor.Z.grammar_line.mono _ _ _ _ _ _ k
theorem lines.mono (k : Nat) : ∀ l, LeO (lines k l) (lines (k + 1) l)
  | [] => LeO.refl _
  | x :: r => LeO.bind (lineOf.mono k x) (fun _ => LeO.bind (lines.mono k r) (fun _ => LeO.refl _))
theorem grammar_Text.mono : ∀ a0 k, LeO (grammar_Text.f k a0) (grammar_Text.f (k + 1) a0) := fun a0 k =>
  LeO.bind (Go.Proofs.YtghdimmomnfakaaGreatDoor.X.grammar_Valid.mono a0 k) (fun _ => LeO.ite (LeO.bind (lines.mono k a0) (fun _ => LeO.refl _)) (LeO.refl _))
theorem lines_step {k : Nat} {l : List S31} {i : Nat} {rest : List UInt8} (hi : i < l.length) (h : lines k (l.drop i) = some rest) :
    ∃ s t, lineOf k (rd_T31 l (i : Int)) = some s ∧ lines k (l.drop (i + 1)) = some t ∧ rest = s.data.toList ++ 10 :: t := by
  have e : l.drop i = rd_T31 l (i : Int) :: l.drop (i + 1) := by
    unfold rd_T31
    rw [show ((i : Int)).toNat = i from rfl, List.getD_eq_getElem?_getD, List.getElem?_eq_getElem hi]
    exact List.drop_eq_getElem_cons hi
  rw [e, lines] at h
  obtain ⟨s, hs, h⟩ := Option.bind_eq_some_iff.1 h
  obtain ⟨t, ht, h⟩ := Option.bind_eq_some_iff.1 h
  exact ⟨s, t, hs, ht, (Option.some.inj h).symm⟩
theorem bld_fresh (w : World) : Bld w.heap.size [] (w.alloc (.cells #[.pointer none, .slice none 0 0] 45)) :=
  Or.inl ⟨Nat.le_refl _, .slice none 0 0, heap_alloc_new w _, by first | exact World.ownsRow_nil _ _ _ _ | (refine ⟨?_, ?_⟩ <;> simp), by simp [Value.ownBlock]⟩
theorem bld_keep {b : Nat} {bs : List Value} {w w1 : World} (h : Bld b bs w) (hb : Below w.heap.size w w1) : Bld b bs w1 := by
  rcases h with ⟨hB, v, hk, hown, hne⟩ | ⟨hB, v, hk, hown, hne⟩
  · exact Or.inl ⟨hB, v, blk_below hk hb, own_move hown (fun k hk' => hb.block k (hown.lt k hk').2), hne⟩
  · exact Or.inr ⟨hB, v, blk_below hk hb, own_move hown (fun k hk' => hb.block k (hown.lt k hk').2), hne⟩
theorem cells_nl (acc : List UInt8) (s : ByteArray) : Lib.byteCells acc ++ Lib.strCells (s ++ (⟨#[10]⟩ : ByteArray)) = Lib.byteCells (acc ++ s.data.toList ++ [10]) := by
  rw [Lib.strCells_eq, ← Lib.byteCells_append]
  simp
theorem size_nl (s : ByteArray) : (s ++ (⟨#[10]⟩ : ByteArray)).size = s.size + 1 := by
  rw [ByteArray.size_append]; rfl
set_option maxHeartbeats 4000000 in
set_option maxRecDepth 100000 in
theorem grammar_Text.calls (k : Nat) (A0 : Option Addr) (c0 : Nat) (l0 : List (S31)) (r : ByteArray) (w : World) (hG : Gw w) (hr0 : Kd.C k31 w A0 l0.length l0) (hc0 : l0.length ≤ c0) (h : grammar_Text.f k l0 = some r) :
    Calls Tryz.prog 8 #[.slice A0 l0.length c0] w fun e w' => e = .returned (.string r) ∧ Below w.heap.size w w' := by
  unfold grammar_Text.f at h
  obtain ⟨b, hv, h⟩ := Option.bind_eq_some_iff.1 h
  have valid := Go.Proofs.YtghdimmomnfakaaGreatDoor.X.grammar_Valid.calls k A0 c0 l0 b w hG hr0 hc0 hv
  have HR := hid hr0
  have HG := hid hG
  clear hr0 hG hv
  have hn63 : l0.length ≤ 9223372036854775807 := by
    have := HR.out.2.1
    first | exact this | (unfold maxLen at this; omega)
  cases b with
  | false =>
    obtain rfl := Option.some.inj h
    clear h
    go_enter Tryz.func8, Tryz.ntmps8
    go_wp2_with (go_at_call 9; refine valid.mono ?_; rintro e w1 ⟨rfl, hb1⟩)
    go_ret
    exact ⟨rfl, hb1⟩
  | true =>
    rw [if_pos rfl] at h
    obtain ⟨t, ht, h⟩ := Option.bind_eq_some_iff.1 h
    split at h
    · rename_i hlen
      obtain rfl := Option.some.inj h
      clear h
      have HT := hid ht
      have HL := hid hlen
      clear ht hlen
      generalize hn : l0.length = n at valid hn63 hc0 ⊢
      have HN := hid hn
      clear hn
      go_enter Tryz.func8, Tryz.ntmps8
      go_wp2_with (go_at_call 9; refine valid.mono ?_; rintro e w1 ⟨rfl, hb1⟩; have HB1 := hid hb1; have HF := hid (bld_fresh w1); clear hb1)
      go_loopw [11] (fun i wr => ∃ kk : Nat, ∃ acc rest : List UInt8, kk ≤ n ∧ i = .int .i64 kk ∧ Hid (Bld w1.heap.size (Lib.byteCells acc) wr) ∧ Hid (Below w1.heap.size w1 wr) ∧ Hid (lines k (l0.drop kk) = some rest ∧ t = acc ++ rest)) (fun i _ => n - (intOf i).toNat)
      case atStart => exact ⟨0, [], t, Nat.zero_le _, rfl, HF, hid ((Below.refl _ _).alloc (Nat.le_refl _) _), hid ⟨HT.out, rfl⟩⟩
      case round =>
        obtain ⟨kk, acc, rest, hkk, rfl, HB, HW, HS⟩ := hrel
        have hBw : w1.heap.size ≤ wr.heap.size := HW.out.size
        have hw0 : Below w.heap.size w wr := keepB HW.out HB1.out
        by_cases hlt : kk < n
        · have hltz : (kk : Int) < (n : Int) := by omega
          obtain ⟨ad, e, x0, x1, x2, x3, x4, x5⟩ := at_T31 HR.out (kk : Int) (by omega) (by have := HN.out; omega)
          cases e
          replace x0 := keepC hw0 x0
          replace x1 := keepC hw0 x1
          replace x2 := keepC hw0 x2
          replace x3 := keepC hw0 x3
          replace x4 := keepC hw0 x4
          replace x5 := keepC hw0 x5
          rw [show ((kk : Int)).toNat = kk from rfl] at x0 x1 x2 x3 x4 x5
          obtain ⟨s, t', hs, ht', hrest⟩ := lines_step (by have := HN.out; omega) HS.out.1
          have hl := HL.out
          rw [HS.out.2, hrest] at hl
          simp only [List.length_append, List.length_cons, ← Lib.size_eq] at hl
          have line := fun W hG => Go.Proofs.YtghdimmomnfakaaGreatDoor.Z.grammar_line.calls k _ _ _ _ _ _ s W hG hs
          have HS2 := hid (show lines k (l0.drop (kk + 1)) = some t' ∧ t = (acc ++ s.data.toList ++ [10]) ++ t' from ⟨ht', by rw [HS.out.2, hrest]; simp⟩)
          have HGr := hid (Gw.below HG.out hw0)
          have hw0' := hid hw0
          have hlen1 : (Lib.byteCells acc).length = acc.length := Lib.byteCells_length _
          clear HS ht' hrest hs hw0
          go_wp2_with (go_at_call 19; refine (line _ (Gw.below HGr.out (below_alloc (Below.refl _ _) _))).mono ?_; rintro e w2 ⟨rfl, hb2⟩; have hb3 := keepB hb2 (below_alloc (Below.refl _ _) _); have HB2 := hid (bld_keep HB.out hb3); have HW2 := hid (HW.out.trans (hb3.mono hBw)); have hBw2 : w1.heap.size ≤ w2.heap.size := HW2.out.size; clear hb2 hb3)
          have hsz : (Lib.byteCells acc).length + (s ++ (⟨#[10]⟩ : ByteArray)).size ≤ 140737488355328 := by rw [hlen1, size_nl]; omega
          have wr10 := writeString w1.heap.size (Lib.byteCells acc) (s ++ (⟨#[10]⟩ : ByteArray)) w2 HB2.out hsz hBw2
          rw [cells_nl] at wr10
          refine wr10.mono ?_
          rintro e w3 ⟨rfl, h3, hb3⟩
          clear wr10 hsz
          have H3 := hid h3
          have HB3 := hid (HW2.out.trans hb3)
          clear h3 hb3
          go_wp2
          exact ⟨⟨kk + 1, acc ++ s.data.toList ++ [10], t', by omega, by go_num, H3, HB3, HS2⟩, by simp [intOf]; omega⟩
        · have hltz : ¬ (kk : Int) < (n : Int) := by omega
          have hk : kk = n := by omega
          subst hk
          have hall : rest = [] := by
            have := HS.out.1
            rw [← HN.out, List.drop_length, lines] at this
            exact (Option.some.inj this).symm
          have hacc : acc = t := by rw [HS.out.2, hall, List.append_nil]
          subst hacc
          go_wp2_with (go_at_call 20; refine (Tryz.Builder_String_any w1.heap.size w1.heap.size _ wr HB.out hBw).mono ?_; rintro e w5 ⟨rfl, hb5⟩; have HB5 := hid (keepB ((Below.refl _ _).trans (HW.out.trans hb5)) HB1.out))
          go_ret
          exact ⟨rfl, HB5.out⟩
    · cases h
end Go.Proofs.YtghdimmomnfakaaGreatDoor.Gv

