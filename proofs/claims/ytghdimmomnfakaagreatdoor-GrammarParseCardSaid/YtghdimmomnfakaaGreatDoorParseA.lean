/-
  grammar.Parse, over whatever grammar.read answers.
-/
import Derived.Test.YtghdimmomnfakaaGreatDoorReadBase
import Derived.Test.YtghdimmomnfakaaGreatDoorGvA
import Derived.Test.YtghdimmomnfakaaGreatDoorReadK01
import Derived.Test.YtghdimmomnfakaaGreatDoorReadK23
import Derived.Test.YtghdimmomnfakaaGreatDoorRefBase
import Derived.Test.YtghdimmomnfakaaGreatDoorRlKa
import Derived.Test.YtghdimmomnfakaaGreatDoorRlKb
import Derived.Test.YtghdimmomnfakaaGreatDoorRlKc
import Derived.Test.YtghdimmomnfakaaGreatDoorRlKd
set_option linter.unusedVariables false
set_option linter.unusedSimpArgs false
namespace Go.Proofs.YtghdimmomnfakaaGreatDoor.Gv
open Go.RowKit Go.Proofs.YtghdimmomnfakaaGreatDoorW.PrintWords Go.Proofs.YtghdimmomnfakaaGreatDoorW.PrintLast Go.Proofs.YtghdimmomnfakaaGreatDoorW.PrintMore
open Go.Proofs.YtghdimmomnfakaaGreatDoor.X (S31 k31 rd_T31 at_T31 z31 k31_mkM)
theorem info_rule : (Tryz.prog.info? 31).map (fun i => (i.zero, i.size, i.bytes)) = some (some (.agg #[.int .i64 0, .string ⟨#[]⟩, .string ⟨#[]⟩, .int .i64 0, .int .i64 0, .int .i64 0]), k31.sz, 64) := by kernel_rfl
set_option maxHeartbeats 1000000 in
theorem closureP_calls (a0 : Int) (a1 a2 : ByteArray) (a3 a4 a5 : Int) (W : World) (x : S31) (g : Nat) (hk : W.heap[g]? = some (.cells #[.int .i64 a0, .string a1, .string a2, .int .i64 a3, .int .i64 a4, .int .i64 a5] 31 (0, 0))) :
    Calls Tryz.prog 13 #[ruleV x, .pointer (some ⟨g, 0, none⟩)] W fun e w' => e = .returned (.bool (clashP a0 a1 a2 a3 a4 a5 x)) ∧ Below W.heap.size W w' := by
  have l1 : g < W.heap.size := blk_lt hk
  have n1 : ¬ g = W.heap.size := Nat.ne_of_lt l1
  have n3 : ¬ W.heap.size = g := fun e => n1 e.symm
  have call := fun W' => Go.Proofs.YtghdimmomnfakaaGreatDoor.Y.grammar_clash.calls x.f0 x.f1 x.f2 x.f3 x.f4 x.f5 a0 a1 a2 a3 a4 a5 _ W' (clash_total a0 a1 a2 a3 a4 a5 x)
  generalize clashP a0 a1 a2 a3 a4 a5 x = b at call ⊢
  have c0 := (blk_cell hk 0).trans rfl
  have c1 := (blk_cell hk 1).trans rfl
  have c2 := (blk_cell hk 2).trans rfl
  have c3 := (blk_cell hk 3).trans rfl
  have c4 := (blk_cell hk 4).trans rfl
  have c5 := (blk_cell hk 5).trans rfl
  clear hk
  go_enter Tryz.func13, Tryz.ntmps13
  go_wp2_with (go_at_call 14; refine (call _).mono ?_; rintro e w' ⟨rfl, hb'⟩)
  go_ret
  exact ⟨rfl, keepB hb' ((Below.refl _ _).alloc (Nat.le_refl _) _)⟩
theorem anyY (y : S31) (l : List S31) (g : Nat) (A0 : Option Addr) (c0 : Nat) (w : World) (hr : Kd.C k31 w A0 l.length l) (hc : l.length ≤ c0)
    (hk : w.heap[g]? = some (.cells #[.int .i64 y.f0, .string y.f1, .string y.f2, .int .i64 y.f3, .int .i64 y.f4, .int .i64 y.f5] 31 (0, 0))) :
    Calls Tryz.prog 12 #[.slice A0 l.length c0, .func (.func 13) #[] #[.pointer (some ⟨g, 0, none⟩)]] w fun e w' => e = .returned (.bool (decide (0 ≤ idxP (clashP y.f0 y.f1 y.f2 y.f3 y.f4 y.f5) l))) ∧ Below w.heap.size w w' :=
  containsFunc 13 _ (clashP y.f0 y.f1 y.f2 y.f3 y.f4 y.f5) (enters_of Tryz.func13 (by kernel_rfl) rfl) A0 c0 l w hr hc (fun W x hb => closureP_calls y.f0 y.f1 y.f2 y.f3 y.f4 y.f5 W x g (blk_below hk hb))
/-- does a rule ahead clash with the i-th -/
def clY (y : S31) (l : List S31) : Bool := decide (0 ≤ idxP (clashP y.f0 y.f1 y.f2 y.f3 y.f4 y.f5) l)
def clAt (l : List S31) (i : Nat) : Bool := clY (rd_T31 l (i : Int)) (l.take i)
theorem anyP (l : List S31) (i : Nat) (hi : i ≤ l.length) (y : S31) (hy : rd_T31 l (i : Int) = y) (g : Nat) (A0 : Option Addr) (c0 : Nat) (w : World) (hr : Kd.C k31 w A0 l.length l) (hc : l.length ≤ c0)
    (hk : w.heap[g]? = some (.cells #[.int .i64 y.f0, .string y.f1, .string y.f2, .int .i64 y.f3, .int .i64 y.f4, .int .i64 y.f5] 31 (0, 0))) :
    Calls Tryz.prog 12 #[.slice A0 (i : Nat) c0, .func (.func 13) #[] #[.pointer (some ⟨g, 0, none⟩)]] w fun e w' => e = .returned (.bool (clAt l i)) ∧ Below w.heap.size w w' := by
  have e : (l.take i).length = i := by simp; omega
  have h := anyY y (l.take i) g A0 c0 w (Kd.C_take (m := i) hr hi) (by omega) hk
  rw [e] at h
  unfold clAt
  rw [hy]
  exact h
def lineC (t : ByteArray) : ByteArray := ⟨(Lib.cut t.data.toList [10]).1.toArray⟩
def restC (t : ByteArray) : ByteArray := ⟨(Lib.cut t.data.toList [10]).2.1.toArray⟩
def foundC (t : ByteArray) : Bool := (Lib.cut t.data.toList [10]).2.2
theorem lineC_size (t : ByteArray) : (lineC t).size ≤ t.size := by
  have h := (cut_len t.data.toList [10]).1
  show (Lib.cut t.data.toList [10]).1.toArray.size ≤ t.size
  rw [List.size_toArray]; exact h
theorem restC_size (t : ByteArray) (h : foundC t = true) : (restC t).size + 1 ≤ t.size := by
  unfold foundC at h
  show (Lib.cut t.data.toList [10]).2.1.toArray.size + 1 ≤ t.size
  rw [List.size_toArray]
  have e : t.data.toList.length = t.size := Array.length_toList
  rw [Spl.cut_eq] at h ⊢
  generalize he : Spl.splitL 10 t.data.toList = q at h ⊢
  have hj := Spl.join_splitL 10 t.data.toList
  rw [he] at hj
  match q with
  | [] => simp at h
  | [a] => simp at h
  | a :: b :: r =>
    rw [← hj] at e
    rw [← e]
    simp only [Lib.join_cons, Lib.joinTail, List.flatten_cons, List.length_append]
    simp
    try omega
/-- the rules of the lines, or the line that is none -/
def lpF (rd : ByteArray → S31 × Bool) : Nat → ByteArray → List S31 → Except Int (List S31)
  | 0, _, acc => .ok acc
  | k + 1, t, acc => if t.toList.isEmpty = true then .ok acc else if (rd (lineC t)).2 = true then (if foundC t = true then lpF rd k (restC t) (acc ++ [(rd (lineC t)).1]) else .error (acc.length + 1)) else .error (acc.length + 1)
/-- the first rule that clashes, or is one too many -/
def chF (l : List S31) : Nat → Nat → Int × Int
  | 0, _ => (0, 0)
  | m + 1, i => if clAt l i = true then (i + 1, 9) else if (i : Int) = 64 then (i + 1, 6) else chF l m (i + 1)
theorem lpF_done (rd : ByteArray → S31 × Bool) : ∀ k {t : ByteArray} (acc : List S31), t.toList.isEmpty = true → lpF rd k t acc = .ok acc
  | 0, _, _, _ => rfl
  | _ + 1, _, _, h => by rw [lpF, if_pos h]
theorem size_of_ne {t : ByteArray} (h : t.toList.isEmpty = false) : 1 ≤ t.size := by
  rw [ByteArray.toList_eq] at h
  have e : t.data.toList.length = t.size := Array.length_toList
  cases hl : t.data.toList with
  | nil => rw [hl] at h; cases h
  | cons a r => rw [hl] at e; simp at e; omega
theorem chF_step (l : List S31) {i : Nat} (hi : i < l.length) : chF l (l.length - i) i = if clAt l i = true then ((i : Int) + 1, 9) else if (i : Int) = 64 then ((i : Int) + 1, 6) else chF l (l.length - (i + 1)) (i + 1) := by
  rw [show l.length - i = (l.length - (i + 1)) + 1 by omega]; rfl
def parseG (rd : ByteArray → S31 × Bool) (s : ByteArray) : List S31 × Int × Int :=
  match lpF rd s.size s [] with
  | .error n => ([], n, 3)
  | .ok l => if (chF l l.length 0).2 = 0 then (l, 0, 0) else ([], (chF l l.length 0).1, (chF l l.length 0).2)
theorem parseG_err {rd : ByteArray → S31 × Bool} {s : ByteArray} {n : Int} (h : lpF rd s.size s [] = .error n) : parseG rd s = ([], n, 3) := by unfold parseG; rw [h]
theorem parseG_ok {rd : ByteArray → S31 × Bool} {s : ByteArray} {l : List S31} (h : lpF rd s.size s [] = .ok l) (hc : (chF l l.length 0) = (0, 0)) : parseG rd s = (l, 0, 0) := by unfold parseG; rw [h]; simp only [hc]; rfl
theorem parseG_no {rd : ByteArray → S31 × Bool} {s : ByteArray} {l : List S31} {n c : Int} (h : lpF rd s.size s [] = .ok l) (hc : (chF l l.length 0) = (n, c)) (h0 : c ≠ 0) : parseG rd s = ([], n, c) := by unfold parseG; rw [h]; simp only [hc]; rw [if_neg h0]
abbrev ruleC (x : S31) : Array Value := #[.int .i64 x.f0, .string x.f1, .string x.f2, .int .i64 x.f3, .int .i64 x.f4, .int .i64 x.f5]
/-- a list of rules of the call's own -/
abbrev OwnR (w : World) (b : Nat) (v : Value) (l : List S31) : Prop := Kd.R k31 31 w b (fun _ => True) v l
set_option maxHeartbeats 8000000 in
set_option maxRecDepth 1000000 in
theorem parse_any (rd : ByteArray → S31 × Bool) (RD : ∀ (s : ByteArray) (W : World), Ge W → s.size ≤ 1000000 → Calls Tryz.prog 11 #[.string s] W fun e w' => e = .returned (.tuple #[.agg (ruleC (rd s).1), .bool (rd s).2]) ∧ Below W.heap.size W w') (s : ByteArray) (w : World) (hG : Ge w) (hs : s.size ≤ 1000000) :
    Calls Tryz.prog 5 #[.string s] w fun e w' => ∃ v, e = .returned (.tuple #[v, .int .i64 (parseG rd s).2.1, .int .i64 (parseG rd s).2.2]) ∧ OwnR w' w.heap.size v (parseG rd s).1 ∧ Below w.heap.size w w' := by
  have HG := Aside0.mk hG
  have RDA := Aside0.mk RD
  clear hG RD
  go_enter Tryz.func5, Tryz.ntmps5
  go_wp2
  go_loopg [0, 5, 6, 7, 8, 9, 10, 11] s.size (fun gg s0 s5 s6 _ _ _ _ _ wr => ∃ (t : ByteArray) (acc : List S31), t.size ≤ gg ∧ acc.length + t.size ≤ s.size ∧ s0 = .string t ∧ s6 = .int .i64 (acc.length + 1 : Nat) ∧ Aside0 (lpF rd gg t acc = lpF rd s.size s []) ∧ Aside0 (OwnR wr w.heap.size s5 acc) ∧ Aside0 (Below w.heap.size w wr))
  case atStart => exact ⟨s, [], Nat.le_refl _, by simp, rfl, rfl, ⟨rfl⟩, ⟨Kd.R_nil _ _ _ _ _⟩, ⟨Below.refl _ _⟩⟩
  case round =>
    obtain ⟨t, acc, hg, hl, rfl, rfl, HL, HO, BW⟩ := hrel
    obtain ⟨A, c, ev⟩ := Kd.R_slice HO.out
    subst ev
    have hn63 : ((acc.length + 1 : Nat) : Int) ≤ 2000000 := by omega
    by_cases he : t.toList.isEmpty = true
    · have HP := Aside0.mk (HL.out.symm.trans (lpF_done rd gk acc he))
      obtain ⟨b0, O1⟩ : ∃ b, Aside0 (OwnR wr b (.slice A acc.length c) acc ∧ b = w.heap.size) := ⟨_, ⟨HO.out, rfl⟩⟩
      have HR := Aside0.mk (Kd.R_reads' HO.out)
      have hl63 : (acc.length : Int) ≤ 1000000 := by omega
      have hac : (acc.length : Int) ≤ (c : Int) := by have := HR.out.2.1; omega
      generalize hn : acc.length = n at *
      have HN := Aside0.mk hn
      clear hn HL HO
      go_wp2
      go_loopw [12, 13, 43] (fun _ _ i wr2 => ∃ k : Nat, k ≤ n ∧ i = .int .i64 k ∧ Aside0 (chF acc n 0 = chF acc (n - k) k) ∧ Aside0 (Below wr.heap.size wr wr2)) (fun _ _ i _ => n - (intOf i).toNat)
      case atStart => exact ⟨0, Nat.zero_le _, rfl, ⟨rfl⟩, ⟨Below.refl _ _⟩⟩
      case round =>
        obtain ⟨k, hk, rfl, HC, B2⟩ := hrel
        by_cases hlt : k < n
        · obtain ⟨ad, e, x0, x1, x2, x3, x4, x5⟩ := at_T31 HR.out.2.2 (k : Int) (by omega) (by have := HN.out; omega)
          cases e
          replace x0 := keepC B2.out x0
          replace x1 := keepC B2.out x1
          replace x2 := keepC B2.out x2
          replace x3 := keepC B2.out x3
          replace x4 := keepC B2.out x4
          replace x5 := keepC B2.out x5
          have hk0 : (0 : Int) ≤ (k : Int) := by omega
          have hkn : (k : Int) < (n : Int) := by omega
          have hkc : (k : Int) ≤ (c : Int) := by omega
          have ey := chF_step acc (i := k) (by have := HN.out; omega)
          rw [HN.out] at ey
          have EY := Aside0.mk ey
          clear ey
          obtain ⟨y, hy⟩ : ∃ y, rd_T31 acc (k : Int) = y := ⟨_, rfl⟩
          rw [hy, show ((k : Int)).toNat = k from rfl] at x0 x1 x2 x3 x4 x5
          have HY := Aside0.mk hy
          have R2 := Aside0.mk (Kd.C_below HR.out.2.2 B2.out)
          clear hy
          go_wp2_with fail
          refine (anyP acc k (by have := HN.out; omega) y HY.out wr.heap.size (some ad) c _ (by rw [HN.out]; exact Kd.C_alloc R2.out _) (by have := HN.out; omega) (blk_new _ _)).mono ?_
          rintro e w5 ⟨rfl, hb5⟩
          have B5 := Aside0.mk (keepB (box_below hb5) B2.out)
          clear hb5 x0 x1 x2 x3 x4 x5 R2 HY
          cases hc : clAt acc k with
          | true =>
            have HZ := Aside0.mk (HC.out.trans (EY.out.trans (if_pos hc)))
            have HF := Aside0.mk (parseG_no (n := (k : Int) + 1) (c := 9) HP.out (by rw [HN.out]; exact HZ.out) (by decide))
            clear hc
            go_wp2
            go_ret3
            refine ⟨.slice none 0 0, by rw [HF.out]; rfl, by rw [HF.out]; exact Kd.R_nil _ _ _ _ _, keepB B5.out BW.out⟩
          | false =>
            by_cases h64 : (k : Int) = 64
            · have HZ := Aside0.mk (HC.out.trans (EY.out.trans ((if_neg (by rw [hc]; decide)).trans (if_pos h64))))
              have h64b : ((k : Int) == 64) = true := beq_iff_eq.2 h64
              have HF := Aside0.mk (parseG_no (n := (k : Int) + 1) (c := 6) HP.out (by rw [HN.out, HZ.out]) (by decide))
              clear hc h64
              go_wp2
              go_ret3
              refine ⟨.slice none 0 0, by rw [HF.out]; rfl, by rw [HF.out]; exact Kd.R_nil _ _ _ _ _, keepB B5.out BW.out⟩
            · have HZ := Aside0.mk (HC.out.trans (EY.out.trans ((if_neg (by rw [hc]; decide)).trans (if_neg h64))))
              have h64b : ((k : Int) == 64) = false := beq_eq_false_iff_ne.2 h64
              clear hc h64
              go_wp2
              go_roundw
              case rel => exact ⟨k + 1, by omega, by go_num, HZ, B5⟩
              case measure => simp [intOf]; omega
        · have hkn : k = n := by omega
          subst hkn
          have HZ := Aside0.mk (HC.out.trans (by rw [Nat.sub_self]))
          have HF := Aside0.mk (parseG_ok HP.out (by rw [HN.out]; exact HZ.out))
          go_wp2
          go_ret3
          refine ⟨.slice A k c, ?_, ?_, ?_⟩
          · rw [HF.out]; rfl
          · rw [HF.out]
            have h := Kd.R_below O1.out.1 B2.out
            rw [O1.out.2] at h
            exact h
          · exact keepB B2.out BW.out
    · have hef : t.toList.isEmpty = false := by simpa using he
      clear he
      have h1 := size_of_ne hef
      match gk, hg, HL with
      | 0, hg, _ => omega
      | gk + 1, hg, HL =>
      have hL : (if (rd (lineC t)).2 = true then (if foundC t = true then lpF rd gk (restC t) (acc ++ [(rd (lineC t)).1]) else .error (acc.length + 1)) else .error (acc.length + 1)) = lpF rd s.size s [] := by
        have h := HL.out
        rw [lpF, if_neg (by rw [hef]; decide)] at h
        exact h
      have HL2 := Aside0.mk hL
      have HS := Aside0.mk (lineC_size t)
      have HRS := Aside0.mk (restC_size t)
      have CUT := Aside0.mk (fun W hW => show Calls Tryz.prog 10 #[.string t, .string ⟨#[10]⟩] W fun e w' => e = .returned (.tuple #[.string (lineC t), .string (restC t), .bool (foundC t)]) ∧ Below W.heap.size W w' from cut_any t ⟨#[10]⟩ W hW (by omega))
      generalize lineC t = line at *
      generalize restC t = rest at *
      generalize foundC t = found at *
      have RDL := Aside0.mk (fun W hW => RDA.out line W hW (by have := HS.out; omega))
      generalize (rd line).1 = x at *
      generalize (rd line).2 = ok at *
      clear hL HL
      go_wp2_with fail
      refine (CUT.out _ (Gw.below HG.out.g BW.out)).mono ?_
      rintro e w2 ⟨rfl, hb2⟩
      have O2 := Aside0.mk (Kd.R_below HO.out hb2)
      have B2 := Aside0.mk (keepB hb2 BW.out)
      clear hb2 HO BW CUT
      go_wp2_with fail
      refine (RDL.out _ (Ge.below HG.out B2.out)).mono ?_
      rintro e w3 ⟨rfl, hb3⟩
      have O3 := Aside0.mk (Kd.R_alloc (Kd.R_below O2.out hb3) (.cells (ruleC x) 31))
      have B3 := Aside0.mk (Below.alloc (keepB hb3 B2.out) (keepB hb3 B2.out).size (.cells (ruleC x) 31))
      have l3 := (keepB hb3 B2.out).size
      clear hb3 O2 B2 RDL
      cases ok with
      | false =>
        have HF := Aside0.mk (parseG_err (HL2.out.symm.trans (if_neg (by decide))))
        go_wp2
        go_ret3
        refine ⟨.slice none 0 0, by rw [HF.out]; rfl, by rw [HF.out]; exact Kd.R_nil _ _ _ _ _, B3.out⟩
      | true =>
        cases found with
        | false =>
          have HF := Aside0.mk (parseG_err (HL2.out.symm.trans ((if_pos rfl).trans (if_neg (by decide)))))
          go_wp2
          go_ret3
          refine ⟨.slice none 0 0, by rw [HF.out]; rfl, by rw [HF.out]; exact Kd.R_nil _ _ _ _ _, B3.out⟩
        | true =>
          have HL3 := Aside0.mk (HL2.out.symm.trans ((if_pos rfl).trans (if_pos rfl))).symm
          have hr2 := HRS.out rfl
          go_wp2_with ((with_reducible refine gate_builtin (b := .append) (xs := #[.tmp 36, .tmp 38]) rfl ?_); at_builtin; refine Kd.R_append k31 (w0 := w) w.heap.size rfl (.tmp 36) (.tmp 38) 23 31 (.agg #[.int .i64 0, .string ⟨#[]⟩, .string ⟨#[]⟩, .int .i64 0, .int .i64 0, .int .i64 0]) 64 rfl Tryz.underlying23 info_rule rfl (by decide) (by omega) (.slice A acc.length c) acc x [.int .i64 x.f0, .string x.f1, .string x.f2, .int .i64 x.f3, .int .i64 x.f4, .int .i64 x.f5] (fun _ => True) (fun _ => False) rfl (by first | (go_simp; done) | (go_simp; rfl)) ?aP (fun _ hk => hk.elim) ?aF ?aO ?aB ?aS ?aL ?_; (case aP => exact k31_mkM _ _ _ _); (case aB => exact B3.out); (case aF => exact (fun _ _ => trivial)); (case aO => exact O3.out); (case aS => exact B3.out.size); (case aL => omega); intro v1 w17 ho hb hg hat; have HO2 := Aside0.mk ho; have BW2 := Aside0.mk hb; clear ho hb hg hat)
          go_roundg gk
          case measure => omega
          case rel => exact ⟨rest, acc ++ [x], by omega, by simp; omega, rfl, by simp, HL3, HO2, BW2⟩
end Go.Proofs.YtghdimmomnfakaaGreatDoor.Gv

set_option linter.unusedVariables false
namespace Go.Proofs.YtghdimmomnfakaaGreatDoor.Gv
open Go.RowKit Go.Proofs.YtghdimmomnfakaaGreatDoorW.PrintWords Go.Proofs.YtghdimmomnfakaaGreatDoorW.PrintLast Go.Proofs.YtghdimmomnfakaaGreatDoorW.PrintMore
open Go.Proofs.YtghdimmomnfakaaGreatDoor.X (S31 k31 rd_T31 at_T31 z31)
open Go.Proofs.YtghdimmomnfakaaGreatDoor.Pure (prR lineB)
theorem kindIdx_ways (x : ByteArray) : kindIdx x = -1 ∨ kindIdx x = 0 ∨ kindIdx x = 1 ∨ kindIdx x = 2 ∨ kindIdx x = 3 := by
  unfold kindIdx
  split
  · exact .inr (.inl rfl)
  · split
    · exact .inr (.inr (.inl rfl))
    · split
      · exact .inr (.inr (.inr (.inl rfl)))
      · split
        · exact .inr (.inr (.inr (.inr rfl)))
        · exact .inl rfl
theorem parts_ne (c : UInt8) (s : ByteArray) : 0 < (partsS c s).length := by
  unfold partsS
  rw [List.length_map]
  exact List.length_pos_iff.2 (Spl.splitL_ne c _)
theorem read_any (s : ByteArray) (w : World) (hG : Ge w) (hs : s.size ≤ 1000000) :
    Calls Tryz.prog 11 #[.string s] w fun e w' => e = .returned (.tuple #[.agg (rule6 (readR s).1), .bool (readR s).2]) ∧ Below w.heap.size w w' := by
  have h0 := parts_ne 32 s
  rcases kindIdx_ways (nthS (partsS 32 s) 0) with h | h | h | h | h
  · have e : readR s = (z31, false) := by unfold readR; rw [h]; exact if_pos (by decide)
    rw [e]
    exact read_none s w hG hs h0 h
  · have e : readR s = (readX 0 (partsS 32 s), prR (readX 0 (partsS 32 s)) && decide (lineB (readX 0 (partsS 32 s)) = s)) := by unfold readR; rw [h]; exact if_neg (by decide)
    rw [e]
    exact read_k0 s w hG hs h0 h
  · have e : readR s = (readX 1 (partsS 32 s), prR (readX 1 (partsS 32 s)) && decide (lineB (readX 1 (partsS 32 s)) = s)) := by unfold readR; rw [h]; exact if_neg (by decide)
    rw [e]
    exact read_k1 s w hG hs h0 h
  · have e : readR s = (readX 2 (partsS 32 s), prR (readX 2 (partsS 32 s)) && decide (lineB (readX 2 (partsS 32 s)) = s)) := by unfold readR; rw [h]; exact if_neg (by decide)
    rw [e]
    exact read_k2 s w hG hs h0 h
  · have e : readR s = (readX 3 (partsS 32 s), prR (readX 3 (partsS 32 s)) && decide (lineB (readX 3 (partsS 32 s)) = s)) := by unfold readR; rw [h]; exact if_neg (by decide)
    rw [e]
    exact read_k3 s w hG hs h0 h
theorem grammar_Parse.any (s : ByteArray) (w : World) (hG : Ge w) (hs : s.size ≤ 1000000) :
    Calls Tryz.prog 5 #[.string s] w fun e w' => ∃ v, e = .returned (.tuple #[v, .int .i64 (parseG readR s).2.1, .int .i64 (parseG readR s).2.2]) ∧ OwnR w' w.heap.size v (parseG readR s).1 ∧ Below w.heap.size w w' :=
  parse_any readR read_any s w hG hs
end Go.Proofs.YtghdimmomnfakaaGreatDoor.Gv

set_option linter.unusedVariables false
set_option linter.unusedSimpArgs false
namespace Go.Proofs.YtghdimmomnfakaaGreatDoor.Pure
open Go.RowKit Go.Proofs.YtghdimmomnfakaaGreatDoorW.PrintWords Go.Proofs.YtghdimmomnfakaaGreatDoorW.PrintLast Go.Proofs.YtghdimmomnfakaaGreatDoorW.PrintMore Go.Proofs.YtghdimmomnfakaaGreatDoor.Gv Go.Proofs.YtghdimmomnfakaaGreatDoor.X
theorem let_free {c : UInt8} (hc : c = 32 ∨ c = 10) {l : List UInt8} (h : l.all letB = true) : c ∉ l := fun hm => by
  have := List.all_eq_true.1 h c hm
  rcases hc with rfl | rfl <;> revert this <;> decide
theorem name_free {c : UInt8} (hc : c = 32 ∨ c = 10) {s : ByteArray} (h : nameB s = true) : c ∉ s.data.toList := by
  unfold nameB at h
  rw [Bool.and_eq_true] at h
  exact let_free hc h.1
theorem sym_free {c : UInt8} (hc : c = 32 ∨ c = 10) {s : ByteArray} (h : symB s = true) : c ∉ s.data.toList := fun hm => by
  by_cases h1 : s.size = 1
  · have hl : s.data.toList.length = 1 := by rw [Array.length_toList]; exact h1
    obtain ⟨b, hb⟩ := List.length_eq_one_iff.1 hl
    rw [hb, List.mem_singleton] at hm
    subst hm
    have e : s = ⟨#[c]⟩ := by apply ByteArray.ext; apply Array.ext'; rw [hb]
    rw [e] at h
    rcases hc with rfl | rfl <;> revert h <;> decide +kernel
  · unfold symB at h
    rw [if_neg h1, Bool.and_eq_true] at h
    have hr := h.1
    unfold restLet at hr
    rw [List.drop_zero] at hr
    exact let_free hc hr hm
theorem itoa_free {c : UInt8} (hc : c = 32 ∨ c = 10) {n : Int} (h0 : 0 ≤ n) (h1 : n ≤ 101) : c ∉ (itoaB n).data.toList := by
  have := tens_all (P := fun n => decide ((32 : UInt8) ∉ (itoaB n).data.toList ∧ (10 : UInt8) ∉ (itoaB n).data.toList)) (by decide +kernel) h0 h1
  rw [decide_eq_true_eq] at this
  rcases hc with rfl | rfl
  · exact this.1
  · exact this.2
theorem num_itoa {n : Int} (h0 : 0 ≤ n) (h1 : n ≤ 101) : numG (itoaB n) = n := by
  have := tens_all (P := fun n => decide (numG (itoaB n) = n)) (by decide +kernel) h0 h1
  simpa using this
theorem words_free {c : UInt8} (hc : c = 32 ∨ c = 10) {x : S31} (h : prR x = true) : ∀ p ∈ wordsR x, c ∉ p.data.toList := by
  obtain ⟨hk, h3, h4, h5, hn, hd⟩ := prB_parts h
  have f3 := itoa_free hc (n := x.f3) (by omega) (by omega)
  have f4 := itoa_free hc h4.1 h4.2
  have f5 := itoa_free hc h5.1 h5.2
  have f2 := name_free hc hn
  intro p hp
  unfold wordsR at hp
  unfold kindB at hd
  rcases hk with e | e | e | e
  · rw [if_pos e] at hp hd
    have f1 := sym_free hc hd
    simp only [List.mem_cons, List.mem_nil_iff, or_false] at hp
    rcases hp with rfl | rfl | rfl | rfl | rfl | rfl <;> first | assumption | (rcases hc with rfl | rfl <;> decide)
  · rw [if_neg (by omega), if_pos e] at hp hd
    rw [Bool.and_eq_true] at hd
    have f1 := sym_free hc hd.1
    simp only [List.mem_cons, List.mem_nil_iff, or_false] at hp
    rcases hp with rfl | rfl | rfl | rfl | rfl <;> first | assumption | (rcases hc with rfl | rfl <;> decide)
  · rw [if_neg (by omega), if_neg (by omega), if_pos e] at hp hd
    rw [Bool.and_eq_true] at hd
    have f1 := sym_free hc hd.1
    simp only [List.mem_cons, List.mem_nil_iff, or_false] at hp
    rcases hp with rfl | rfl | rfl | rfl | rfl <;> first | assumption | (rcases hc with rfl | rfl <;> decide)
  · rw [if_neg (by omega), if_neg (by omega), if_neg (by omega)] at hp
    simp only [List.mem_cons, List.mem_nil_iff, or_false] at hp
    rcases hp with rfl | rfl | rfl | rfl | rfl <;> first | assumption | (rcases hc with rfl | rfl <;> decide)
theorem words_ne (x : S31) : wordsR x ≠ [] := by
  unfold wordsR
  split
  · simp
  · split
    · simp
    · split <;> simp
theorem lineB_list (x : S31) : (lineB x).data.toList = Lib.join ((wordsR x).map (·.data.toList)) [32] := by
  show (joinB (wordsR x) sp).toArray.toList = _
  rw [List.toList_toArray]
  rfl
theorem parts_line {x : S31} (h : prR x = true) : partsS 32 (lineB x) = wordsR x := by
  unfold partsS
  rw [lineB_list, Spl.splitL_join _ (by simpa using words_ne x) (fun p hp => by
    obtain ⟨q, hq, rfl⟩ := List.mem_map.1 hp
    exact words_free (.inl rfl) h q hq), List.map_map]
  have : ((fun p : List UInt8 => (⟨p.toArray⟩ : ByteArray)) ∘ fun x : ByteArray => x.data.toList) = id := by
    funext x; simp
  rw [this, List.map_id]
theorem join_free {c d : UInt8} (hcd : c ≠ d) : ∀ (ps : List (List UInt8)), (∀ p ∈ ps, c ∉ p) → c ∉ Lib.join ps [d]
  | [], _ => by simp [Lib.join_nil]
  | p :: r, h => by
    rw [Lib.join_cons]
    intro hm
    rcases List.mem_append.1 hm with hm | hm
    · exact h p (by simp) hm
    · unfold Lib.joinTail at hm
      obtain ⟨q, hq, hm⟩ := List.mem_flatten.1 hm
      obtain ⟨u, hu, rfl⟩ := List.mem_map.1 hq
      rcases List.mem_append.1 hm with hm | hm
      · rw [List.mem_singleton] at hm; exact hcd hm
      · exact h u (by simp [hu]) hm
theorem line_free {x : S31} (h : prR x = true) : (10 : UInt8) ∉ (lineB x).data.toList := by
  rw [lineB_list]
  exact join_free (by decide) _ (fun p hp => by
    obtain ⟨q, hq, rfl⟩ := List.mem_map.1 hp
    exact words_free (.inr rfl) h q hq)
theorem size0 {s : ByteArray} (h : s.size = 0) : (⟨#[]⟩ : ByteArray) = s := by
  apply ByteArray.ext; apply Array.ext'
  have : s.data.toList.length = 0 := by rw [Array.length_toList]; exact h
  rw [List.length_eq_zero_iff.1 this]
theorem readX_line {x : S31} (h : prR x = true) : kindIdx (nthS (wordsR x) 0) = x.f0 - 1 ∧ readX (x.f0 - 1).toNat (wordsR x) = x := by
  obtain ⟨hk, h3, h4, h5, hn, hd⟩ := prB_parts h
  have n3 := num_itoa (n := x.f3) (by omega) (by omega)
  have n4 := num_itoa h4.1 h4.2
  have n5 := num_itoa h5.1 h5.2
  obtain ⟨f0, f1, f2, f3, f4, f5⟩ := x
  simp only at hk n3 n4 n5 hd
  unfold wordsR
  unfold kindB at hd
  rcases hk with rfl | rfl | rfl | rfl
  · rw [if_pos rfl]
    refine ⟨(show kindIdx ⟨#[105, 110, 102, 105, 120]⟩ = (1 : Int) - 1 by decide +kernel), ?_⟩
    show (⟨1, f1, f2, numG (itoaB f3), numG (itoaB f4), numG (itoaB f5)⟩ : S31) = _
    rw [n3, n4, n5]
  · rw [if_neg (show ¬ (2 : Int) = 1 by decide), if_pos rfl]
    rw [if_neg (by decide), if_pos rfl, Bool.and_eq_true, decide_eq_true_eq] at hd
    refine ⟨(show kindIdx ⟨#[112, 114, 101, 102, 105, 120]⟩ = (2 : Int) - 1 by decide +kernel), ?_⟩
    show (⟨2, f1, f2, numG (itoaB f3), 0, numG (itoaB f5)⟩ : S31) = _
    rw [n3, n5, hd.2]
  · rw [if_neg (show ¬ (3 : Int) = 1 by decide), if_neg (show ¬ (3 : Int) = 2 by decide), if_pos rfl]
    rw [if_neg (by decide), if_neg (by decide), if_pos rfl, Bool.and_eq_true, decide_eq_true_eq] at hd
    refine ⟨(show kindIdx ⟨#[112, 111, 115, 116, 102, 105, 120]⟩ = (3 : Int) - 1 by decide +kernel), ?_⟩
    show (⟨3, f1, f2, numG (itoaB f3), numG (itoaB f4), 0⟩ : S31) = _
    rw [n3, n4, hd.2]
  · rw [if_neg (show ¬ (4 : Int) = 1 by decide), if_neg (show ¬ (4 : Int) = 2 by decide), if_neg (show ¬ (4 : Int) = 3 by decide)]
    rw [if_neg (by decide), if_neg (by decide), if_neg (by decide), if_pos rfl, decide_eq_true_eq] at hd
    refine ⟨(show kindIdx ⟨#[106, 117, 120, 116, 97, 112, 111, 115, 101]⟩ = (4 : Int) - 1 by decide +kernel), ?_⟩
    show (⟨4, ⟨#[]⟩, f2, numG (itoaB f3), numG (itoaB f4), numG (itoaB f5)⟩ : S31) = _
    rw [n3, n4, n5, size0 hd]
theorem readR_line {x : S31} (h : prR x = true) : readR (lineB x) = (x, true) := by
  have hk := (prB_parts h).1
  obtain ⟨k1, k2⟩ := readX_line h
  unfold readR
  rw [parts_line h, k1, if_neg (by omega), k2, h]
  simp
theorem textB_list (l : List S31) : (textB l).data.toList = textL l := by show (textL l).toArray.toList = _; rw [List.toList_toArray]
theorem cut_text {x : S31} (r : List S31) (h : prR x = true) : Lib.cut (textB (x :: r)).data.toList [10] = ((lineB x).data.toList, textL r, true) := by
  rw [textB_list]
  exact Spl.cut_some (line_free h)
theorem lp_text : ∀ (r acc : List S31) (k : Nat), okR 100 r → (textL r).length ≤ k → lpF readR k (textB r) acc = .ok (acc ++ r)
  | [], acc, k, _, _ => by rw [List.append_nil]; exact lpF_done readR k acc (by rw [ByteArray.toList_eq]; rfl)
  | x :: r, acc, 0, _, hk => by simp [textL] at hk
  | x :: r, acc, k + 1, h, hk => by
    have hp := (h x (by simp)).1
    have hc := cut_text r hp
    have e0 : (textB (x :: r)).toList.isEmpty = false := by
      rw [ByteArray.toList_eq, textB_list, textL]
      cases (lineB x).data.toList <;> rfl
    have e1 : lineC (textB (x :: r)) = lineB x := by unfold lineC; rw [hc]
    have e2 : restC (textB (x :: r)) = textB r := by unfold restC; rw [hc]; rfl
    have e3 : foundC (textB (x :: r)) = true := by unfold foundC; rw [hc]
    rw [lpF, if_neg (by rw [e0]; decide), e1, e2, e3, readR_line hp, if_pos rfl, if_pos rfl]
    have hl : (textL r).length ≤ k := by
      simp only [textL, List.length_append, List.length_cons] at hk
      omega
    rw [lp_text r (acc ++ [x]) k (fun y hy => h y (by simp [hy])) hl]
    simp
theorem clAt_is (l : List S31) (i : Nat) (hi : i ≤ l.length) : clAt l i = clRest l (rd_T31 l (i : Int)) i 0 := by
  have h := impl_any l (rd_T31 l (i : Int)) i hi
  unfold api_Rule.f at h
  exact Option.some.inj h
theorem ch_none (l : List S31) (h64 : l.length ≤ 64) : ∀ n i, l.length = i + n → vRest l n i = true → chF l n i = (0, 0)
  | 0, _, _, _ => rfl
  | n + 1, i, hi, hv => by
    rw [vRest, Bool.and_eq_true, Bool.and_eq_true] at hv
    have hc : clAt l i = false := by
      rw [clAt_is l i (by omega)]
      simpa using hv.1.2
    rw [chF, if_neg (by rw [hc]; decide), if_neg (by omega)]
    exact ch_none l h64 n (i + 1) (by omega) hv.2
theorem parse_text (l : List S31) (h64 : l.length ≤ 64) (hs : smallR 100 l) (hv : vRest l l.length 0 = true) : parseG readR (textB l) = (l, 0, 0) := by
  have h := lp_text l [] (textB l).size (okR_of hs hv) (by rw [textB_size]; exact Nat.le_refl _)
  rw [List.nil_append] at h
  exact parseG_ok h (ch_none l h64 l.length 0 (by omega) hv)
end Go.Proofs.YtghdimmomnfakaaGreatDoor.Pure

set_option linter.unusedVariables false
namespace Go.Proofs.YtghdimmomnfakaaGreatDoor.Gv
open Go.RowKit Go.Proofs.YtghdimmomnfakaaGreatDoorW.PrintWords Go.Proofs.YtghdimmomnfakaaGreatDoorW.PrintLast Go.Proofs.YtghdimmomnfakaaGreatDoorW.PrintMore
open Go.Proofs.YtghdimmomnfakaaGreatDoor.X (S31 k31 rd_T31 at_T31 z31)
theorem parts_pos (c : UInt8) (s : ByteArray) : 0 < (partsS c s).length := by
  unfold partsS
  rw [List.length_map]
  exact List.length_pos_iff.2 (Spl.splitL_ne c _)
theorem readLine_any (s : ByteArray) (w : World) (hs : s.size ≤ 1000000) :
    Calls Tryz.prog 16 #[.string s] w fun e w' => e = .returned (.tuple #[.agg (rule6 (refRL s).1), .bool (refRL s).2]) ∧ Below w.heap.size w w' := by
  have h0 := parts_pos 32 s
  by_cases h : nthS (partsS 32 s) 0 = wordK 0
  · by_cases hl : (partsS 32 s).length = 6
    · exact rl_k0 s w hs h0 h hl
    · exact rl_k4 s w hs h0 h hl
  · by_cases h1 : nthS (partsS 32 s) 0 = wordK 1
    · by_cases hl : (partsS 32 s).length = 5
      · exact rl_k1 s w hs h0 h1 hl
      · exact rl_k5 s w hs h0 h1 hl
    · by_cases h2 : nthS (partsS 32 s) 0 = wordK 2
      · by_cases hl : (partsS 32 s).length = 5
        · exact rl_k2 s w hs h0 h2 hl
        · exact rl_k6 s w hs h0 h2 hl
      · by_cases h3 : nthS (partsS 32 s) 0 = wordK 3
        · by_cases hl : (partsS 32 s).length = 5
          · exact rl_k3 s w hs h0 h3 hl
          · exact rl_k7 s w hs h0 h3 hl
        · refine rl_k8 s w hs h0 (fun k hk => ?_)
          match k, hk with
          | 0, _ => exact h
          | 1, _ => exact h1
          | 2, _ => exact h2
          | 3, _ => exact h3
def vinculumref49_ReadLine.f (s : ByteArray) : Option (Int × ByteArray × ByteArray × Int × Int × Int × Bool) :=
  if s.size ≤ 1000000 then some ((refRL s).1.f0, (refRL s).1.f1, (refRL s).1.f2, (refRL s).1.f3, (refRL s).1.f4, (refRL s).1.f5, (refRL s).2) else none
theorem vinculumref49_ReadLine.calls (s : ByteArray) (r0 : Int) (r1 r2 : ByteArray) (r3 r4 r5 : Int) (b : Bool) (w : World) (h : vinculumref49_ReadLine.f s = some (r0, r1, r2, r3, r4, r5, b)) :
    Calls Tryz.prog 16 #[.string s] w fun e w' => e = .returned (.tuple #[.agg #[.int .i64 r0, .string r1, .string r2, .int .i64 r3, .int .i64 r4, .int .i64 r5], .bool b]) ∧ Below w.heap.size w w' := by
  unfold vinculumref49_ReadLine.f at h
  split at h
  · rename_i hs
    simp only [Option.some.injEq, Prod.mk.injEq] at h
    obtain ⟨rfl, rfl, rfl, rfl, rfl, rfl, rfl⟩ := h
    exact readLine_any s w hs
  · cases h
end Go.Proofs.YtghdimmomnfakaaGreatDoor.Gv
