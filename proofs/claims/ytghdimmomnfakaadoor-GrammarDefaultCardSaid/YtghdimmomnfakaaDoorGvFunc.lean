/-
  slices.IndexFunc and slices.ContainsFunc over rules, at whatever predicate.
-/
import Derived.Test.YtghdimmomnfakaaDoorXx0
import Derived.Test.YtghdimmomnfakaaDoorGvBox
set_option linter.unusedVariables false
namespace Go.Proofs.YtghdimmomnfakaaDoor.Gv
open Go.RowKit Go.Proofs.YtghdimmomnfakaaDoorW.PrintWords Go.Proofs.YtghdimmomnfakaaDoorW.PrintLast Go.Proofs.YtghdimmomnfakaaDoorW.PrintMore
open Go.Proofs.YtghdimmomnfakaaDoor.X (S38 k38 rd_T38 at_T38)
abbrev ruleV (x : S38) : Value := .agg #[.int .i64 x.f0, .string x.f1, .string x.f2, .int .i64 x.f3, .int .i64 x.f4, .int .i64 x.f5]
/-- what is asked of a predicate: it may lay blocks of its own -/
def PredIn (g : Nat) (lb : Array Value) (p : S38 → Bool) (w : World) : Prop :=
  ∀ (W : World) (x : S38), Below w.heap.size w W → Calls Tryd.prog g (#[ruleV x] ++ lb) W fun e w' => e = .returned (.bool (p x)) ∧ Below W.heap.size W w'
def idxP (p : S38 → Bool) (l : List S38) : Int := match l.findIdx? p with | some i => (i : Int) | none => -1
theorem idxP_hit {p : S38 → Bool} {l : List S38} {k : Nat} (hk : k < l.length) (h : p (rd_T38 l (k : Int)) = true) (h0 : ∀ j, j < k → p (rd_T38 l (j : Int)) = false) : idxP p l = k := by
  have e : l.findIdx? p = some k := by
    rw [List.findIdx?_eq_some_iff_getElem]
    refine ⟨hk, ?_, fun j hj => ?_⟩
    · have := h; unfold rd_T38 at this
      rw [show ((k : Int)).toNat = k from rfl, List.getD_eq_getElem?_getD, List.getElem?_eq_getElem hk] at this
      exact this
    · have := h0 j hj; unfold rd_T38 at this
      rw [show ((j : Int)).toNat = j from rfl, List.getD_eq_getElem?_getD, List.getElem?_eq_getElem (by omega)] at this
      simpa using this
  unfold idxP; rw [e]
theorem idxP_miss {p : S38 → Bool} {l : List S38} (h0 : ∀ j, j < l.length → p (rd_T38 l (j : Int)) = false) : idxP p l = -1 := by
  have e : l.findIdx? p = none := by
    rw [List.findIdx?_eq_none_iff]
    intro x hx
    obtain ⟨j, hj, rfl⟩ := List.getElem_of_mem hx
    have := h0 j hj; unfold rd_T38 at this
    rw [show ((j : Int)).toNat = j from rfl, List.getD_eq_getElem?_getD, List.getElem?_eq_getElem hj] at this
    exact this
  unfold idxP; rw [e]
set_option maxHeartbeats 2000000 in
theorem indexFunc (g : Nat) (lb : Array Value) (p : S38 → Bool) (eg : ∀ args w, (callFunc g args).run Tryd.prog w = .ok (.enter g args) w) (A : Option Addr) (c : Nat) (l : List S38) (w : World)
    (hr : Kd.C k38 w A l.length l) (hc : l.length ≤ c) (hp : PredIn g lb p w) :
    Calls Tryd.prog 52 #[.slice A l.length c, .func (.func g) #[] lb] w fun e w' => e = .returned (.int .i64 (idxP p l)) ∧ Below w.heap.size w w' := by
  have hbig : l.length ≤ 9223372036854775807 := by
    have := hr.2.1
    first | exact this | (unfold maxLen at this; omega)
  have HR := Aside0.mk hr
  have HP := Aside0.mk hp
  clear hr hp
  go_enter Tryd.func52, Tryd.ntmps52
  go_wp2
  generalize hn : l.length = n
  have hn1 : n ≤ l.length := Nat.le_of_eq hn.symm
  have HN := Aside0.mk hn
  clear hn
  go_loopg [5, 8] n (fun gg _ s8 wr => ∃ kk : Nat, kk ≤ n ∧ n - kk ≤ gg ∧ s8 = .int .i64 kk ∧ Aside0 (Below w.heap.size w wr) ∧ Aside0 (∀ j, j < kk → p (rd_T38 l (j : Int)) = false))
  case atStart => exact ⟨0, Nat.zero_le _, by omega, rfl, ⟨Below.refl _ w⟩, ⟨fun j hj => absurd hj (Nat.not_lt_zero _)⟩⟩
  case round =>
    obtain ⟨kk, hkk, hg, rfl, BW, A0⟩ := hrel
    by_cases hlt : kk < n
    · have hltz : (kk : Int) < (n : Int) := by omega
      obtain ⟨ad, e, x0, x1, x2, x3, x4, x5⟩ := at_T38 HR.out (kk : Int) (by omega) (by omega)
      cases e
      replace x0 := keepC BW.out x0
      replace x1 := keepC BW.out x1
      replace x2 := keepC BW.out x2
      replace x3 := keepC BW.out x3
      replace x4 := keepC BW.out x4
      replace x5 := keepC BW.out x5
      rw [show ((kk : Int)).toNat = kk from rfl] at x0 x1 x2 x3 x4 x5
      have hcall := HP.out wr (rd_T38 l (kk : Int)) BW.out
      cases hq : p (rd_T38 l (kk : Int)) with
      | true =>
        have HQ := Aside0.mk hq
        rw [hq] at hcall
        clear hq
        go_wp2_with (go_at_fn g; refine hcall.mono ?_; rintro e w' ⟨rfl, hb'⟩)
        go_ret
        refine ⟨?_, keepB hb' BW.out⟩
        rw [idxP_hit (by omega) HQ.out A0.out]
        rfl
      | false =>
        have HQ := Aside0.mk hq
        rw [hq] at hcall
        clear hq
        go_wp2_with (go_at_fn g; refine hcall.mono ?_; rintro e w' ⟨rfl, hb'⟩)
        go_roundg (n - (kk + 1))
        case measure => omega
        case rel =>
          refine ⟨kk + 1, by omega, by omega, by go_num, ⟨keepB hb' BW.out⟩, ⟨fun j hj => ?_⟩⟩
          by_cases e : j = kk
          · subst e; exact HQ.out
          · exact A0.out j (by omega)
    · have hltz : ¬ (kk : Int) < (n : Int) := by omega
      have hk : kk = n := by omega
      subst hk
      go_wp2
      go_ret
      refine ⟨?_, BW.out⟩
      rw [idxP_miss (fun j hj => A0.out j (by have := HN.out; omega))]
      rfl
theorem containsFunc (g : Nat) (lb : Array Value) (p : S38 → Bool) (eg : ∀ args w, (callFunc g args).run Tryd.prog w = .ok (.enter g args) w) (A : Option Addr) (c : Nat) (l : List S38) (w : World)
    (hr : Kd.C k38 w A l.length l) (hc : l.length ≤ c) (hp : PredIn g lb p w) :
    Calls Tryd.prog 30 #[.slice A l.length c, .func (.func g) #[] lb] w fun e w' => e = .returned (.bool (decide (0 ≤ idxP p l))) ∧ Below w.heap.size w w' := by
  have H := indexFunc g lb p eg A c l w hr hc hp
  generalize idxP p l = i at H ⊢
  clear hr hp
  go_enter Tryd.func30, Tryd.ntmps30
  go_wp2_with (go_at_call 52; refine H.mono ?_; rintro e w' ⟨rfl, hb'⟩)
  go_ret
  exact ⟨rfl, hb'⟩
theorem findFunc (g : Nat) (lb : Array Value) (p : S38 → Bool) (eg : ∀ args w, (callFunc g args).run Tryd.prog w = .ok (.enter g args) w) (A : Option Addr) (c : Nat) (l : List S38) (w : World)
    (hr : Kd.C k38 w A l.length l) (hc : l.length ≤ c) (hp : PredIn g lb p w) :
    Calls Tryd.prog 35 #[.slice A l.length c, .func (.func g) #[] lb] w fun e w' => e = .returned (.tuple #[.int .i64 (max (idxP p l) 0), .bool (decide (0 ≤ idxP p l))]) ∧ Below w.heap.size w w' := by
  have H := indexFunc g lb p eg A c l w hr hc hp
  generalize idxP p l = i at H ⊢
  clear hr hp
  go_enter Tryd.func35, Tryd.ntmps35
  go_wp2_with (go_at_call 52; refine H.mono ?_; rintro e w' ⟨rfl, hb'⟩)
  go_ret2
  exact ⟨rfl, hb'⟩
end Go.Proofs.YtghdimmomnfakaaDoor.Gv
