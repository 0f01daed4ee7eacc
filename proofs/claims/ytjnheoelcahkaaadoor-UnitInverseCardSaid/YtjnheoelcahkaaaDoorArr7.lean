/-
  How an array of seven integers opens; bounds of small integers.
-/
import Derived.Test.YtjnheoelcahkaaaDoorUnBase
import Derived.OpenShut
import Derived.ChangeArms
import Derived.WideShapes
import Derived.ChangeShapes
namespace Go.Proofs.YtjnheoelcahkaaaDoor.Arr
open Go.RowKit Go.WideShapes Go.Proofs.YtjnheoelcahkaaaDoor.Gv
theorem open7 {H : Type} {enc : TypeId × Value → H} {P : Program} {w W : World} {base b : Nat} {spare : Nat → Bool} {held : Bool} {t e : TypeId} {v : Value} {r : Reach} {d : DataW H} {p : List MemPlace}
    (ht : P.underlying t = some (.array 7 e)) (he : P.underlying e = some (.int .i64)) (hsz : P.cellsOf e = 1) (hst : P.cellsOf t = 7) (hv : Value.okWide P W r base t v)
    (h : DataW.Trod enc P w b spare held t v d p) :
    ∃ x : Nat → Int, v = .agg (agg7 x) ∧ d = .agg [.lit (.int .i64 (x 0)), .lit (.int .i64 (x 1)), .lit (.int .i64 (x 2)), .lit (.int .i64 (x 3)), .lit (.int .i64 (x 4)), .lit (.int .i64 (x 5)), .lit (.int .i64 (x 6))] ∧ p = [] ∧ ∀ j, j < 7 → (Lit.int .i64 (x j)).wf = true := by
  simp only [Value.okWide, ht] at hv
  obtain ⟨cs, rfl, hcs, _⟩ := hv
  obtain ⟨fuel, hf⟩ := h
  obtain ⟨xs, m, rfl, hx, hl, hn, hf⟩ := DataW.trod_array ht hf
  match xs, hn with
  | [y0, y1, y2, y3, y4, y5, y6], _ =>
    have h0 := hf 0 (by omega)
    have h1 := hf 1 (by omega)
    have h2 := hf 2 (by omega)
    have h3 := hf 3 (by omega)
    have h4 := hf 4 (by omega)
    have h5 := hf 5 (by omega)
    have h6 := hf 6 (by omega)
    rw [hsz] at h0 h1 h2 h3 h4 h5 h6
    obtain ⟨n0, hc0, rfl, w0⟩ := DataW.trod_int he h0
    obtain ⟨n1, hc1, rfl, w1⟩ := DataW.trod_int he h1
    obtain ⟨n2, hc2, rfl, w2⟩ := DataW.trod_int he h2
    obtain ⟨n3, hc3, rfl, w3⟩ := DataW.trod_int he h3
    obtain ⟨n4, hc4, rfl, w4⟩ := DataW.trod_int he h4
    obtain ⟨n5, hc5, rfl, w5⟩ := DataW.trod_int he h5
    obtain ⟨n6, hc6, rfl, w6⟩ := DataW.trod_int he h6
    have hd := (Prod.mk.inj hx).1
    have hp : p = [] := by simpa using (Prod.mk.inj hx).2
    have hc : cs = #[.int .i64 n0, .int .i64 n1, .int .i64 n2, .int .i64 n3, .int .i64 n4, .int .i64 n5, .int .i64 n6] := by
      obtain ⟨l⟩ := cs
      have hl2 : l.length = 7 := by
        simpa [hst] using hcs
      match l, hl2 with
      | [u0, u1, u2, u3, u4, u5, u6], _ =>
        simp [Value.cells] at hc0 hc1 hc2 hc3 hc4 hc5 hc6
        simp [hc0, hc1, hc2, hc3, hc4, hc5, hc6]
    refine ⟨of7 n0 n1 n2 n3 n4 n5 n6, by rw [hc]; rfl, by simp at hd; exact hd, hp, fun j hj => ?_⟩
    rcases lt7 hj with rfl | rfl | rfl | rfl | rfl | rfl | rfl <;> assumption
theorem i8_lo {x : Int} (h : (Lit.int .i8 x).wf = true) : -128 ≤ x := by
  simp only [Lit.wf, Bool.and_eq_true, decide_eq_true_eq] at h; exact h.1
theorem i8_hi {x : Int} (h : (Lit.int .i8 x).wf = true) : x ≤ 127 := by
  simp only [Lit.wf, Bool.and_eq_true, decide_eq_true_eq] at h; exact h.2
theorem i64_lo {x : Int} (h : (Lit.int .i64 x).wf = true) : -9223372036854775808 ≤ x := by
  simp only [Lit.wf, Bool.and_eq_true, decide_eq_true_eq] at h; exact h.1
theorem i64_hi {x : Int} (h : (Lit.int .i64 x).wf = true) : x ≤ 9223372036854775807 := by
  simp only [Lit.wf, Bool.and_eq_true, decide_eq_true_eq] at h; exact h.2
end Go.Proofs.YtjnheoelcahkaaaDoor.Arr
