/-
  How an array of two integers opens.
-/
import Derived.Test.YtignpfhlagfijaaDoorWWords
import Derived.OpenShut
import Derived.ChangeArms
import Derived.WideShapes
import Derived.ChangeShapes
namespace Go.Proofs.YtignpfhlagfijaaDoor.Arr
open Go.RowKit Go.WideShapes
theorem open2 {H : Type} {enc : TypeId × Value → H} {P : Program} {w W : World} {base b : Nat} {spare : Nat → Bool} {held : Bool} {t e : TypeId} {k : IntKind} {v : Value} {r : Reach} {d : DataW H} {p : List MemPlace}
    (ht : P.underlying t = some (.array 2 e)) (he : P.underlying e = some (.int k)) (hsz : P.cellsOf e = 1) (hst : P.cellsOf t = 2) (hv : Value.okWide P W r base t v)
    (h : DataW.Trod enc P w b spare held t v d p) :
    ∃ x y : Int, v = .agg #[.int k x, .int k y] ∧ d = .agg [.lit (.int k x), .lit (.int k y)] ∧ p = [] ∧ (Lit.int k x).wf = true ∧ (Lit.int k y).wf = true := by
  simp only [Value.okWide, ht] at hv
  obtain ⟨cs, rfl, hcs, _⟩ := hv
  obtain ⟨fuel, hf⟩ := h
  obtain ⟨xs, m, rfl, hx, hl, hn, hf⟩ := DataW.trod_array ht hf
  match xs, hn with
  | [y0, y1], _ =>
    have h0 := hf 0 (by omega)
    have h1 := hf 1 (by omega)
    rw [hsz] at h0 h1
    obtain ⟨n0, hc0, rfl, w0⟩ := DataW.trod_int he h0
    obtain ⟨n1, hc1, rfl, w1⟩ := DataW.trod_int he h1
    have hd : d = .agg [.lit (.int k n0), .lit (.int k n1)] := by simpa using (Prod.mk.inj hx).1
    have hp : p = [] := by simpa using (Prod.mk.inj hx).2
    have hc : cs = #[.int k n0, .int k n1] := by
      obtain ⟨l⟩ := cs
      have hl2 : l.length = 2 := by
        simpa [hst] using hcs
      match l, hl2 with
      | [u0, u1], _ =>
        simp [Value.cells] at hc0 hc1
        simp [hc0, hc1]
    exact ⟨n0, n1, by rw [hc], hd, hp, w0, w1⟩
end Go.Proofs.YtignpfhlagfijaaDoor.Arr
