/-
  The law GrammarParse: its statement, out of the walk and of the plain theorem Pure.GrammarParse.
-/
import Derived.Test.YtghdimmomnfakaaGreatDoorRows
import Derived.Test.YtghdimmomnfakaaGreatDoorParseB
import Derived.Test.YtghdimmomnfakaaGreatDoorCards
import Derived.Test.YtghdimmomnfakaaGreatDoorTie
import Derived.WalkKit
import Derived.ProofKit
import Derived.OpenShut
import Derived.ShutString
import Derived.ChangeOld
import Derived.Below
import Derived.SizedLaws
import Derived.Deep.DeepHandedRow
import Derived.Deep.DeepWitnessRowRef
import Derived.Lib.LaidTab
import Derived.LaidMore
import Derived.Stop.Joined
import Derived.Shelf.Vars
import Derived.Stop.LaidErr
import Derived.SevenTiedAt
import Derived.PinnedBridge
import Derived.Test.YtghdimmomnfakaaGreatDoorWSized
namespace Go.Proofs.YtghdimmomnfakaaGreatDoor.grammarParse
open Go.ChangeShapes Go.WideShapes Go.ChangeAt Go.RowKit
open Go.ChangeMaps (open_string shut_string)
open Go.Proofs.YtghdimmomnfakaaGreatDoor.Gv
set_option linter.unusedVariables false
theorem own : ownKnob Tryz.prog.godebug = none := by kernel_rfl
/-- a world for the witness: what the program's own start lays, the pinned tables with it -/
noncomputable def laidWorld (os : Os) : World :=
  { World.doorLaid Tryz.prog 72 os with heap := ((World.doorLaid Tryz.prog 72 os).heap).modify 4 fun
      | .cells _ t frozen => .cells (Lib.firstTab.map fun z => Value.int .u8 z).toArray t frozen
      | o => o }
theorem laid_met (os : Os) : laidMetH Tryz.prog Rows.grammarParseRow.laid ((laidWorld os).forCall (fun _ _ => 0) ⟨#[], #[.string ByteArray.empty], []⟩).memory := by
  rw [MakeChecks.laidMetH_plain _ _ _ (by kernel_rfl)]
  exact laidMet_of_run' 8 (by kernel_rfl) (by kernel_rfl)
set_option maxRecDepth 100000
theorem gTab : Tryz.prog.globalNamed "internal/strconv.uint64pow10" = some 3 := by kernel_rfl
theorem gTabType : (Tryz.prog.globals[3]?).map (·.type) = some 114 := by kernel_rfl
theorem gw_of {W : World} (h : laidMetH Tryz.prog Rows.grammarParseRow.laid W) (hsh : W.ShapedOpen Tryz.prog) : Gw W := by
  rw [MakeChecks.laidMetH_plain _ _ _ (by kernel_rfl)] at h
  have hL : laidMet Tryz.prog Rows.grammarParseRow.laid W := h
  refine ⟨?_, ?_⟩
  · exact Lib.tabIs_of_head gTab gTabType Tryz.underlying114 Tryz.underlying101 (by kernel_rfl) (by kernel_rfl) (name := "internal/strconv.uint64pow10") (k := .u64) (zs := Lib.pow10Tab) (laidMet.tail (laidMet.tail hL))
  · exact cell_of_shapedOpen_int hsh (of_decide_eq_true (by kernel_rfl)) (t := 3) (zero := #[.int .i64 0]) (by kernel_rfl) rfl (by kernel_rfl) (by kernel_rfl) Tryz.underlying3
theorem rowE : ∀ u, Tryz.prog.typeName? 3 u = some "*errors.errorString" → u = 123 := fun u h =>
  typeName_ptr_named (nm := "errors.errorString") (by rw [show "*" ++ "errors.errorString" = "*errors.errorString" by decide]; kernel_rfl) (by kernel_rfl) (by decide) u (by rw [show "*" ++ "errors.errorString" = "*errors.errorString" by decide]; exact h)
theorem gErrSyntax : Tryz.prog.globalNamed "strconv.ErrSyntax" = some 1 := by kernel_rfl
theorem gErrSyntaxT : (Tryz.prog.globals[1]?).map (·.type) = some 47 := by kernel_rfl
theorem gErrRange : Tryz.prog.globalNamed "strconv.ErrRange" = some 2 := by kernel_rfl
theorem gErrRangeT : (Tryz.prog.globals[2]?).map (·.type) = some 47 := by kernel_rfl
theorem ge_of {W : World} (h : laidMetH Tryz.prog Rows.grammarParseRow.laid W) (hsh : W.ShapedOpen Tryz.prog) : Ge W := by
  have hG := gw_of h hsh
  rw [MakeChecks.laidMetH_plain _ _ _ (by kernel_rfl)] at h
  have hL : laidMet Tryz.prog Rows.grammarParseRow.laid W := h
  refine ⟨hG, ?_, ?_⟩
  · obtain ⟨a, s, hv, _, _, _⟩ := laid_sentinel (laidMet.tail (laidMet.tail (laidMet.tail (laidMet.tail (laidMet.tail hL))))) gErrSyntax gErrSyntaxT Tryz.underlying47 rowE Tryz.underlying123 Tryz.underlying125 rfl rfl Tryz.underlying9 (by kernel_rfl) (by kernel_rfl)
    exact ⟨_, World.var?_cell gErrSyntax hv 0, .inr ⟨_, _, rfl⟩⟩
  · obtain ⟨a, s, hv, _, _, _⟩ := laid_sentinel (laidMet.tail (laidMet.tail (laidMet.tail (laidMet.tail hL)))) gErrRange gErrRangeT Tryz.underlying47 rowE Tryz.underlying123 Tryz.underlying125 rfl rfl Tryz.underlying9 (by kernel_rfl) (by kernel_rfl)
    exact ⟨_, World.var?_cell gErrRange hv 0, .inr ⟨_, _, rfl⟩⟩
theorem reads (os : Os) {H : Type} (enc : TypeId × Value → H) : ∃ places, DataW.whole enc Tryz.prog ((laidWorld os).forCall (fun _ _ => 0) ⟨#[], #[.string ByteArray.empty], []⟩).memory Tryz.f3.params.toList Rows.grammarParseSpec.vars false (#[.string ByteArray.empty] : Array Value).toList 8 = some ([.lit (.string [])], [], places) :=
  ⟨[], by kernel_rfl⟩
set_option maxRecDepth 100000 in
theorem lifted (os : Os) (started : os.Started) (H : Type) (enc : TypeId × Value → H) (F : Stop.Interp) :
    ReturnsInHanded {} Tryz.checked os 3 .any ((OpenSpec.ofChange Rows.grammarParseSpec).preRow enc Tryz.prog Tryz.f3 Rows.grammarParseRow.domain false Rows.grammarParseRow.laid) (((OpenSpec.ofChange Rows.grammarParseSpec).at F).post enc Tryz.prog Tryz.f3 false true false false) := by
  obtain ⟨places, hx⟩ := reads os enc
  refine returnsInHanded_of_row (C := Tryz.checked) (s := OpenSpec.ofChange Rows.grammarParseSpec) own started (by kernel_rfl) Tryz.func3
    (witness_row_atRef (enc := enc) (C := Tryz.checked) false (laidWorld os) #[.string ByteArray.empty] rfl (by kernel_rfl) (by kernel_rfl) (by kernel_rfl)
      (OpenSpec.preRow_of_cond 8 hx (by kernel_rfl) (fun k hk => by cases hk) (by kernel_rfl) (laid_met os))) ?_
  intro W base args ds gs before hval0 hW hcnd _ hsz0 hL hsh _
  have hsz : (DataW.weightsEach Tryz.prog (Tryz.f3.params.toList ++ Rows.grammarParseSpec.plain.varTypes Tryz.prog) (ds ++ gs)).all (· ≤ reachBytes) = true := hsz0
  have hval : ∀ (j : Nat) t v, Tryz.f3.params[j]? = some t → args[j]? = some v → Value.okWide Tryz.prog W .any base t v := hval0
  have hW' := hW
  obtain ⟨p, q, hA0, hV, rfl, hfz, hnd⟩ := hW
  have hA : DataW.TrodAll enc Tryz.prog W 0 (fun _ => true) true Tryz.f3.params.toList args.toList ds p := hA0
  rw [Tryz.params3] at hA hval hsz
  obtain ⟨v0, vs0, d0, ds0, p0, q0, hargs, rfl, rfl, h0, r0⟩ := trodAll_cons hA
  obtain ⟨rfl, rfl, rfl⟩ := trodAll_nil r0
  obtain rfl : args = #[v0] := by cases args; simp_all
  obtain ⟨rfl, rfl⟩ := trodVars_none hV
  obtain ⟨a0, rfl, rfl, rfl, y0⟩ := open_string Tryz.underlying9 (hval 0 9 v0 rfl rfl) h0
  have w0 : a0.size ≤ 140737488351232 := by
    have z := sized_string hsz (j := 0) (t := 9) rfl rfl
    rw [Array.length_toList] at z
    exact z
  clear hA0 hval0 hsz0 hsz
  have hG : Ge W := ge_of hL hsh
  refine (GrammarParse.calls a0 W hG (by omega)).mono fun e W' ⟨he, bel0⟩ => ?_
  have bel : Below W.heap.size W W' := bel0
  subst he
  exact ⟨_, rfl, _, _, _, [], _, [], hW', trodAll_mk1 (shut_bool Tryz.underlying4 _), (trodAll_cons_mk (shut_string Tryz.underlying9 y0) trodAll_mk0), rfl, bel.frame _, fun h => by cases h⟩
theorem said : Rows.GrammarParseSaid :=
  OpenClaim.holds_of_cond 3 Tryz.f3 rfl rfl rfl rfl rfl rfl rfl ⟨rfl, rfl, rfl, rfl, rfl⟩ rfl rfl rfl rfl rfl (by kernel_rfl) Tryz.func3 (by kernel_rfl)
    (of_decide_eq_true (by kernel_rfl)) (by unfold Func.isWrapper; first | (rw [if_pos (by decide +kernel)]; kernel_rfl) | (rw [if_neg (by decide +kernel)]; exact ⟨rfl, rfl⟩))
    (fun os started H enc _ F => by rw [OpenClaim.pre_eq_preRow]; exact lifted os started H enc F)
/-- No parameter wants a stand-in; the program's own looks are as the card says. -/
theorem plain (f : FuncId) (fn : Func) (hf : Tryz.pinned.checked.prog.funcNamed "vinculum/vinculumlaw49.GrammarParse" = some f) (hfn : Tryz.pinned.checked.prog.funcs[f]? = some fn) :
    true = Tryz.pinned.checked.prog.looks [] ∧ ∀ (j : Nat) t, fn.params[j]? = some t → Tryz.pinned.checked.prog.wantsStandIn t = false := by
  obtain rfl : f = 3 := Option.some.inj ((show Tryz.prog.funcNamed "vinculum/vinculumlaw49.GrammarParse" = some 3 by kernel_rfl).symm.trans hf) |>.symm
  obtain rfl : fn = Tryz.f3 := (Option.some.inj (Tryz.func3.symm.trans hfn)).symm
  refine ⟨by kernel_rfl, fun j t ht => ?_⟩
  rw [Tryz.params3] at ht
  have hm : t ∈ [9] := by simpa using Array.mem_of_getElem? ht
  have hall : ([9].all fun u => !Tryz.prog.wantsStandIn u) = true := by kernel_rfl
  exact (show Tryz.prog.wantsStandIn t = false by simpa using List.all_eq_true.1 hall t hm)
theorem proved : Rows.GrammarParseCardSaid :=
  Claim7.holds_tied_plain_at .later [] _ _ _ _ said (fun _ h => by cases h) (by kernel_rfl) (fun _ h => by cases h) grammarParse_row_tie rfl ⟨rfl, rfl⟩ (by kernel_rfl) rfl plain (by kernel_rfl)
#print axioms proved
end Go.Proofs.YtghdimmomnfakaaGreatDoor.grammarParse
namespace Go.Proofs.YtghdimmomnfakaaGreatDoor
/-- The statement, under a short name, for the claim. -/
theorem grammarParse_holds : Rows.GrammarParseCardSaid := grammarParse.proved
end Go.Proofs.YtghdimmomnfakaaGreatDoor
