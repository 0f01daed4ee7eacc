/-
  What grammar.Valid asks of the rules ahead: none clashes.
-/
import Derived.Test.YtghdimmomnfakaaDoorGvFunc
set_option linter.unusedVariables false
namespace Go.Proofs.YtghdimmomnfakaaDoor.Gv
open Go.RowKit Go.Proofs.YtghdimmomnfakaaDoorW.PrintWords Go.Proofs.YtghdimmomnfakaaDoorW.PrintLast Go.Proofs.YtghdimmomnfakaaDoorW.PrintMore
open Go.Proofs.YtghdimmomnfakaaDoor.X (S38 k38 rd_T38 at_T38)
def clashP (a0 : Int) (a1 a2 : ByteArray) (a3 a4 a5 : Int) (x : S38) : Bool := (Go.Proofs.YtghdimmomnfakaaDoor.Y.grammar_clash.f x.f0 x.f1 x.f2 x.f3 x.f4 x.f5 a0 a1 a2 a3 a4 a5).getD false
theorem clash_total (a0 : Int) (a1 a2 : ByteArray) (a3 a4 a5 : Int) (x : S38) : Go.Proofs.YtghdimmomnfakaaDoor.Y.grammar_clash.f x.f0 x.f1 x.f2 x.f3 x.f4 x.f5 a0 a1 a2 a3 a4 a5 = some (clashP a0 a1 a2 a3 a4 a5 x) := by
  unfold clashP Go.Proofs.YtghdimmomnfakaaDoor.Y.grammar_clash.f
  repeat' split
  all_goals rfl
set_option maxHeartbeats 1000000 in
theorem closure_calls (a0 : Int) (a1 a2 : ByteArray) (a3 a4 a5 : Int) (W : World) (x : S38) (g : Nat) (hk : W.heap[g]? = some (.cells #[.int .i64 a0, .string a1, .string a2, .int .i64 a3, .int .i64 a4, .int .i64 a5] 38 (0, 0))) :
    Calls Tryd.prog 31 #[ruleV x, .pointer (some ⟨g, 0, none⟩)] W fun e w' => e = .returned (.bool (clashP a0 a1 a2 a3 a4 a5 x)) ∧ Below W.heap.size W w' := by
  have l1 : g < W.heap.size := blk_lt hk
  have n1 : ¬ g = W.heap.size := Nat.ne_of_lt l1
  have n3 : ¬ W.heap.size = g := fun e => n1 e.symm
  have call := fun W' => Go.Proofs.YtghdimmomnfakaaDoor.Y.grammar_clash.calls x.f0 x.f1 x.f2 x.f3 x.f4 x.f5 a0 a1 a2 a3 a4 a5 _ W' (clash_total a0 a1 a2 a3 a4 a5 x)
  generalize clashP a0 a1 a2 a3 a4 a5 x = b at call ⊢
  have c0 := (blk_cell hk 0).trans rfl
  have c1 := (blk_cell hk 1).trans rfl
  have c2 := (blk_cell hk 2).trans rfl
  have c3 := (blk_cell hk 3).trans rfl
  have c4 := (blk_cell hk 4).trans rfl
  have c5 := (blk_cell hk 5).trans rfl
  clear hk
  go_enter Tryd.func31, Tryd.ntmps31
  go_wp2_with (go_at_call 32; refine (call _).mono ?_; rintro e w' ⟨rfl, hb'⟩)
  go_ret
  exact ⟨rfl, keepB hb' ((Below.refl _ _).alloc (Nat.le_refl _) _)⟩
def api_Rule.f (l : List S38) (a0 : Int) (a1 a2 : ByteArray) (a3 a4 a5 : Int) : Option Bool := some (decide (0 ≤ idxP (clashP a0 a1 a2 a3 a4 a5) l))
theorem api_Rule.callsAt (g : Nat) (A0 : Option Addr) (c0 : Nat) (l0 : List S38) (a0 : Int) (a1 a2 : ByteArray) (a3 a4 a5 : Int) (r : Bool) (w : World) (hr0 : Kd.C k38 w A0 l0.length l0) (hc0 : l0.length ≤ c0)
    (hk : w.heap[g]? = some (.cells #[.int .i64 a0, .string a1, .string a2, .int .i64 a3, .int .i64 a4, .int .i64 a5] 38 (0, 0))) (h : api_Rule.f l0 a0 a1 a2 a3 a4 a5 = some r) :
    Calls Tryd.prog 30 #[.slice A0 l0.length c0, .func (.func 31) #[] #[.pointer (some ⟨g, 0, none⟩)]] w fun e w' => e = .returned (.bool r) ∧ Below w.heap.size w w' := by
  obtain rfl := Option.some.inj h
  exact containsFunc 31 _ (clashP a0 a1 a2 a3 a4 a5) (enters_of Tryd.func31 (by kernel_rfl) rfl) A0 c0 l0 w hr0 hc0 (fun W x hb => closure_calls a0 a1 a2 a3 a4 a5 W x g (blk_below hk hb))
end Go.Proofs.YtghdimmomnfakaaDoor.Gv
