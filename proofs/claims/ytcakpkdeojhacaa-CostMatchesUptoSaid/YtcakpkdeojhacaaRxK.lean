/-
  From a symbolic run to the walk of a law; one closed law known beforehand.
  No condition beyond those that each statement names.
-/
import Derived.Test.YtcakpkdeojhacaaRxG
import Derived.Test.YtcakpkdeojhacaaRxLaw
noncomputable section
namespace Go.R
open Go.RowKit

/-- What is known beforehand: the law of the examples returns true. -/
def KX (ex : FuncId) : Known := fun f args => match args with
  | [] => bif Nat.beq f ex then some (.bool true) else none
  | _ => none
theorem kx_ok {P : Program} {ex : FuncId} (h : ∀ w, Calls P ex #[] w fun e w' => e = .returned (.bool true) ∧ Below w.heap.size w w') : KnownOK P (KX ex) := by
  intro f args v hk
  unfold KX at hk
  split at hk
  · cases hq : Nat.beq f ex with
    | false => rw [hq] at hk; cases hk
    | true =>
      rw [hq] at hk
      simp only [cond_true, Option.some.injEq] at hk
      subst hk
      have := Nat.eq_of_beq_eq_true hq
      subst this
      refine ⟨rfl, rfl, fun cargs w hc => ?_⟩
      have : cargs = #[] := by cases cargs; simp_all
      subst this
      exact h w
  · cases hk
theorem walk_of_C {P : Program} {K : Known} (hK : KnownOK P K) {f : FuncId} {args : List Value} (ha : args.all noA2 = true) (h : C P 0 K f args Heap.empty fun v _ => v = .bool true) (cargs : Array Value) (w : World) (hc : cargs.toList = args) :
    Calls P f cargs w fun e w' => e = .returned (.bool true) ∧ Below w.heap.size w w' := by
  obtain ⟨n, v, H', h1, rfl⟩ := h.out
  exact calls_of_eval hK ha rfl h1 cargs w hc
end Go.R
end
