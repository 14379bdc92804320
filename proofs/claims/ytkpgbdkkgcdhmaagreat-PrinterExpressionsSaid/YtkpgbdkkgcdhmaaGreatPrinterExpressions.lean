/- The law PrinterExpressions returns true at every input; each argument reads as it did. No further condition. -/
import Derived.Test.YtkpgbdkkgcdhmaaGreatZPLE
import Derived.Test.YtkpgbdkkgcdhmaaGreatRows
import Derived.WalkKit
import Derived.ProofKit
import Derived.OpenShut
import Derived.ChangeMaps5
namespace Go.Proofs.YtkpgbdkkgcdhmaaGreat.printerExpressions
open Go.ChangeShapes Go.WideShapes Go.ChangeAt Go.RowKit
set_option linter.unusedVariables false

theorem own : ownKnob Tryz.prog.godebug = none := by kernel_rfl
theorem wf_in {n : Int} (h : (Lit.int .i64 n).wf = true) : Go.R.in64 n := by
  simp [Lit.wf, IntKind.min, IntKind.max, IntKind.signed, IntKind.bits] at h
  exact ⟨by omega, by omega⟩
theorem exWalk (w : World) : Calls Tryz.prog 10 #[] w fun e w' => e = .returned (.bool true) ∧ Go.RowKit.Below w.heap.size w w' :=
  Go.R.walk_of_eval Go.R.none_ok (show Go.R.saysTrue (Go.R.call Tryz.prog 0 Go.R.noneKnown 1000 10 [] Go.R.Heap.empty) = true by kernel_rfl) w

set_option maxRecDepth 100000 in
theorem lifted (os : Os) (started : os.Started) (H : Type) (enc : TypeId × Value → H) :
    ReturnsInHanded {} Tryz.checked os 5 .any (Rows.printerExpressionsSpec.pre6 enc Tryz.prog Tryz.f5 Rows.printerExpressionsRow.domain false) (Rows.printerExpressionsSpec.post enc Tryz.prog Tryz.f5 false true false false) := by
  refine returnsInHanded_of_change (C := Tryz.checked) own started (by kernel_rfl) Tryz.func5
    (ChangeSpec.witness6 (enc := enc) (C := Tryz.checked) false ⟨#[], #[.slice none 0 0], []⟩ 8 (by kernel_rfl) (by kernel_rfl) (by kernel_rfl) (by kernel_rfl)) ?_
  intro W base args ds gs before hval0 hW hcnd _
  have hval : ∀ (j : Nat) t v, Tryz.f5.params[j]? = some t → args[j]? = some v → Value.okWide Tryz.prog W .any base t v := hval0
  have hW' := hW
  obtain ⟨p, q, hA0, hV, rfl, hfz, hnd⟩ := hW
  have hA : DataW.TrodAll enc Tryz.prog W 0 (fun _ => true) true Tryz.f5.params.toList args.toList ds p := hA0
  rw [Tryz.params5] at hA hval
  obtain ⟨v0, vs0, d0, ds0, p0, q0, hargs, rfl, rfl, h0, r0⟩ := trodAll_cons hA
  obtain ⟨rfl, rfl, rfl⟩ := trodAll_nil r0
  obtain rfl : args = #[v0] := by cases args; simp_all
  obtain ⟨rfl, rfl⟩ := trodVars_none hV
  obtain ⟨mu0, H0, sa0, sk0, l0, em0, le0, hv0, hs0, hl0, hd0⟩ := Go.R.em_ints (Go.R.Em.empty W) Tryz.underlying26 Tryz.underlying3 (by kernel_rfl) (hval 0 26 v0 rfl rfl) h0
  clear hA0 hval0
  have hc := Go.Proofs.YtkpgbdkkgcdhmaaGreat.le.pexpr_law l0 em0.hs hs0
  have hw := Go.R.walk_of_Em (Go.R.kx_ok exWalk) em0 (f := 5) (args := [.slice sa0 l0.length sk0]) (A := #[v0]) (Go.R.LRel.cons hv0 Go.R.LRel.nil) (hc.mono (by rintro _ _ ⟨r, F', h1, h2, rfl, rfl⟩; rfl))
  refine hw.mono fun e W' ⟨he, hg⟩ => ?_
  subst he
  refine ⟨_, rfl, ?_⟩
  exact Go.R.post_law (kids_rows (by kernel_rfl) (by kernel_rfl)) (slices_full_of Tryz.prog (by kernel_rfl)) (by decide) hW' rfl rfl Tryz.underlying4 rfl hg

theorem over : Rows.printerExpressionsRow.holds Tryz.pinned (OpenSpec.ofChange Rows.printerExpressionsSpec) :=
  OpenClaim.holds_of_wide 5 Tryz.f5 rfl rfl rfl rfl rfl rfl rfl ⟨rfl, rfl, rfl, rfl, rfl⟩ rfl rfl rfl rfl rfl (by kernel_rfl) Tryz.func5 (by kernel_rfl)
    (of_decide_eq_true (by kernel_rfl)) (by unfold Func.isWrapper; first | (rw [if_pos (by decide +kernel)]; kernel_rfl) | (rw [if_neg (by decide +kernel)]; exact ⟨rfl, rfl⟩))
    (fun os started H enc _ => lifted os started H enc)

theorem proved : Rows.PrinterExpressionsSaid :=
  over
#print axioms proved
end Go.Proofs.YtkpgbdkkgcdhmaaGreat.printerExpressions
