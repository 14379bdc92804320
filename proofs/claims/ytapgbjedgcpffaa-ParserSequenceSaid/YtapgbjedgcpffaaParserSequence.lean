/- The law ParserSequence returns true at every input; each argument reads as it did. No further condition. -/
import Derived.Test.YtapgbjedgcpffaaZQLS
import Derived.Test.YtapgbjedgcpffaaRows
import Derived.WalkKit
import Derived.ProofKit
import Derived.OpenShut
import Derived.ChangeMaps5
namespace Go.Proofs.Ytapgbjedgcpffaa.parserSequence
open Go.ChangeShapes Go.WideShapes Go.ChangeAt Go.RowKit
set_option linter.unusedVariables false

theorem own : ownKnob Try.prog.godebug = none := by kernel_rfl
theorem wf_in {n : Int} (h : (Lit.int .i64 n).wf = true) : Go.R.in64 n := by
  simp [Lit.wf, IntKind.min, IntKind.max, IntKind.signed, IntKind.bits] at h
  exact ⟨by omega, by omega⟩
theorem exWalk (w : World) : Calls Try.prog 18 #[] w fun e w' => e = .returned (.bool true) ∧ Go.RowKit.Below w.heap.size w w' :=
  Go.R.walk_of_eval Go.R.none_ok (show Go.R.saysTrue (Go.R.call Try.prog 0 Go.R.noneKnown 1000 18 [] Go.R.Heap.empty) = true by kernel_rfl) w

set_option maxRecDepth 100000 in
theorem lifted (os : Os) (started : os.Started) (H : Type) (enc : TypeId × Value → H) :
    ReturnsInHanded {} Try.checked os 6 .any (Rows.parserSequenceSpec.pre6 enc Try.prog Try.f6 Rows.parserSequenceRow.domain false) (Rows.parserSequenceSpec.post enc Try.prog Try.f6 false true false false) := by
  refine returnsInHanded_of_change (C := Try.checked) own started (by kernel_rfl) Try.func6
    (ChangeSpec.witness6 (enc := enc) (C := Try.checked) false ⟨#[], #[.slice none 0 0, .slice none 0 0], []⟩ 8 (by kernel_rfl) (by kernel_rfl) (by kernel_rfl) (by kernel_rfl)) ?_
  intro W base args ds gs before hval0 hW hcnd _
  have hval : ∀ (j : Nat) t v, Try.f6.params[j]? = some t → args[j]? = some v → Value.okWide Try.prog W .any base t v := hval0
  have hW' := hW
  obtain ⟨p, q, hA0, hV, rfl, hfz, hnd⟩ := hW
  have hA : DataW.TrodAll enc Try.prog W 0 (fun _ => true) true Try.f6.params.toList args.toList ds p := hA0
  rw [Try.params6] at hA hval
  obtain ⟨v0, vs0, d0, ds0, p0, q0, hargs, rfl, rfl, h0, r0⟩ := trodAll_cons hA
  obtain ⟨v1, vs1, d1, ds1, p1, q1, rfl, rfl, rfl, h1, r1⟩ := trodAll_cons r0
  obtain ⟨rfl, rfl, rfl⟩ := trodAll_nil r1
  obtain rfl : args = #[v0, v1] := by cases args; simp_all
  obtain ⟨rfl, rfl⟩ := trodVars_none hV
  obtain ⟨mu0, H0, sa0, sk0, l0, em0, le0, hv0, hs0, hl0, hd0⟩ := Go.R.em_ints (Go.R.Em.empty W) Try.underlying22 Try.underlying3 (by kernel_rfl) (hval 0 22 v0 rfl rfl) h0
  obtain ⟨mu1, H1, sa1, sk1, l1, em1, le1, hv1, hs1, hl1, hd1⟩ := Go.R.em_ints em0 Try.underlying22 Try.underlying3 (by kernel_rfl) (hval 1 22 v1 rfl rfl) h1
  clear hA0 hval0
  have hc := Go.Proofs.Ytapgbjedgcpffaa.ls.seq_law l0 l1 em1.hs (Go.R.SR.mono le1.heap hs0) hs1
  have hw := Go.R.walk_of_Em (Go.R.kx_ok exWalk) em1 (f := 6) (args := [.slice sa0 l0.length sk0, .slice sa1 l1.length sk1]) (E := #[v0, v1]) (Go.R.LRel.cons (Go.R.VRel.mono le1.emb hv0) (Go.R.LRel.cons hv1 Go.R.LRel.nil)) (hc.mono (by rintro _ _ ⟨r, F', h1, h2, rfl, rfl⟩; rfl))
  refine hw.mono fun e W' ⟨he, hg⟩ => ?_
  subst he
  refine ⟨_, rfl, ?_⟩
  exact Go.R.post_law (kids_rows (by kernel_rfl) (by kernel_rfl)) (slices_full_of Try.prog (by kernel_rfl)) (by decide) hW' rfl rfl Try.underlying4 rfl hg

theorem over : Rows.parserSequenceRow.holds Try.pinned (OpenSpec.ofChange Rows.parserSequenceSpec) :=
  OpenClaim.holds_of_wide 6 Try.f6 rfl rfl rfl rfl rfl rfl rfl ⟨rfl, rfl, rfl, rfl, rfl⟩ rfl rfl rfl rfl rfl (by kernel_rfl) Try.func6 (by kernel_rfl)
    (of_decide_eq_true (by kernel_rfl)) (by unfold Func.isWrapper; first | (rw [if_pos (by decide +kernel)]; kernel_rfl) | (rw [if_neg (by decide +kernel)]; exact ⟨rfl, rfl⟩))
    (fun os started H enc _ => lifted os started H enc)

theorem proved : Rows.ParserSequenceSaid :=
  over
#print axioms proved
end Go.Proofs.Ytapgbjedgcpffaa.parserSequence
