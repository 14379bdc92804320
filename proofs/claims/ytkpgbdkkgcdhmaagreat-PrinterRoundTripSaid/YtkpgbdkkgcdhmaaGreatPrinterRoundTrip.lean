/- The law PrinterRoundTrip returns true at every input; each argument reads as it did. No further condition. -/
import Derived.Test.YtkpgbdkkgcdhmaaGreatZUV3
import Derived.Test.YtkpgbdkkgcdhmaaGreatRows
import Derived.WalkKit
import Derived.ProofKit
import Derived.OpenShut
import Derived.ChangeMaps5
namespace Go.Proofs.YtkpgbdkkgcdhmaaGreat.printerRoundTrip
open Go.ChangeShapes Go.WideShapes Go.ChangeAt Go.RowKit
set_option linter.unusedVariables false

theorem own : ownKnob Tryz.prog.godebug = none := by kernel_rfl
theorem wf_in {n : Int} (h : (Lit.int .i64 n).wf = true) : Go.R.in64 n := by
  simp [Lit.wf, IntKind.min, IntKind.max, IntKind.signed, IntKind.bits] at h
  exact ⟨by omega, by omega⟩
theorem exWalk (w : World) : Calls Tryz.prog 10 #[] w fun e w' => e = .returned (.bool true) ∧ Go.RowKit.Below w.heap.size w w' :=
  Go.R.walk_of_eval Go.R.none_ok (show Go.R.saysTrue (Go.R.call Tryz.prog 0 Go.R.noneKnown 1000 10 [] Go.R.Heap.empty) = true by kernel_rfl) w

set_option maxRecDepth 100000 in
theorem lifted (os : Os) (started : os.Started) (H : Type) (enc : TypeId × Value → H) :
    ReturnsInHanded {} Tryz.checked os 4 .any (Rows.printerRoundTripSpec.pre6 enc Tryz.prog Tryz.f4 Rows.printerRoundTripRow.domain false) (Rows.printerRoundTripSpec.post enc Tryz.prog Tryz.f4 false true false false) := by
  refine returnsInHanded_of_change (C := Tryz.checked) own started (by kernel_rfl) Tryz.func4
    (ChangeSpec.witness6 (enc := enc) (C := Tryz.checked) false ⟨#[], #[.slice none 0 0, .slice none 0 0, .int .i64 0, .int .i64 0], []⟩ 8 (by kernel_rfl) (by kernel_rfl) (by kernel_rfl) (by kernel_rfl)) ?_
  intro W base args ds gs before hval0 hW hcnd _
  have hval : ∀ (j : Nat) t v, Tryz.f4.params[j]? = some t → args[j]? = some v → Value.okWide Tryz.prog W .any base t v := hval0
  have hW' := hW
  obtain ⟨p, q, hA0, hV, rfl, hfz, hnd⟩ := hW
  have hA : DataW.TrodAll enc Tryz.prog W 0 (fun _ => true) true Tryz.f4.params.toList args.toList ds p := hA0
  rw [Tryz.params4] at hA hval
  obtain ⟨v0, vs0, d0, ds0, p0, q0, hargs, rfl, rfl, h0, r0⟩ := trodAll_cons hA
  obtain ⟨v1, vs1, d1, ds1, p1, q1, rfl, rfl, rfl, h1, r1⟩ := trodAll_cons r0
  obtain ⟨v2, vs2, d2, ds2, p2, q2, rfl, rfl, rfl, h2, r2⟩ := trodAll_cons r1
  obtain ⟨v3, vs3, d3, ds3, p3, q3, rfl, rfl, rfl, h3, r3⟩ := trodAll_cons r2
  obtain ⟨rfl, rfl, rfl⟩ := trodAll_nil r3
  obtain rfl : args = #[v0, v1, v2, v3] := by cases args; simp_all
  obtain ⟨rfl, rfl⟩ := trodVars_none hV
  obtain ⟨mu0, H0, sa0, sk0, l0, em0, le0, hv0, hs0, hl0, hd0⟩ := Go.R.em_ints (Go.R.Em.empty W) Tryz.underlying26 Tryz.underlying3 (by kernel_rfl) (hval 0 26 v0 rfl rfl) h0
  obtain ⟨mu1, H1, sa1, sk1, l1, em1, le1, hv1, hs1, hl1, hd1⟩ := Go.R.em_ints em0 Tryz.underlying26 Tryz.underlying3 (by kernel_rfl) (hval 1 26 v1 rfl rfl) h1
  obtain ⟨a2, rfl, rfl, rfl, w2⟩ := open_int Tryz.underlying3 (hval 2 3 v2 rfl rfl) h2
  obtain ⟨a3, rfl, rfl, rfl, w3⟩ := open_int Tryz.underlying3 (hval 3 3 v3 rfl rfl) h3
  clear hA0 hval0
  have hc := Go.Proofs.YtkpgbdkkgcdhmaaGreat.lt.rt_law l0 l1 a2 a3 em1.hs (Go.R.SR.ac le1.heap hs0) hs1 (wf_in w2) (wf_in w3)
  have hw := Go.R.walk_of_Em (Go.R.kx_ok exWalk) em1 (f := 4) (args := [.slice sa0 l0.length sk0, .slice sa1 l1.length sk1, .int .i64 a2, .int .i64 a3]) (E := #[v0, v1, .int .i64 a2, .int .i64 a3]) (Go.R.LRel.cons (Go.R.VRel.ac le1.emb hv0) (Go.R.LRel.cons hv1 (Go.R.LRel.cons (Go.R.VRel.atom _ rfl) (Go.R.LRel.cons (Go.R.VRel.atom _ rfl) Go.R.LRel.nil)))) (hc.ac (by rintro _ _ ⟨r, F', h1, h2, rfl, rfl⟩; rfl))
  refine hw.mono fun e W' ⟨he, hg⟩ => ?_
  subst he
  refine ⟨_, rfl, ?_⟩
  exact Go.R.post_law (kids_rows (by kernel_rfl) (by kernel_rfl)) (slices_full_of Tryz.prog (by kernel_rfl)) (by decide) hW' rfl rfl Tryz.underlying4 rfl hg

theorem over : Rows.printerRoundTripRow.holds Tryz.pinned (OpenSpec.ofChange Rows.printerRoundTripSpec) :=
  OpenClaim.holds_of_wide 4 Tryz.f4 rfl rfl rfl rfl rfl rfl rfl ⟨rfl, rfl, rfl, rfl, rfl⟩ rfl rfl rfl rfl rfl (by kernel_rfl) Tryz.func4 (by kernel_rfl)
    (of_decide_eq_true (by kernel_rfl)) (by unfold Func.isWrapper; first | (rw [if_pos (by decide +kernel)]; kernel_rfl) | (rw [if_neg (by decide +kernel)]; exact ⟨rfl, rfl⟩))
    (fun os started H enc _ => lifted os started H enc)

theorem proved : Rows.PrinterRoundTripSaid :=
  over
#print axioms proved
end Go.Proofs.YtkpgbdkkgcdhmaaGreat.printerRoundTrip
