/- The law PrinterNonempty returns true at every input whose reading is of bulk at most 1048576; each argument reads as it did. No further condition. -/
import Derived.Test.YtkpgbdkkgcdhmaaZNLX
import Derived.Test.YtkpgbdkkgcdhmaaZNME
import Derived.Test.YtkpgbdkkgcdhmaaRows
import Derived.WalkKit
import Derived.ProofKit
import Derived.OpenShut
import Derived.ChangeMaps5
import Derived.JoinedCond
namespace Go.Proofs.Ytkpgbdkkgcdhmaa.printerNonempty
open Go.ChangeShapes Go.WideShapes Go.ChangeAt Go.RowKit
set_option linter.unusedVariables false

theorem own : ownKnob Try.prog.godebug = none := by kernel_rfl
theorem wf_in {n : Int} (h : (Lit.int .i64 n).wf = true) : Go.R.in64 n := by
  simp [Lit.wf, IntKind.min, IntKind.max, IntKind.signed, IntKind.bits] at h
  exact ⟨by omega, by omega⟩
theorem exWalk (w : World) : Calls Try.prog 7 #[] w fun e w' => e = .returned (.bool true) ∧ Go.RowKit.Below w.heap.size w w' :=
  Go.R.walk_of_eval Go.R.none_ok (show Go.R.saysTrue (Go.R.call Try.prog 0 Go.R.noneKnown 1000 7 [] Go.R.Heap.empty) = true by kernel_rfl) w

theorem lits_bulk {H : Type} : ∀ l : List Int, l.length ≤ Rows.uptoBulkAll (Go.ChangeShapes.lits (H := H) .i64 l)
  | [] => Nat.zero_le _
  | n :: l => by
    have := lits_bulk (H := H) l
    show l.length + 1 ≤ Rows.uptoBulk (.lit (.int .i64 n)) + Rows.uptoBulkAll (Go.ChangeShapes.lits .i64 l)
    simp only [Rows.uptoBulk]; omega
theorem ints_bulk {H : Type} {l : List Int} {d : DataW H} (h : ∃ rest, d = .slice (Go.ChangeShapes.lits .i64 l) rest ∨ d = .nil ∧ l = []) : l.length ≤ Rows.uptoBulk d := by
  rcases h with ⟨rest, rfl | ⟨_, rfl⟩⟩
  · have := lits_bulk (H := H) l
    simp only [Rows.uptoBulk]; omega
  · exact Nat.zero_le _
set_option maxRecDepth 100000 in
theorem lifted (os : Os) (started : os.Started) (H : Type) (enc : TypeId × Value → H) (F : Stop.Interp) :
    ReturnsInHanded {} Try.checked os 3 .any ((Rows.OpenSpec.upto Rows.printerNonemptySpec).pre6 enc Try.prog Try.f3 Rows.printerNonemptyUptoRow.domain false) (((Rows.OpenSpec.upto Rows.printerNonemptySpec).at F).post enc Try.prog Try.f3 false true false false) := by
  refine returnsInHanded_of_cond (C := Try.checked) (s := Rows.OpenSpec.upto Rows.printerNonemptySpec) (k := Rows.uptoSmall) rfl own started (by kernel_rfl) Try.func3
    (OpenSpec.witness (enc := enc) (C := Try.checked) (s := Rows.OpenSpec.upto Rows.printerNonemptySpec) (k := Rows.uptoSmall) rfl false ⟨#[], #[.agg #[.slice none 0 0, .slice none 0 0], .slice none 0 0, .int .i64 0, .int .i64 0], []⟩ 8 (by kernel_rfl) (by kernel_rfl) (by kernel_rfl)
      (x := ([.agg [.nil, .nil], .nil, .lit (.int .i64 0), .lit (.int .i64 0)], [], [])) (by kernel_rfl) rfl (by kernel_rfl)) ?_
  intro W base args ds gs before hval0 hW _ hk _
  have hval : ∀ (j : Nat) t v, Try.f3.params[j]? = some t → args[j]? = some v → Value.okWide Try.prog W .any base t v := hval0
  have hW' := hW
  obtain ⟨p, q, hA0, hV, rfl, hfz, hnd⟩ := hW
  have hA : DataW.TrodAll enc Try.prog W 0 (fun _ => true) true Try.f3.params.toList args.toList ds p := hA0
  rw [Try.params3] at hA hval
  obtain ⟨v0, vs0, d0, ds0, p0, q0, hargs, rfl, rfl, h0, r0⟩ := trodAll_cons hA
  obtain ⟨v1, vs1, d1, ds1, p1, q1, rfl, rfl, rfl, h1, r1⟩ := trodAll_cons r0
  obtain ⟨v2, vs2, d2, ds2, p2, q2, rfl, rfl, rfl, h2, r2⟩ := trodAll_cons r1
  obtain ⟨v3, vs3, d3, ds3, p3, q3, rfl, rfl, rfl, h3, r3⟩ := trodAll_cons r2
  obtain ⟨rfl, rfl, rfl⟩ := trodAll_nil r3
  obtain rfl : args = #[v0, v1, v2, v3] := by cases args; simp_all
  obtain ⟨rfl, rfl⟩ := trodVars_none hV
  obtain ⟨mu0, H0, cs0, x0, em0, le0, hr0, rp0, bd0⟩ := Go.Proofs.Ytkpgbdkkgcdhmaa.me.prog_arg (Go.R.Em.empty W) (hval 0 25 v0 rfl rfl) h0
  obtain ⟨sa0_0, sk0_0, sa0_1, sk0_1, rfl, w0_0, w0_1⟩ := rp0
  have hv0 := Go.R.VRel.aggOf (Go.R.okWide_struct Go.Proofs.Ytkpgbdkkgcdhmaa.me.u25 (hval 0 25 v0 rfl rfl)) hr0
  obtain ⟨mu1, H1, sa1, sk1, l1, em1, le1, hv1, hs1, hl1, hd1⟩ := Go.R.em_ints em0 Try.underlying26 Try.underlying3 (by kernel_rfl) (hval 1 26 v1 rfl rfl) h1
  obtain ⟨a2, rfl, rfl, rfl, w2⟩ := open_int Try.underlying3 (hval 2 3 v2 rfl rfl) h2
  obtain ⟨a3, rfl, rfl, rfl, w3⟩ := open_int Try.underlying3 (hval 3 3 v3 rfl rfl) h3
  have bd1 := ints_bulk hd1
  have hbk : Rows.uptoBulkAll _ ≤ 1048576 := of_decide_eq_true hk
  simp only [Rows.uptoBulkAll, List.append_nil] at hbk
  clear hA0 hval0
  have hc := Go.Proofs.Ytkpgbdkkgcdhmaa.lx.pn_law x0 l1 a2 a3 em1.hs (Go.R.SR.mono le1.heap w0_0) (Go.R.SR.mono le1.heap w0_1) hs1 (wf_in w2) (wf_in w3) (by omega)
  have hw := Go.R.walk_of_Em (Go.R.kx_ok exWalk) em1 (f := 3) (args := [.agg ⟨[.slice sa0_0 x0.arrs.length sk0_0, .slice sa0_1 x0.funs.length sk0_1]⟩, .slice sa1 l1.length sk1, .int .i64 a2, .int .i64 a3]) (A := #[v0, v1, .int .i64 a2, .int .i64 a3]) (Go.R.LRel.cons (Go.R.VRel.mono le1.emb hv0) (Go.R.LRel.cons hv1 (Go.R.LRel.cons (Go.R.VRel.atom _ rfl) (Go.R.LRel.cons (Go.R.VRel.atom _ rfl) Go.R.LRel.nil)))) (hc.mono (by rintro _ _ ⟨r, F', h1, h2, rfl, rfl⟩; rfl))
  refine hw.mono fun e W' ⟨he, hg⟩ => ?_
  subst he
  refine ⟨_, rfl, ?_⟩
  exact Go.R.post_law (kids_rows (by kernel_rfl) (by kernel_rfl)) (slices_full_of Try.prog (by kernel_rfl)) (by decide) hW' rfl rfl Try.underlying4 rfl hg

theorem over : Rows.printerNonemptyUptoRow.holds Try.pinned (Rows.OpenSpec.upto Rows.printerNonemptySpec) :=
  OpenClaim.holds_of_cond 3 Try.f3 rfl rfl rfl rfl rfl rfl rfl ⟨rfl, rfl, rfl, rfl, rfl⟩ rfl rfl rfl rfl rfl (by kernel_rfl) Try.func3 (by kernel_rfl)
    (of_decide_eq_true (by kernel_rfl)) (by unfold Func.isWrapper; first | (rw [if_pos (by decide +kernel)]; kernel_rfl) | (rw [if_neg (by decide +kernel)]; exact ⟨rfl, rfl⟩))
    (fun os started H enc _ F => lifted os started H enc F)

theorem proved : Rows.PrinterNonemptyUptoSaid :=
  over
#print axioms proved
end Go.Proofs.Ytkpgbdkkgcdhmaa.printerNonempty
