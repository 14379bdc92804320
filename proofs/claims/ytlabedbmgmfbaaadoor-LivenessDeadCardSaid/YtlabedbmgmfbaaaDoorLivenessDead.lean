/- The law LivenessDead returns true at every input where machine.table is laid as the program's text lays it, and each argument reads as it did: the tied card. No further condition. -/
import Derived.Test.YtlabedbmgmfbaaaDoorZDLD
import Derived.Test.YtlabedbmgmfbaaaDoorLivenessDeadEval
import Derived.Test.YtlabedbmgmfbaaaDoorRows
import Derived.Test.YtlabedbmgmfbaaaDoorCards
import Derived.Test.YtlabedbmgmfbaaaDoorTie
import Derived.WalkKit
import Derived.ProofKit
import Derived.OpenShut
import Derived.ChangeMaps5
import Derived.LaidMore
import Derived.LaidHandle
import Derived.MakeChecks
import Derived.Stop.Joined
import Derived.SevenTiedAt
namespace Go.Proofs.YtlabedbmgmfbaaaDoor.livenessDead
open Go.ChangeShapes Go.WideShapes Go.ChangeAt Go.RowKit
set_option linter.unusedVariables false

theorem own : ownKnob Tryd.prog.godebug = none := by kernel_rfl
theorem wf_in {n : Int} (h : (Lit.int .i64 n).wf = true) : Go.R.in64 n := by
  simp [Lit.wf, IntKind.min, IntKind.max, IntKind.signed, IntKind.bits] at h
  exact ⟨by omega, by omega⟩
theorem gTable : Tryd.prog.globalNamed "fulling/machine.table" = some 0 := by kernel_rfl
theorem tTable : (Tryd.prog.globals[0]?).map (·.type) = some 128 := by kernel_rfl
noncomputable def dsOf : DataW Unit → List (DataW Unit)
  | .slice ds [] => ds
  | _ => []
noncomputable def fsOf : Array Field := match Tryd.prog.underlying 96 with | some (.struct fs) => fs | _ => #[]
noncomputable def rowsT : List (List Value) := match Go.R.litRows Tryd.prog fsOf.toList (dsOf Rows.laid_fulling_machine_table) with | some m => m | none => []
theorem fsT : Tryd.prog.underlying 96 = some (.struct fsOf) := by kernel_rfl
theorem rowsT_eq : Go.R.litRows Tryd.prog fsOf.toList (dsOf Rows.laid_fulling_machine_table) = some rowsT := by kernel_rfl
theorem flatT : Go.R.flatFs Tryd.prog 0 fsOf.toList = true := by kernel_rfl
theorem sizeT : Tryd.prog.cellsOf 96 = fsOf.size := by kernel_rfl
theorem fewT0 : Nat.ble 1 fsOf.size = true := by kernel_rfl
theorem fewT : 0 < fsOf.size := Go.R.ble_pos fsOf.size fewT0
theorem lenT : (dsOf Rows.laid_fulling_machine_table).length = 37 := by kernel_rfl
theorem atomsT : m1.tabC.all Go.R.noA0 = true := by kernel_rfl
theorem longT : m1.tabC.length = 259 := by kernel_rfl
theorem neT : m1.tabC ≠ [] := fun e => by have := longT; rw [e] at this; cases this
theorem cellsT_eq : rowsT.flatten = m1.tabC := by kernel_rfl
theorem tabC_eq : m1.tabC = cellsT := by kernel_rfl
theorem evaluatedT : Go.R.saysTrue (Go.R.call Tryd.prog 1 Go.R.noneKnown 1000 15 [] (Go.R.tabHeap 37 m1.tabC)) = true := by rw [tabC_eq]; exact evaluated
theorem known : Go.R.KnownOK Tryd.prog 1 (Go.R.KT 60 15 37 m1.tabC) := Go.R.kt_ok evaluatedT atomsT neT

theorem start {W : World} (h : laidMetH Tryd.prog [("fulling/machine.table", Rows.laid_fulling_machine_table)] W) : ∃ μ, Go.R.Em W μ (Go.R.tabHeap 37 m1.tabC) ∧ Go.R.GRel μ 1 ∧ 0 < W.heap.size := by
  rw [MakeChecks.laidMetH_plain _ _ _ (by kernel_rfl)] at h
  obtain ⟨ps, ⟨g0, t0, cs0, f0, p0, q0, hg0, ht0, hv0, hd0, _, _⟩, _, _⟩ := h
  obtain rfl := Option.some.inj (gTable.symm.trans hg0)
  obtain rfl := Option.some.inj (tTable.symm.trans ht0)
  have hd1 : DataW.trod (fun _ => ()) Tryd.prog W 0 (fun _ => true) false f0 128 cs0.toList = some (.slice (dsOf Rows.laid_fulling_machine_table) [], p0) := hd0
  obtain ⟨c, o, hcs, hcell⟩ := Go.R.cells_table (show Tryd.prog.underlying 128 = some (.slice 96) by kernel_rfl) fsT flatT sizeT fewT (by rw [lenT]; exact Nat.zero_lt_succ _) hd1 rowsT_eq
  rw [cellsT_eq] at hcell
  have h0 : W.cell? ⟨0, 0, none⟩ = some (.slice (some ⟨c, o, none⟩) 37 37) := by
    have := World.var?_cell gTable hv0 0
    rw [this, ← Array.getElem?_toList, hcs, lenT]; rfl
  obtain ⟨μ, e1, e2⟩ := Go.R.Em.tab atomsT neT h0 hcell
  exact ⟨μ, e1, e2, Go.R.cell_size h0⟩

/-! The witness: the heap that the door's own run leaves. -/
theorem door_met (os : Os) (args : Array Value) : laidMetH Tryd.prog [("fulling/machine.table", Rows.laid_fulling_machine_table)] ((World.doorLaid Tryd.prog 400 os).forCall (fun _ _ => 0) ⟨#[], args, []⟩).memory := by
  rw [MakeChecks.laidMetH_plain _ _ _ (by kernel_rfl)]
  exact laidMet_of_run' 8 (by kernel_rfl) (by kernel_rfl)

set_option maxRecDepth 100000 in
theorem lifted (os : Os) (started : os.Started) (H : Type) (enc : TypeId × Value → H) :
    ReturnsInHanded {} Tryd.checked os 5 .any (fun w args => (Rows.livenessDeadSpec.pre enc Tryd.prog Tryd.f5 [] false w args ∧ laidMetH Tryd.prog [("fulling/machine.table", Rows.laid_fulling_machine_table)] w) ∧ sizedMet enc Tryd.prog Tryd.f5 (OpenSpec.ofChange Rows.livenessDeadSpec) false w args)
      (Rows.livenessDeadSpec.post enc Tryd.prog Tryd.f5 false true false false) := by
  refine returnsInHanded_of_change_and (C := Tryd.checked) (X := fun w _ => laidMetH Tryd.prog [("fulling/machine.table", Rows.laid_fulling_machine_table)] w) (fun _ _ _ hh h => h.of_heap hh) own started (by kernel_rfl) Tryd.func5
    (ChangeSpec.witness_shaped (enc := enc) (C := Tryd.checked) (os := os) (X := fun w _ => laidMetH Tryd.prog [("fulling/machine.table", Rows.laid_fulling_machine_table)] w) false (World.doorLaid Tryd.prog 400 os) #[.slice none 0 0, .slice none 0 0, .int .i64 0, .int .i64 0, .int .i64 0, .int .i64 0, .int .i64 0, .int .i64 0, .int .i64 0, .int .i64 0, .int .i64 0] 8 rfl (World.shaped_of_RefB (by kernel_rfl) (by kernel_rfl)) (by kernel_rfl) (by kernel_rfl) (by kernel_rfl) (door_met os _)) ?_
  intro W base args ds gs before hval0 hW _ _ hL _
  have hval : ∀ (j : Nat) t v, Tryd.f5.params[j]? = some t → args[j]? = some v → Value.okWide Tryd.prog W .any base t v := hval0
  have hW' := hW
  obtain ⟨p, q, hA0, hV, rfl, hfz, hnd⟩ := hW
  have hA : DataW.TrodAll enc Tryd.prog W 0 (fun _ => true) true Tryd.f5.params.toList args.toList ds p := hA0
  rw [Tryd.params5] at hA hval
  obtain ⟨v0, vs0, d0, ds0, p0, q0, hargs, rfl, rfl, h0, r0⟩ := trodAll_cons hA
  obtain ⟨v1, vs1, d1, ds1, p1, q1, rfl, rfl, rfl, h1, r1⟩ := trodAll_cons r0
  obtain ⟨v2, vs2, d2, ds2, p2, q2, rfl, rfl, rfl, h2, r2⟩ := trodAll_cons r1
  obtain ⟨v3, vs3, d3, ds3, p3, q3, rfl, rfl, rfl, h3, r3⟩ := trodAll_cons r2
  obtain ⟨v4, vs4, d4, ds4, p4, q4, rfl, rfl, rfl, h4, r4⟩ := trodAll_cons r3
  obtain ⟨v5, vs5, d5, ds5, p5, q5, rfl, rfl, rfl, h5, r5⟩ := trodAll_cons r4
  obtain ⟨v6, vs6, d6, ds6, p6, q6, rfl, rfl, rfl, h6, r6⟩ := trodAll_cons r5
  obtain ⟨v7, vs7, d7, ds7, p7, q7, rfl, rfl, rfl, h7, r7⟩ := trodAll_cons r6
  obtain ⟨v8, vs8, d8, ds8, p8, q8, rfl, rfl, rfl, h8, r8⟩ := trodAll_cons r7
  obtain ⟨v9, vs9, d9, ds9, p9, q9, rfl, rfl, rfl, h9, r9⟩ := trodAll_cons r8
  obtain ⟨v10, vs10, d10, ds10, p10, q10, rfl, rfl, rfl, h10, r10⟩ := trodAll_cons r9
  obtain ⟨rfl, rfl, rfl⟩ := trodAll_nil r10
  obtain rfl : args = #[v0, v1, v2, v3, v4, v5, v6, v7, v8, v9, v10] := by cases args; simp_all
  obtain ⟨rfl, rfl⟩ := trodVars_none hV
  obtain ⟨mt, emt, gr, hsz⟩ := start hL
  obtain ⟨mu0, H0, sa0, sk0, l0, em0, le0, hv0, hs0, hl0, hd0⟩ := Go.R.em_ints emt Tryd.underlying25 Tryd.underlying3 (by kernel_rfl) (hval 0 25 v0 rfl rfl) h0
  obtain ⟨mu1, H1, sa1, sk1, l1, em1, le1, hv1, hs1, hl1, hd1⟩ := Go.R.em_ints em0 Tryd.underlying25 Tryd.underlying3 (by kernel_rfl) (hval 1 25 v1 rfl rfl) h1
  obtain ⟨a2, rfl, rfl, rfl, w2⟩ := open_int Tryd.underlying3 (hval 2 3 v2 rfl rfl) h2
  obtain ⟨a3, rfl, rfl, rfl, w3⟩ := open_int Tryd.underlying3 (hval 3 3 v3 rfl rfl) h3
  obtain ⟨a4, rfl, rfl, rfl, w4⟩ := open_int Tryd.underlying3 (hval 4 3 v4 rfl rfl) h4
  obtain ⟨a5, rfl, rfl, rfl, w5⟩ := open_int Tryd.underlying3 (hval 5 3 v5 rfl rfl) h5
  obtain ⟨a6, rfl, rfl, rfl, w6⟩ := open_int Tryd.underlying2 (hval 6 2 v6 rfl rfl) h6
  obtain ⟨a7, rfl, rfl, rfl, w7⟩ := open_int Tryd.underlying3 (hval 7 3 v7 rfl rfl) h7
  obtain ⟨a8, rfl, rfl, rfl, w8⟩ := open_int Tryd.underlying3 (hval 8 3 v8 rfl rfl) h8
  obtain ⟨a9, rfl, rfl, rfl, w9⟩ := open_int Tryd.underlying2 (hval 9 2 v9 rfl rfl) h9
  obtain ⟨a10, rfl, rfl, rfl, w10⟩ := open_int Tryd.underlying3 (hval 10 3 v10 rfl rfl) h10
  clear hA0 hval0
  have hc := Go.Proofs.YtlabedbmgmfbaaaDoor.ld.dead_law l0 l1 a2 a3 a4 a5 a6 a7 a8 a9 a10 em1.hs (Go.R.SR.mono le1.heap hs0) hs1 (wf_in w2) (wf_in w3) (wf_in w4) (wf_in w5) (wf_in w6) (wf_in w7) (wf_in w8) (wf_in w9) (wf_in w10) (Go.R.TB.mono (Go.R.TB.mono Go.R.TB.start le0.heap) le1.heap)
  have hw := Go.R.walk_of_EmG known em1 (Go.R.GRel.mono le1.emb (Go.R.GRel.mono le0.emb gr)) (f := 5) (args := [.slice sa0 l0.length sk0, .slice sa1 l1.length sk1, .int .i64 a2, .int .i64 a3, .int .i64 a4, .int .i64 a5, .int .i64 a6, .int .i64 a7, .int .i64 a8, .int .i64 a9, .int .i64 a10]) (cargs := #[v0, v1, .int .i64 a2, .int .i64 a3, .int .i64 a4, .int .i64 a5, .int .i64 a6, .int .i64 a7, .int .i64 a8, .int .i64 a9, .int .i64 a10]) (Go.R.LRel.cons (Go.R.VRel.mono le1.emb hv0) (Go.R.LRel.cons hv1 (Go.R.LRel.cons (Go.R.VRel.atom _ rfl) (Go.R.LRel.cons (Go.R.VRel.atom _ rfl) (Go.R.LRel.cons (Go.R.VRel.atom _ rfl) (Go.R.LRel.cons (Go.R.VRel.atom _ rfl) (Go.R.LRel.cons (Go.R.VRel.atom _ rfl) (Go.R.LRel.cons (Go.R.VRel.atom _ rfl) (Go.R.LRel.cons (Go.R.VRel.atom _ rfl) (Go.R.LRel.cons (Go.R.VRel.atom _ rfl) (Go.R.LRel.cons (Go.R.VRel.atom _ rfl) Go.R.LRel.nil))))))))))) (hc.mono (by rintro _ _ ⟨r, F', h1, h2, rfl, rfl⟩; rfl))
  refine hw.mono fun e W' ⟨he, hg⟩ => ?_
  subst he
  refine ⟨_, rfl, ?_⟩
  exact Go.R.post_law (kids_rows (by kernel_rfl) (by kernel_rfl)) (slices_full_of Tryd.prog (by kernel_rfl)) (by decide) hW' rfl rfl Tryd.underlying4 rfl hg

theorem over : Rows.livenessDeadRow.holds Tryd.pinned (OpenSpec.ofChange Rows.livenessDeadSpec) :=
  OpenClaim.holds_of_wide 5 Tryd.f5 rfl rfl rfl rfl rfl rfl rfl ⟨rfl, rfl, rfl, rfl, rfl⟩ rfl rfl rfl rfl rfl (by kernel_rfl) Tryd.func5 (by kernel_rfl)
    (of_decide_eq_true (by kernel_rfl)) (by unfold Func.isWrapper; first | (rw [if_pos (by decide +kernel)]; kernel_rfl) | (rw [if_neg (by decide +kernel)]; exact ⟨rfl, rfl⟩))
    (fun os started H enc _ => lifted os started H enc)
theorem plainT : (Tryd.f5.params.toList.all fun t => !Tryd.prog.wantsStandIn t) = true := by kernel_rfl

theorem proved : Rows.LivenessDeadCardSaid :=
  Claim7.holds_tied_plain_at .later [] [.data] true (true, "ef7fead22b68f7295d3bbf2b83792b464b0d36f65dbcab87281d9a401c1d5836") false
    over (fun _ h => by cases h) (by kernel_rfl) (fun _ h => by cases h) livenessDead_row_tie rfl ⟨rfl, rfl⟩ (by kernel_rfl) rfl
    (fun f fn hf hfn => by
      obtain rfl : f = 5 := Option.some.inj ((show Tryd.prog.funcNamed "fulling/fullinglaw33.LivenessDead" = some 5 by kernel_rfl).symm.trans hf) |>.symm
      obtain rfl : fn = Tryd.f5 := (Option.some.inj (Tryd.func5.symm.trans hfn)).symm
      exact ⟨by kernel_rfl, fun j t ht => by
        have := List.all_eq_true.1 plainT t (by rw [← Array.getElem?_toList] at ht; exact List.mem_of_getElem? ht)
        exact (show Tryd.prog.wantsStandIn t = false by simpa using this)⟩)
    (by kernel_rfl)
#print axioms proved
end Go.Proofs.YtlabedbmgmfbaaaDoor.livenessDead
