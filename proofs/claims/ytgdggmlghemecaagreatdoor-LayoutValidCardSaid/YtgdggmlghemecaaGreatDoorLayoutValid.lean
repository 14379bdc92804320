/- The law LayoutValid returns true at every input where machine.table is laid as the program's text lays it, and each argument reads as it did: the tied card. No further condition. -/
import Derived.Test.YtgdggmlghemecaaGreatDoorZVV3
import Derived.Test.YtgdggmlghemecaaGreatDoorLayoutValidEval
import Derived.Test.YtgdggmlghemecaaGreatDoorRows
import Derived.Test.YtgdggmlghemecaaGreatDoorCards
import Derived.Test.YtgdggmlghemecaaGreatDoorTie
import Derived.WalkKit
import Derived.ProofKit
import Derived.OpenShut
import Derived.ChangeMaps5
import Derived.LaidMore
import Derived.LaidHandle
import Derived.MakeChecks
import Derived.Stop.Joined
import Derived.SevenTiedAt
namespace Go.Proofs.YtgdggmlghemecaaGreatDoor.layoutValid
open Go.ChangeShapes Go.WideShapes Go.ChangeAt Go.RowKit
set_option linter.unusedVariables false

theorem own : ownKnob Tryz.prog.godebug = none := by kernel_rfl
theorem wf_in {n : Int} (h : (Lit.int .i64 n).wf = true) : Go.R.in64 n := by
  simp [Lit.wf, IntKind.min, IntKind.max, IntKind.signed, IntKind.bits] at h
  exact ⟨by omega, by omega⟩
theorem gTable : Tryz.prog.globalNamed "fulling/machine.table" = some 0 := by kernel_rfl
theorem tTable : (Tryz.prog.globals[0]?).map (·.type) = some 206 := by kernel_rfl
noncomputable def dsOf : DataW Unit → List (DataW Unit)
  | .slice ds [] => ds
  | _ => []
noncomputable def fsOf : Array Field := match Tryz.prog.underlying 149 with | some (.struct fs) => fs | _ => #[]
noncomputable def rowsT : List (List Value) := match Go.R.litRows Tryz.prog fsOf.toList (dsOf Rows.laid_fulling_machine_table) with | some m => m | none => []
theorem fsT : Tryz.prog.underlying 149 = some (.struct fsOf) := by kernel_rfl
theorem rowsT_eq : Go.R.litRows Tryz.prog fsOf.toList (dsOf Rows.laid_fulling_machine_table) = some rowsT := by kernel_rfl
theorem flatT : Go.R.flatFs Tryz.prog 0 fsOf.toList = true := by kernel_rfl
theorem sizeT : Tryz.prog.cellsOf 149 = fsOf.size := by kernel_rfl
theorem fewT0 : Nat.ble 1 fsOf.size = true := by kernel_rfl
theorem fewT : 0 < fsOf.size := Go.R.ble_pos fsOf.size fewT0
theorem lenT : (dsOf Rows.laid_fulling_machine_table).length = 37 := by kernel_rfl
theorem atomsT : m1.tabC.all Go.R.noA0 = true := by kernel_rfl
theorem longT : m1.tabC.length = 259 := by kernel_rfl
theorem neT : m1.tabC ≠ [] := fun e => by have := longT; rw [e] at this; cases this
theorem cellsT_eq : rowsT.flatten = m1.tabC := by kernel_rfl
theorem tabC_eq : m1.tabC = cellsT := by kernel_rfl
theorem evaluatedT : Go.R.saysTrue (Go.R.call Tryz.prog 1 Go.R.noneKnown 1000 17 [] (Go.R.tabHeap 37 m1.tabC)) = true := by rw [tabC_eq]; exact evaluated
theorem known : Go.R.KnownOK Tryz.prog 1 (Go.R.KT 60 17 37 m1.tabC) := Go.R.kt_ok evaluatedT atomsT neT

theorem start {W : World} (h : laidMetH Tryz.prog [("fulling/machine.table", Rows.laid_fulling_machine_table)] W) : ∃ μ, Go.R.Em W μ (Go.R.tabHeap 37 m1.tabC) ∧ Go.R.GRel μ 1 ∧ 0 < W.heap.size := by
  rw [MakeChecks.laidMetH_plain _ _ _ (by kernel_rfl)] at h
  obtain ⟨ps, ⟨g0, t0, cs0, f0, p0, q0, hg0, ht0, hv0, hd0, _, _⟩, _, _⟩ := h
  obtain rfl := Option.some.inj (gTable.symm.trans hg0)
  obtain rfl := Option.some.inj (tTable.symm.trans ht0)
  have hd1 : DataW.trod (fun _ => ()) Tryz.prog W 0 (fun _ => true) false f0 206 cs0.toList = some (.slice (dsOf Rows.laid_fulling_machine_table) [], p0) := hd0
  obtain ⟨c, o, hcs, hcell⟩ := Go.R.cells_table (show Tryz.prog.underlying 206 = some (.slice 149) by kernel_rfl) fsT flatT sizeT fewT (by rw [lenT]; exact Nat.zero_lt_succ _) hd1 rowsT_eq
  rw [cellsT_eq] at hcell
  have h0 : W.cell? ⟨0, 0, none⟩ = some (.slice (some ⟨c, o, none⟩) 37 37) := by
    have := World.var?_cell gTable hv0 0
    rw [this, ← Array.getElem?_toList, hcs, lenT]; rfl
  obtain ⟨μ, e1, e2⟩ := Go.R.Em.tab atomsT neT h0 hcell
  exact ⟨μ, e1, e2, Go.R.cell_size h0⟩

/-! The witness: the heap that the door's own run leaves. -/
theorem door_met (os : Os) (args : Array Value) : laidMetH Tryz.prog [("fulling/machine.table", Rows.laid_fulling_machine_table)] ((World.doorLaid Tryz.prog 400 os).forCall (fun _ _ => 0) ⟨#[], args, []⟩).memory := by
  rw [MakeChecks.laidMetH_plain _ _ _ (by kernel_rfl)]
  exact laidMet_of_run' 8 (by kernel_rfl) (by kernel_rfl)

set_option maxRecDepth 100000 in
theorem lifted (os : Os) (started : os.Started) (H : Type) (enc : TypeId × Value → H) :
    ReturnsInHanded {} Tryz.checked os 4 .any (fun w args => (Rows.layoutValidSpec.pre enc Tryz.prog Tryz.f4 [] false w args ∧ laidMetH Tryz.prog [("fulling/machine.table", Rows.laid_fulling_machine_table)] w) ∧ sizedMet enc Tryz.prog Tryz.f4 (OpenSpec.ofChange Rows.layoutValidSpec) false w args)
      (Rows.layoutValidSpec.post enc Tryz.prog Tryz.f4 false true false false) := by
  refine returnsInHanded_of_change_and (C := Tryz.checked) (X := fun w _ => laidMetH Tryz.prog [("fulling/machine.table", Rows.laid_fulling_machine_table)] w) (fun _ _ _ hh h => h.of_heap hh) own started (by kernel_rfl) Tryz.func4
    (ChangeSpec.witness_shaped (enc := enc) (C := Tryz.checked) (os := os) (X := fun w _ => laidMetH Tryz.prog [("fulling/machine.table", Rows.laid_fulling_machine_table)] w) false (World.doorLaid Tryz.prog 400 os) #[.slice none 0 0, .slice none 0 0] 8 rfl (World.shaped_of_RefB (by kernel_rfl) (by kernel_rfl)) (by kernel_rfl) (by kernel_rfl) (by kernel_rfl) (door_met os _)) ?_
  intro W base args ds gs before hval0 hW _ _ hL _
  have hval : ∀ (j : Nat) t v, Tryz.f4.params[j]? = some t → args[j]? = some v → Value.okWide Tryz.prog W .any base t v := hval0
  have hW' := hW
  obtain ⟨p, q, hA0, hV, rfl, hfz, hnd⟩ := hW
  have hA : DataW.TrodAll enc Tryz.prog W 0 (fun _ => true) true Tryz.f4.params.toList args.toList ds p := hA0
  rw [Tryz.params4] at hA hval
  obtain ⟨v0, vs0, d0, ds0, p0, q0, hargs, rfl, rfl, h0, r0⟩ := trodAll_cons hA
  obtain ⟨v1, vs1, d1, ds1, p1, q1, rfl, rfl, rfl, h1, r1⟩ := trodAll_cons r0
  obtain ⟨rfl, rfl, rfl⟩ := trodAll_nil r1
  obtain rfl : args = #[v0, v1] := by cases args; simp_all
  obtain ⟨rfl, rfl⟩ := trodVars_none hV
  obtain ⟨mt, emt, gr, hsz⟩ := start hL
  obtain ⟨mu0, H0, sa0, sk0, l0, em0, le0, hv0, hs0, hl0, hd0⟩ := Go.R.em_ints emt Tryz.underlying22 Tryz.underlying3 (by kernel_rfl) (hval 0 22 v0 rfl rfl) h0
  obtain ⟨mu1, H1, sa1, sk1, l1, em1, le1, hv1, hs1, hl1, hd1⟩ := Go.R.em_ints em0 Tryz.underlying22 Tryz.underlying3 (by kernel_rfl) (hval 1 22 v1 rfl rfl) h1
  clear hA0 hval0
  have hc := Go.Proofs.YtgdggmlghemecaaGreatDoor.lv.valid_law l0 l1 em1.hs (Go.R.SR.mono le1.heap hs0) hs1 (Go.R.TB.mono (Go.R.TB.mono Go.R.TB.start le0.heap) le1.heap)
  have hw := Go.R.walk_of_EmG known em1 (Go.R.GRel.mono le1.emb (Go.R.GRel.mono le0.emb gr)) (f := 4) (args := [.slice sa0 l0.length sk0, .slice sa1 l1.length sk1]) (E := #[v0, v1]) (Go.R.LRel.cons (Go.R.VRel.mono le1.emb hv0) (Go.R.LRel.cons hv1 Go.R.LRel.nil)) (hc.mono (by rintro _ _ ⟨r, F', h1, h2, rfl, rfl⟩; rfl))
  refine hw.mono fun e W' ⟨he, hg⟩ => ?_
  subst he
  refine ⟨_, rfl, ?_⟩
  exact Go.R.post_law (kids_rows (by kernel_rfl) (by kernel_rfl)) (slices_full_of Tryz.prog (by kernel_rfl)) (by decide) hW' rfl rfl Tryz.underlying4 rfl hg

theorem over : Rows.layoutValidRow.holds Tryz.pinned (OpenSpec.ofChange Rows.layoutValidSpec) :=
  OpenClaim.holds_of_wide 4 Tryz.f4 rfl rfl rfl rfl rfl rfl rfl ⟨rfl, rfl, rfl, rfl, rfl⟩ rfl rfl rfl rfl rfl (by kernel_rfl) Tryz.func4 (by kernel_rfl)
    (of_decide_eq_true (by kernel_rfl)) (by unfold Func.isWrapper; first | (rw [if_pos (by decide +kernel)]; kernel_rfl) | (rw [if_neg (by decide +kernel)]; exact ⟨rfl, rfl⟩))
    (fun os started H enc _ => lifted os started H enc)
theorem plainT : (Tryz.f4.params.toList.all fun t => !Tryz.prog.wantsStandIn t) = true := by kernel_rfl

theorem proved : Rows.LayoutValidCardSaid :=
  Claim7.holds_tied_plain_at .later [] [.data] true (true, "679125d4c688bf244ad266c7f3735dbadc69040f87cbf7bc6364adbb9ee11777") false
    over (fun _ h => by cases h) (by kernel_rfl) (fun _ h => by cases h) layoutValid_row_tie rfl ⟨rfl, rfl⟩ (by kernel_rfl) rfl
    (fun f fn hf hfn => by
      obtain rfl : f = 4 := Option.some.inj ((show Tryz.prog.funcNamed "fulling/fullinglaw36.LayoutValid" = some 4 by kernel_rfl).symm.trans hf) |>.symm
      obtain rfl : fn = Tryz.f4 := (Option.some.inj (Tryz.func4.symm.trans hfn)).symm
      exact ⟨by kernel_rfl, fun j t ht => by
        have := List.all_eq_true.1 plainT t (by rw [← Array.getElem?_toList] at ht; exact List.mem_of_getElem? ht)
        exact (show Tryz.prog.wantsStandIn t = false by simpa using this)⟩)
    (by kernel_rfl)
#print axioms proved
end Go.Proofs.YtgdggmlghemecaaGreatDoor.layoutValid
