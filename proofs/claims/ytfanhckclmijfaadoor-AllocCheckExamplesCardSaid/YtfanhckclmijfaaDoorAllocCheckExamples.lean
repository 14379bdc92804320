/- The closed law AllocCheckExamples returns true where machine.table is laid as the program's text lays it: its call evaluated over the heap that holds the table; the tied card. No other condition. -/
import Derived.Test.YtfanhckclmijfaaDoorRxLaid
import Derived.Test.YtfanhckclmijfaaDoorAllocCheckExamplesEval
import Derived.Test.YtfanhckclmijfaaDoorRows
import Derived.Test.YtfanhckclmijfaaDoorCards
import Derived.Test.YtfanhckclmijfaaDoorTie
import Derived.WalkKit
import Derived.ProofKit
import Derived.OpenShut
import Derived.LaidMore
import Derived.LaidHandle
import Derived.MakeChecks
import Derived.Stop.Joined
import Derived.SevenTiedAt
namespace Go.Proofs.YtfanhckclmijfaaDoor.allocCheckExamples
open Go.ChangeShapes Go.WideShapes Go.ChangeAt Go.RowKit
set_option linter.unusedVariables false

theorem own : ownKnob Tryd.prog.godebug = none := by kernel_rfl
theorem gTable : Tryd.prog.globalNamed "fulling/machine.table" = some 0 := by kernel_rfl
theorem tTable : (Tryd.prog.globals[0]?).map (·.type) = some 159 := by kernel_rfl

noncomputable def dsOf : DataW Unit → List (DataW Unit)
  | .slice ds [] => ds
  | _ => []
noncomputable def fsOf : Array Field := match Tryd.prog.underlying 141 with | some (.struct fs) => fs | _ => #[]
noncomputable def rowsT : List (List Value) := match Go.R.litRows Tryd.prog fsOf.toList (dsOf Rows.laid_fulling_machine_table) with | some m => m | none => []
theorem fsT : Tryd.prog.underlying 141 = some (.struct fsOf) := by kernel_rfl
theorem rowsT_eq : Go.R.litRows Tryd.prog fsOf.toList (dsOf Rows.laid_fulling_machine_table) = some rowsT := by kernel_rfl
theorem flatT : Go.R.flatFs Tryd.prog 0 fsOf.toList = true := by kernel_rfl
theorem sizeT : Tryd.prog.cellsOf 141 = fsOf.size := by kernel_rfl
theorem fewT0 : Nat.ble 1 fsOf.size = true := by kernel_rfl
theorem fewT : 0 < fsOf.size := Go.R.ble_pos fsOf.size fewT0
theorem lenT : (dsOf Rows.laid_fulling_machine_table).length = 37 := by kernel_rfl
theorem atomsT : rowsT.flatten.all Go.R.noA0 = true := by kernel_rfl
theorem longT : rowsT.flatten.length = 259 := by kernel_rfl

theorem cellsT_eq : rowsT.flatten = cellsT := by kernel_rfl
theorem evaluatedT : Go.R.saysTrue (Go.R.call Tryd.prog 1 Go.R.noneKnown 3000 6 [] (Go.R.tabHeap 37 rowsT.flatten)) = true := by rw [cellsT_eq]; exact evaluated

theorem walk {W : World} (h : laidMetH Tryd.prog [("fulling/machine.table", Rows.laid_fulling_machine_table)] W) :
    Calls Tryd.prog 6 #[] W fun e w' => e = .returned (.bool true) ∧ Go.RowKit.Below W.heap.size W w' := by
  rw [MakeChecks.laidMetH_plain _ _ _ (by kernel_rfl)] at h
  obtain ⟨ps, ⟨g0, t0, cs0, f0, p0, q0, hg0, ht0, hv0, hd0, _, _⟩, _, _⟩ := h
  obtain rfl := Option.some.inj (gTable.symm.trans hg0)
  obtain rfl := Option.some.inj (tTable.symm.trans ht0)
  have hd1 : DataW.trod (fun _ => ()) Tryd.prog W 0 (fun _ => true) false f0 159 cs0.toList = some (.slice (dsOf Rows.laid_fulling_machine_table) [], p0) := hd0
  obtain ⟨c, o, hcs, hcell⟩ := Go.R.cells_table (show Tryd.prog.underlying 159 = some (.slice 141) by kernel_rfl) fsT flatT sizeT fewT (by rw [lenT]; exact Nat.zero_lt_succ _) hd1 rowsT_eq
  have h0 : W.cell? ⟨0, 0, none⟩ = some (.slice (some ⟨c, o, none⟩) 37 37) := by
    have := World.var?_cell gTable hv0 0
    rw [this, ← Array.getElem?_toList, hcs, lenT]; rfl
  exact Go.R.walk_of_eval_tab Go.R.none_ok evaluatedT atomsT h0 (fun e => by have := longT; rw [e] at this; cases this) hcell

/-! The witness: the heap that the door's own run leaves. -/
theorem door_met (os : Os) (args : Array Value) : laidMetH Tryd.prog [("fulling/machine.table", Rows.laid_fulling_machine_table)] ((World.doorLaid Tryd.prog 400 os).forCall (fun _ _ => 0) ⟨#[], args, []⟩).memory := by
  rw [MakeChecks.laidMetH_plain _ _ _ (by kernel_rfl)]
  exact laidMet_of_run' 8 (by kernel_rfl) (by kernel_rfl)

set_option maxRecDepth 100000 in
theorem lifted (os : Os) (started : os.Started) (H : Type) (enc : TypeId × Value → H) :
    ReturnsInHanded {} Tryd.checked os 6 .any (fun w args => (Rows.allocCheckExamplesSpec.pre enc Tryd.prog Tryd.f6 [] false w args ∧ laidMetH Tryd.prog [("fulling/machine.table", Rows.laid_fulling_machine_table)] w) ∧ sizedMet enc Tryd.prog Tryd.f6 (OpenSpec.ofChange Rows.allocCheckExamplesSpec) false w args)
      (Rows.allocCheckExamplesSpec.post enc Tryd.prog Tryd.f6 false true false false) := by
  refine returnsInHanded_of_change_and (C := Tryd.checked) (X := fun w _ => laidMetH Tryd.prog [("fulling/machine.table", Rows.laid_fulling_machine_table)] w) (fun _ _ _ hh h => h.of_heap hh) own started (by kernel_rfl) Tryd.func6
    (ChangeSpec.witness_shaped (enc := enc) (C := Tryd.checked) (os := os) (X := fun w _ => laidMetH Tryd.prog [("fulling/machine.table", Rows.laid_fulling_machine_table)] w) false (World.doorLaid Tryd.prog 400 os) #[] 8 rfl (World.shaped_of_RefB (by kernel_rfl) (by kernel_rfl)) (by kernel_rfl) (by kernel_rfl) (by kernel_rfl) (door_met os _)) ?_
  intro W base args ds gs before hval0 hW _ _ hL _
  have hval : ∀ (j : Nat) t v, Tryd.f6.params[j]? = some t → args[j]? = some v → Value.okWide Tryd.prog W .any base t v := hval0
  have hW' := hW
  obtain ⟨p, q, hA0, hV, rfl, hfz, hnd⟩ := hW
  have hA : DataW.TrodAll enc Tryd.prog W 0 (fun _ => true) true Tryd.f6.params.toList args.toList ds p := hA0
  rw [Tryd.params6] at hA hval
  obtain ⟨rfl, rfl, rfl⟩ := trodAll_none hA
  obtain ⟨rfl, rfl⟩ := trodVars_none hV
  clear hA0 hval0
  simp only [List.append_nil] at hW'
  refine (walk hL).mono fun e W' ⟨he, hg⟩ => ?_
  subst he
  exact ⟨_, rfl, Go.R.post_of_below (pa := []) (pv := []) hW' (fun _ _ _ => (trodAll_cons_mk (shut_bool Tryd.underlying4 _) trodAll_mk0)) (fun sp _ => rfl) (fun _ _ => rfl) rfl
    hg (ok_one (by kernel_rfl) rfl (okWide_bool_mk Tryd.underlying4 _))⟩

theorem over : Rows.allocCheckExamplesRow.holds Tryd.pinned (OpenSpec.ofChange Rows.allocCheckExamplesSpec) :=
  OpenClaim.holds_of_wide 6 Tryd.f6 rfl rfl rfl rfl rfl rfl rfl ⟨rfl, rfl, rfl, rfl, rfl⟩ rfl rfl rfl rfl rfl (by kernel_rfl) Tryd.func6 (by kernel_rfl)
    (of_decide_eq_true (by kernel_rfl)) (by unfold Func.isWrapper; first | (rw [if_pos (by decide +kernel)]; kernel_rfl) | (rw [if_neg (by decide +kernel)]; exact ⟨rfl, rfl⟩))
    (fun os started H enc _ => lifted os started H enc)

theorem proved : Rows.AllocCheckExamplesCardSaid :=
  Claim7.holds_tied_plain_at .later [] [.data] true (true, "07f9a7c1714f92ad0dec062f6a0c146360394df35e6ee68b9fdd5b930ba118e0") false
    over (fun _ h => by cases h) (by kernel_rfl) (fun _ h => by cases h) allocCheckExamples_row_tie rfl ⟨rfl, rfl⟩ (by kernel_rfl) rfl
    (fun f fn hf hfn => by
      obtain rfl : f = 6 := Option.some.inj ((show Tryd.prog.funcNamed "fulling/fullinglaw35.AllocCheckExamples" = some 6 by kernel_rfl).symm.trans hf) |>.symm
      obtain rfl : fn = Tryd.f6 := (Option.some.inj (Tryd.func6.symm.trans hfn)).symm
      exact ⟨by kernel_rfl, fun j t ht => by
        rw [Tryd.params6] at ht
        simp at ht⟩)
    (by kernel_rfl)
#print axioms proved
end Go.Proofs.YtfanhckclmijfaaDoor.allocCheckExamples
