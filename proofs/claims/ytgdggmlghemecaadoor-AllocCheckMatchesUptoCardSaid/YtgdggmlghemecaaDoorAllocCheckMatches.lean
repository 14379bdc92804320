/- The law AllocCheckMatches returns true at every input where machine.table is laid as the program's text lays it, and each argument reads as it did: the tied card. No further condition. -/
import Derived.Test.YtgdggmlghemecaaDoorZANL
import Derived.Test.YtgdggmlghemecaaDoorZAME
import Derived.Test.YtgdggmlghemecaaDoorAllocCheckMatchesEval
import Derived.Test.YtgdggmlghemecaaDoorRows
import Derived.Test.YtgdggmlghemecaaDoorCards
import Derived.JoinedCond
import Derived.Test.YtgdggmlghemecaaDoorTie
import Derived.WalkKit
import Derived.ProofKit
import Derived.OpenShut
import Derived.ChangeMaps5
import Derived.LaidMore
import Derived.LaidHandle
import Derived.MakeChecks
import Derived.Stop.Joined
import Derived.SevenTiedAt
namespace Go.Proofs.YtgdggmlghemecaaDoor.allocCheckMatches
open Go.ChangeShapes Go.WideShapes Go.ChangeAt Go.RowKit
set_option linter.unusedVariables false

theorem own : ownKnob Tryd.prog.godebug = none := by kernel_rfl
theorem wf_in {n : Int} (h : (Lit.int .i64 n).wf = true) : Go.R.in64 n := by
  simp [Lit.wf, IntKind.min, IntKind.max, IntKind.signed, IntKind.bits] at h
  exact ⟨by omega, by omega⟩
theorem gTable : Tryd.prog.globalNamed "fulling/machine.table" = some 0 := by kernel_rfl
theorem tTable : (Tryd.prog.globals[0]?).map (·.type) = some 123 := by kernel_rfl
noncomputable def dsOf : DataW Unit → List (DataW Unit)
  | .slice ds [] => ds
  | _ => []
noncomputable def fsOf : Array Field := match Tryd.prog.underlying 79 with | some (.struct fs) => fs | _ => #[]
noncomputable def rowsT : List (List Value) := match Go.R.litRows Tryd.prog fsOf.toList (dsOf Rows.laid_fulling_machine_table) with | some m => m | none => []
theorem fsT : Tryd.prog.underlying 79 = some (.struct fsOf) := by kernel_rfl
theorem rowsT_eq : Go.R.litRows Tryd.prog fsOf.toList (dsOf Rows.laid_fulling_machine_table) = some rowsT := by kernel_rfl
theorem flatT : Go.R.flatFs Tryd.prog 0 fsOf.toList = true := by kernel_rfl
theorem sizeT : Tryd.prog.cellsOf 79 = fsOf.size := by kernel_rfl
theorem fewT0 : Nat.ble 1 fsOf.size = true := by kernel_rfl
theorem fewT : 0 < fsOf.size := Go.R.ble_pos fsOf.size fewT0
theorem lenT : (dsOf Rows.laid_fulling_machine_table).length = 37 := by kernel_rfl
theorem atomsT : m1.tabC.all Go.R.noA0 = true := by kernel_rfl
theorem longT : m1.tabC.length = 259 := by kernel_rfl
theorem neT : m1.tabC ≠ [] := fun e => by have := longT; rw [e] at this; cases this
theorem cellsT_eq : rowsT.flatten = m1.tabC := by kernel_rfl
theorem tabC_eq : m1.tabC = cellsT := by kernel_rfl
theorem evaluatedT : Go.R.saysTrue (Go.R.call Tryd.prog 1 Go.R.noneKnown 1000 14 [] (Go.R.tabHeap 37 m1.tabC)) = true := by rw [tabC_eq]; exact evaluated
theorem known : Go.R.KnownOK Tryd.prog 1 (Go.R.KT 60 14 37 m1.tabC) := Go.R.kt_ok evaluatedT atomsT neT

theorem start {W : World} (h : laidMetH Tryd.prog [("fulling/machine.table", Rows.laid_fulling_machine_table)] W) : ∃ μ, Go.R.Em W μ (Go.R.tabHeap 37 m1.tabC) ∧ Go.R.GRel μ 1 ∧ 0 < W.heap.size := by
  rw [MakeChecks.laidMetH_plain _ _ _ (by kernel_rfl)] at h
  obtain ⟨ps, ⟨g0, t0, cs0, f0, p0, q0, hg0, ht0, hv0, hd0, _, _⟩, _, _⟩ := h
  obtain rfl := Option.some.inj (gTable.symm.trans hg0)
  obtain rfl := Option.some.inj (tTable.symm.trans ht0)
  have hd1 : DataW.trod (fun _ => ()) Tryd.prog W 0 (fun _ => true) false f0 123 cs0.toList = some (.slice (dsOf Rows.laid_fulling_machine_table) [], p0) := hd0
  obtain ⟨c, o, hcs, hcell⟩ := Go.R.cells_table (show Tryd.prog.underlying 123 = some (.slice 79) by kernel_rfl) fsT flatT sizeT fewT (by rw [lenT]; exact Nat.zero_lt_succ _) hd1 rowsT_eq
  rw [cellsT_eq] at hcell
  have h0 : W.cell? ⟨0, 0, none⟩ = some (.slice (some ⟨c, o, none⟩) 37 37) := by
    have := World.var?_cell gTable hv0 0
    rw [this, ← Array.getElem?_toList, hcs, lenT]; rfl
  obtain ⟨μ, e1, e2⟩ := Go.R.Em.tab atomsT neT h0 hcell
  exact ⟨μ, e1, e2, Go.R.cell_size h0⟩

/-! The witness: the heap that the door's own run leaves. -/
theorem door_met (os : Os) (args : Array Value) : laidMetH Tryd.prog [("fulling/machine.table", Rows.laid_fulling_machine_table)] ((World.doorLaid Tryd.prog 400 os).forCall (fun _ _ => 0) ⟨#[], args, []⟩).memory := by
  rw [MakeChecks.laidMetH_plain _ _ _ (by kernel_rfl)]
  exact laidMet_of_run' 8 (by kernel_rfl) (by kernel_rfl)

theorem bulk_pos {H : Type} (d : DataW H) : 1 ≤ Rows.uptoBulk d := by
  cases d with
  | lit l => cases l <;> simp [Rows.uptoBulk]
  | _ => simp [Rows.uptoBulk]
theorem all_bulk {H : Type} : ∀ l : List (DataW H), l.length ≤ Rows.uptoBulkAll l
  | [] => Nat.zero_le _
  | d :: l => by
    have h1 := all_bulk l
    have h2 := bulk_pos d
    simp only [Rows.uptoBulkAll, List.length_cons]; omega
theorem lb_bulk {H α : Type} {B : DataW H → α → Prop} {d : DataW H} {l : List α} (h : Go.R.LB B d l) : l.length ≤ Rows.uptoBulk d := by
  obtain ⟨_, D, rest, hd, _⟩ := h
  rcases hd with rfl | ⟨_, rfl⟩
  · have := all_bulk ((List.range l.length).map D)
    rw [List.length_map, List.length_range] at this
    simp only [Rows.uptoBulk]; omega
  · exact Nat.zero_le _
theorem mem_bulk {H : Type} {d : DataW H} : ∀ {l : List (DataW H)}, d ∈ l → Rows.uptoBulk d ≤ Rows.uptoBulkAll l
  | e :: l, h => by
    simp only [Rows.uptoBulkAll]
    rcases List.mem_cons.1 h with rfl | h
    · omega
    · have := mem_bulk h; omega
theorem lb_at {H α : Type} {B : DataW H → α → Prop} {d : DataW H} {l : List α} (h : Go.R.LB B d l) {i : Nat} (hi : i < l.length) : ∃ e, B e l[i] ∧ Rows.uptoBulk e ≤ Rows.uptoBulk d := by
  obtain ⟨_, D, rest, hd, hB⟩ := h
  rcases hd with rfl | ⟨_, rfl⟩
  · refine ⟨D i, hB i _ (List.getElem?_eq_getElem hi), ?_⟩
    have := mem_bulk (List.mem_map_of_mem (f := D) (List.mem_range.2 hi))
    simp only [Rows.uptoBulk]; omega
  · exact absurd hi (Nat.not_lt_zero _)
theorem al_bulk {H : Type} {d : DataW H} {x : nv.AllT} (h : me.bAllT d x) (hb : Rows.uptoBulk d ≤ 1048576) : nl.okA x := by
  obtain ⟨d0, d1, d2, rfl, _, h1, _⟩ := h
  have hs := lb_bulk h1
  refine ⟨by simp only [Rows.uptoBulk, Rows.uptoBulkAll] at hb; omega, fun j => ?_⟩
  rw [List.getD_eq_getElem?_getD]
  rcases Nat.lt_or_ge j x.spi.length with hj | hj
  · rw [List.getElem?_eq_getElem hj]
    obtain ⟨e, he, hle⟩ := lb_at h1 hj
    obtain ⟨e0, e1, e2, e3, e4, rfl, _, _, _, _, h4⟩ := he
    have := lb_bulk h4
    simp only [Rows.uptoBulk, Rows.uptoBulkAll, Option.getD_some] at *; omega
  · rw [List.getElem?_eq_none hj]; exact Nat.zero_le _
set_option maxRecDepth 100000 in
theorem lifted (os : Os) (started : os.Started) (H : Type) (enc : TypeId × Value → H) (F : Stop.Interp) :
    ReturnsInHanded {} Tryd.checked os 3 .any (fun w args => ((Rows.OpenSpec.upto Rows.allocCheckMatchesSpec).pre enc Tryd.prog Tryd.f3 [] false w args ∧ laidMetH Tryd.prog [("fulling/machine.table", Rows.laid_fulling_machine_table)] w) ∧ sizedMet enc Tryd.prog Tryd.f3 (Rows.OpenSpec.upto Rows.allocCheckMatchesSpec) false w args)
      (((Rows.OpenSpec.upto Rows.allocCheckMatchesSpec).at F).post enc Tryd.prog Tryd.f3 false true false false) := by
  refine Go.R.handed_cond_and (C := Tryd.checked) (s := Rows.OpenSpec.upto Rows.allocCheckMatchesSpec) (k := Rows.uptoSmall) rfl (Y := fun w _ => laidMetH Tryd.prog [("fulling/machine.table", Rows.laid_fulling_machine_table)] w) (fun _ _ _ hh h => h.of_heap hh) own started (by kernel_rfl) Tryd.func3
    (Go.R.witness_cond (enc := enc) (C := Tryd.checked) (s := Rows.OpenSpec.upto Rows.allocCheckMatchesSpec) (k := Rows.uptoSmall) rfl (Y := fun w _ => laidMetH Tryd.prog [("fulling/machine.table", Rows.laid_fulling_machine_table)] w) false (World.doorLaid Tryd.prog 400 os) #[.slice none 0 0, .int .i64 0, .int .i64 0, .int .i64 0, .int .i64 0, .int .i64 0, .slice none 0 0, .agg #[.slice none 0 0, .slice none 0 0, .int .i64 0]] 8 rfl (World.shaped_of_RefB (by kernel_rfl) (by kernel_rfl)) (by kernel_rfl) (x := ([.nil, .lit (.int .i64 0), .lit (.int .i64 0), .lit (.int .i64 0), .lit (.int .i64 0), .lit (.int .i64 0), .nil, .agg [.nil, .nil, .lit (.int .i64 0)]], [], [])) (by kernel_rfl) rfl (by kernel_rfl) (by kernel_rfl) (door_met os _)) ?_
  intro W base args ds gs before hval0 hW hk hL
  have hval : ∀ (j : Nat) t v, Tryd.f3.params[j]? = some t → args[j]? = some v → Value.okWide Tryd.prog W .any base t v := hval0
  have hW' := hW
  obtain ⟨p, q, hA0, hV, rfl, hfz, hnd⟩ := hW
  have hA : DataW.TrodAll enc Tryd.prog W 0 (fun _ => true) true Tryd.f3.params.toList args.toList ds p := hA0
  rw [Tryd.params3] at hA hval
  obtain ⟨v0, vs0, d0, ds0, p0, q0, hargs, rfl, rfl, h0, r0⟩ := trodAll_cons hA
  obtain ⟨v1, vs1, d1, ds1, p1, q1, rfl, rfl, rfl, h1, r1⟩ := trodAll_cons r0
  obtain ⟨v2, vs2, d2, ds2, p2, q2, rfl, rfl, rfl, h2, r2⟩ := trodAll_cons r1
  obtain ⟨v3, vs3, d3, ds3, p3, q3, rfl, rfl, rfl, h3, r3⟩ := trodAll_cons r2
  obtain ⟨v4, vs4, d4, ds4, p4, q4, rfl, rfl, rfl, h4, r4⟩ := trodAll_cons r3
  obtain ⟨v5, vs5, d5, ds5, p5, q5, rfl, rfl, rfl, h5, r5⟩ := trodAll_cons r4
  obtain ⟨v6, vs6, d6, ds6, p6, q6, rfl, rfl, rfl, h6, r6⟩ := trodAll_cons r5
  obtain ⟨v7, vs7, d7, ds7, p7, q7, rfl, rfl, rfl, h7, r7⟩ := trodAll_cons r6
  obtain ⟨rfl, rfl, rfl⟩ := trodAll_nil r7
  obtain rfl : args = #[v0, v1, v2, v3, v4, v5, v6, v7] := by cases args; simp_all
  obtain ⟨rfl, rfl⟩ := trodVars_none hV
  obtain ⟨mt, emt, gr, hsz⟩ := start hL
  obtain ⟨mu0, H0, sa0, sk0, l0, em0, le0, hv0, hs0, hl0, hd0⟩ := Go.R.em_ints emt Tryd.underlying22 Tryd.underlying3 (by kernel_rfl) (hval 0 22 v0 rfl rfl) h0
  obtain ⟨a1, rfl, rfl, rfl, w1⟩ := open_int Tryd.underlying3 (hval 1 3 v1 rfl rfl) h1
  obtain ⟨a2, rfl, rfl, rfl, w2⟩ := open_int Tryd.underlying3 (hval 2 3 v2 rfl rfl) h2
  obtain ⟨a3, rfl, rfl, rfl, w3⟩ := open_int Tryd.underlying3 (hval 3 3 v3 rfl rfl) h3
  obtain ⟨a4, rfl, rfl, rfl, w4⟩ := open_int Tryd.underlying3 (hval 4 3 v4 rfl rfl) h4
  obtain ⟨a5, rfl, rfl, rfl, w5⟩ := open_int Tryd.underlying3 (hval 5 3 v5 rfl rfl) h5
  obtain ⟨mu6, H6, sa6, sk6, l6, em6, le6, hv6, hs6, hl6, hd6⟩ := Go.R.em_ints em0 Tryd.underlying22 Tryd.underlying3 (by kernel_rfl) (hval 6 22 v6 rfl rfl) h6
  obtain ⟨mu7, H7, cs7, x7, em7, le7, hr7, rp7, bd7⟩ := Go.R.EmC.arg (Go.Proofs.YtgdggmlghemecaaDoor.me.em_AllT (enc := enc) hsz) em6 h7
  obtain ⟨sa7_0, sk7_0, sa7_1, sk7_1, rfl, w7_2, w7_0, w7_1⟩ := rp7
  have hv7 := Go.R.VRel.aggOf (Go.R.okWide_struct Go.Proofs.YtgdggmlghemecaaDoor.me.u26 (hval 7 26 v7 rfl rfl)) hr7
  have hbk : Rows.uptoBulkAll _ ≤ 1048576 := of_decide_eq_true hk
  simp only [Rows.uptoBulkAll, List.append_nil] at hbk
  clear hA0 hval0
  have hc := Go.Proofs.YtgdggmlghemecaaDoor.nl.matches_law l0 a1 a2 a3 a4 a5 l6 x7 em7.hs (Go.R.SR.mono le7.heap (Go.R.SR.mono le6.heap hs0)) (wf_in w1) (wf_in w2) (wf_in w3) (wf_in w4) (wf_in w5) (Go.R.SR.mono le7.heap hs6) w7_0 w7_1 w7_2 (Go.R.TB.mono (Go.R.TB.mono (Go.R.TB.mono Go.R.TB.start le0.heap) le6.heap) le7.heap) (al_bulk bd7 (by omega))
  have hw := Go.R.walk_of_EmG known em7 (Go.R.GRel.mono le7.emb (Go.R.GRel.mono le6.emb (Go.R.GRel.mono le0.emb gr))) (f := 3) (args := [.slice sa0 l0.length sk0, .int .i64 a1, .int .i64 a2, .int .i64 a3, .int .i64 a4, .int .i64 a5, .slice sa6 l6.length sk6, .agg ⟨[.slice sa7_0 x7.locs.length sk7_0, .slice sa7_1 x7.spi.length sk7_1, .int .i64 x7.slots]⟩]) (z := #[v0, .int .i64 a1, .int .i64 a2, .int .i64 a3, .int .i64 a4, .int .i64 a5, v6, v7]) (Go.R.LRel.cons (Go.R.VRel.mono le7.emb (Go.R.VRel.mono le6.emb hv0)) (Go.R.LRel.cons (Go.R.VRel.atom _ rfl) (Go.R.LRel.cons (Go.R.VRel.atom _ rfl) (Go.R.LRel.cons (Go.R.VRel.atom _ rfl) (Go.R.LRel.cons (Go.R.VRel.atom _ rfl) (Go.R.LRel.cons (Go.R.VRel.atom _ rfl) (Go.R.LRel.cons (Go.R.VRel.mono le7.emb hv6) (Go.R.LRel.cons hv7 Go.R.LRel.nil)))))))) (hc.mono (by rintro _ _ ⟨r, F', h1, h2, rfl, rfl⟩; rfl))
  refine hw.mono fun e W' ⟨he, hg⟩ => ?_
  subst he
  refine ⟨_, rfl, ?_⟩
  exact Go.R.post_law (kids_rows (by kernel_rfl) (by kernel_rfl)) (slices_full_of Tryd.prog (by kernel_rfl)) (by decide) hW' rfl rfl Tryd.underlying4 rfl hg

theorem over : Rows.allocCheckMatchesUptoRow.holds Tryd.pinned (Rows.OpenSpec.upto Rows.allocCheckMatchesSpec) :=
  OpenClaim.holds_of_cond 3 Tryd.f3 rfl rfl rfl rfl rfl rfl rfl ⟨rfl, rfl, rfl, rfl, rfl⟩ rfl rfl rfl rfl rfl (by kernel_rfl) Tryd.func3 (by kernel_rfl)
    (of_decide_eq_true (by kernel_rfl)) (by unfold Func.isWrapper; first | (rw [if_pos (by decide +kernel)]; kernel_rfl) | (rw [if_neg (by decide +kernel)]; exact ⟨rfl, rfl⟩))
    (fun os started H enc _ F => lifted os started H enc F)
theorem plainT : (Tryd.f3.params.toList.all fun t => !Tryd.prog.wantsStandIn t) = true := by kernel_rfl

theorem proved : Rows.AllocCheckMatchesUptoCardSaid :=
  Claim7.holds_tied_plain_at .later [] [.data] true (true, "e970393bfb0b5d680155de55f5dd2066980fe66df4944e52c8e7b8b69a21964a") false
    over (fun _ h => by cases h) (by kernel_rfl) (fun _ h => by cases h) allocCheckMatchesUpto_row_tie rfl ⟨rfl, rfl⟩ (by kernel_rfl) rfl
    (fun f fn hf hfn => by
      obtain rfl : f = 3 := Option.some.inj ((show Tryd.prog.funcNamed "fulling/fullinglaw35.AllocCheckMatches" = some 3 by kernel_rfl).symm.trans hf) |>.symm
      obtain rfl : fn = Tryd.f3 := (Option.some.inj (Tryd.func3.symm.trans hfn)).symm
      exact ⟨by kernel_rfl, fun j t ht => by
        have := List.all_eq_true.1 plainT t (by rw [← Array.getElem?_toList] at ht; exact List.mem_of_getElem? ht)
        exact (show Tryd.prog.wantsStandIn t = false by simpa using this)⟩)
    (by kernel_rfl)
#print axioms proved
end Go.Proofs.YtgdggmlghemecaaDoor.allocCheckMatches
