/-
  The law on the equations of live registers, by a symbolic run. No condition but that the table lies as laid.
-/
import Derived.Test.YtlabedbmgmfbaaaDoorMF
noncomputable section
namespace Go.Proofs.YtlabedbmgmfbaaaDoor.le_
open Go.R
set_option maxRecDepth 10000
set_option linter.unusedVariables false
theorem ql {H : Heap} {b o : Nat} {cs : List Value} {w : Value} (t : TypeId) (i : Nat) (hc : HC H.get b o cs) (ha : aggOf Tryd.prog t = some false) (hv : cs[i]? = some w) : LDv Tryd.prog H t (.pointer (some ⟨b, o + i, none⟩)) w := ld1 hc ha hv
theorem qn {H : Heap} {b o : Nat} {cs l : List Value} (t : TypeId) (i n : Nat) (hc : HC H.get b o cs) (ha : aggOf Tryd.prog t = some true) (hs : szOf Tryd.prog t = some n) (hn : Nat.ble (i + n) cs.length = true) (hl : takeL (dropL cs i) n = l) : LDv Tryd.prog H t (.pointer (some ⟨b, o + i, none⟩)) (.agg ⟨l⟩) := ldN hc ha hs hn hl
open m1 m2 m3 m4 m5 m6 ma ml mb mc md mf

theorem ex_c (_ : FuncId) {F : Fz} {H : Heap} {R : List Fp} (hs : HS (.of H []) F H [] R) (hT : TB 37 tabC F) : C Tryd.prog 1 (KT 60 15 37 tabC) 15 [] H fun v H' => ∃ (r : Bool), H' = H ∧ v = .bool r ∧ r = true :=
  ⟨0, .bool true, H, by unfold call callK; rw [(hT.heap hs).known (by decide)], true, rfl, rfl, rfl⟩
theorem ex_c_q (e : FuncId) {F : Fz} {H : Heap} {R : List Fp} (hs : HS (.of H []) F H [] R) (hT : TB 37 tabC F) : C Tryd.prog 1 (KT 60 15 37 tabC) 15 [] H fun v H' => v = .bool true ∧ H' = H := cq (ex_c e hs hT) (by rintro _ _ ⟨_, rfl, rfl, rfl⟩; exact ⟨rfl, rfl⟩)

set_option maxHeartbeats 2000000 in
theorem equations_c {a_l : Option Addr} {k_l : Nat} (l : List Int) (params : Int) {F : Fz} {H : Heap} {R : List Fp} (hs : HS (.of H []) F H [] R) (hl : SR F (.slice a_l l.length k_l) l) (hparams : in64 params) (hT : TB 37 tabC F) : C Tryd.prog 1 (KT 60 15 37 tabC) 4 [(.slice a_l l.length k_l), (.int .i64 params)] H fun v H' => ∃ (r : Bool) (F' : Fz), Fz.le F F' ∧ HS (.of H []) F' H' [] R ∧ v = .bool r ∧ r = true := by
  refine c_enter Tryd.func4 rfl rfl ?_
  refine wk_foc 1 rfl ?_
  refine wr 2 [] 4 4 [] [(4, (.bool false))] trivial (by kernel_rfl) rfl fun gg1 => ?_
  refine wf_region rfl ?_
  refine fm (.slice a_l l.length k_l) rfl rfl rfl ?_
  refine fm (.slice a_l l.length k_l) rfl rfl rfl ?_
  refine wf_pure (v := (.int .i64 (l.length : Int))) (id := .x []) (ap_lenV (α := Int) rfl rfl (SR.sv hl hs.log0)) rfl rfl (did_x (W := []) rfl rfl fun b hb => absurd hb List.not_mem_nil) (⟨.inl rfl, ⟨.inr trivial, trivial⟩⟩) ?_
  refine wf_pure (v := (.int .i64 (if (36 : Int) < (l.length : Int) then (36 : Int) else (l.length : Int)))) (id := .x []) (pmm_ok (w := true) rfl rfl rfl) rfl rfl (did_x (W := []) rfl rfl fun b hb => absurd hb List.not_mem_nil) (⟨.inl rfl, ⟨.inl rfl, ⟨.inr trivial, trivial⟩⟩⟩) ?_
  refine wf_rs (id := .q fun b => F b ≠ none) (rs_cutt (α := Int) (j := (if (36 : Int) < (l.length : Int) then (36 : Int) else (l.length : Int)).toNat) hl hs.log0 rfl rfl rfl (optN (by omega)) (by omega)) rfl rfl (by rintro _ _ _ ⟨_, _, _, hH, _⟩; exact did_q rfl (SR.q hl)) (⟨.inl rfl, ⟨.inl rfl, ⟨.inl rfl, ⟨.inl rfl, trivial⟩⟩⟩⟩) ?_
  rintro _ _ _ ⟨a2, k2, rfl, hH2, hq2⟩ lg2 hlg2
  simp only at hH2; replace hH2 := hH2.symm; subst hH2
  have hs2 := HS.lg hs.log0 hs hlg2
  generalize ({ { H with log := [] } with log := lg2 } : Heap) = H2g at hs2 ⊢
  refine fm (.int .i64 params) rfl rfl rfl ?_
  have fq3 := pick_imp params (3 : Int)
  refine wf_call (W := []) (ap_call rfl rfl rfl) rfl rfl rfl (m1.pick_c 15 params (3) _ (by omega)) (⟨.inl rfl, ⟨.inr (fun b hb => absurd hb List.not_mem_nil), ⟨.inr ⟨trivial, trivial⟩, ⟨.inr ⟨trivial, trivial⟩, ⟨.inr trivial, ⟨.inr trivial, trivial⟩⟩⟩⟩⟩⟩) ?_
  rintro _ _ ⟨r4, rfl, rfl, rfl⟩
  refine ⟨fun b hb => absurd hb List.not_mem_nil, fun lg4 hlg4 => ?_⟩
  have hs4 := HS.lg hs2.log0 hs2 hlg4
  generalize ({ { H2g with log := [] } with log := lg4 } : Heap) = H4g at hs4 ⊢
  refine wf_call (W := []) (ap_call rfl rfl rfl) rfl rfl rfl (m5.vf_c 15 (l.take ((if (36 : Int) < (l.length : Int) then (36 : Int) else (l.length : Int)).toNat)) (pickV params (3 : Int)) (HS.call hs4.log0) hq2 hT (by first | omega | (rw [List.length_take]; exact Nat.le_trans (Nat.min_le_left _ _) (by split <;> omega))) (by first | omega | (rw [List.length_take]; exact Nat.le_trans (Nat.min_le_left _ _) (by split <;> omega)))) (⟨.inl rfl, ⟨.inl rfl, ⟨.inl rfl, ⟨.inl rfl, ⟨.inl rfl, ⟨.inl rfl, ⟨.inl rfl, trivial⟩⟩⟩⟩⟩⟩⟩) ?_
  rintro _ H5 ⟨x5, ax5_2, kx5_2, F5, hF5, hs5, rfl, hgx5_0, hgx5_1, hrx5_2, h5⟩
  refine ⟨Wr.did hs5.log, fun lg5 hlg5 => ?_⟩
  replace hs5 := HS.back hs4.log0 rfl hs5
  replace hs5 := HS.lg hs5 hs4 hlg5
  generalize ({ H5 with log := lg5 } : Heap) = H5g at hs5 ⊢
  have hs5 : HS _ _ _ [] _ := hs5
  replace hT := hT.mono hF5
  replace hl := hl.mono hF5
  replace hq2 := hq2.mono hF5
  refine wf_rs (id := .a) (rs_new hs5.log0 rfl) rfl rfl (fun _ _ _ _ => did_a rfl rfl rfl) (⟨.inr trivial, ⟨.inr trivial, ⟨.inr trivial, ⟨.inr trivial, ⟨.inr trivial, ⟨.inr trivial, ⟨.inr trivial, ⟨.inr trivial, trivial⟩⟩⟩⟩⟩⟩⟩⟩) ?_
  rintro _ H7 _ ⟨b6, rfl, hs7, _⟩ lg7 hlg7
  replace hs7 := HS.lg hs7 hs5 hlg7
  generalize ({ H7 with log := lg7 } : Heap) = H7g at hs7 ⊢
  have hs7 : HS _ _ _ [[(b6, .cells [(.int .i64 0), (.int .i64 0), (.slice none 0 0)] none false)]] _ := hs7
  refine wf_rk (id := .x [b6]) (rs_rec (q := 0) hs7.log0 rfl rfl rfl rfl rfl rfl rfl rfl rfl) rfl (by rintro _ _ _ ⟨_, hwr⟩; exact did_x rfl rfl (Wr.did hwr)) (⟨.inl rfl, ⟨.inl rfl, ⟨.inl rfl, ⟨.inl rfl, ⟨.inl rfl, ⟨.inl rfl, ⟨.inl rfl, ⟨.inl rfl, ⟨.inl rfl, trivial⟩⟩⟩⟩⟩⟩⟩⟩⟩) ?_
  rintro _ H8 _ ⟨hs8, _⟩ lg8 hlg8
  replace hs8 := HS.lg hs8 hs7 hlg8
  generalize ({ H8 with log := lg8 } : Heap) = H8g at hs8 ⊢
  have hs8 : HS _ _ _ [[(b6, .cells [(.int .i64 x5.params), (.int .i64 x5.regs), (.slice ax5_2 x5.blocks.length kx5_2)] none false)]] _ := hs8
  refine wf_nil ?_
  refine wk_foc 2 rfl ?_
  have hG : vfG x5 (pickV params 3) := by assumption
  have hins := hG.ins
  refine wk_region ?_
  refine wro 1 0 [(0, .o (.agg ⟨[(.int .i64 x5.params), (.int .i64 x5.regs), (.slice ax5_2 x5.blocks.length kx5_2)]⟩))] 26 26 [] [(26, (.agg ⟨[(.int .i64 x5.params), (.int .i64 x5.regs), (.slice ax5_2 x5.blocks.length kx5_2)]⟩))] (vA (qn 24 0 3 (HS.hc hs8 (i := 0) rfl) rfl rfl rfl rfl) trivial) (by kernel_rfl) rfl fun gg9 => ?_
  refine wo_call (ap_call rfl rfl rfl) rfl rfl (md.blocks_c 15 x5 (HS.call hs8) (by omega) (by omega) hrx5_2 hT (by exact fun j => Nat.le_trans (hins j) (by omega))) ?_
  rintro _ H10 ⟨ax10, kx10, x10, ay10, ky10, y10, F10, hF10, hs10, rfl, hrx10, hry10, h110, h010⟩
  replace hs10 := HS.back hs8 rfl hs10
  have hs10 : HS _ _ _ [_] _ := hs10
  replace hT := hT.mono hF10
  replace hl := hl.mono hF10
  replace hq2 := hq2.mono hF10
  replace hrx5_2 := hrx5_2.mono hF10
  refine wro 5 2 [] 28 29 [6, 7, 25] [(6, (.slice ax10 x10.length kx10)), (7, (.slice ay10 y10.length ky10))] trivial (by kernel_rfl) rfl fun gg11 => ?_
  refine wo_end 3 rfl ?_
  have bk : BkF x5 x10 y10 := by (first | exact (by assumption : valV x5 = true → _) hG.val | exact h_)
  have vF := vF_of hG.val
  have hnb := vF.nb
  have hlx := bk.lx
  have hly := bk.ly
  have hrg := vF.regs
  refine wr 1 [(3, .o (.slice ax5_2 x5.blocks.length kx5_2)), (10, .o (.slice ax5_2 x5.blocks.length kx5_2))] 30 43 [] [(43, (.bool (((x10.length : Int) != (x5.blocks.length : Int)) || ((y10.length : Int) != (x5.blocks.length : Int)))))] (vA (ql 22 2 (HS.hc hs10 (i := 0) rfl) rfl rfl) (vA (fun (g1 : ((x10.length : Int) != (x5.blocks.length : Int)) = false) => (ql 22 2 (HS.hc hs10 (i := 0) rfl) rfl rfl)) trivial)) (by kernel_rfl) rfl fun gg12 => ?_
  refine wk_iff 3 (v := (((x10.length : Int) != (x5.blocks.length : Int)) || ((y10.length : Int) != (x5.blocks.length : Int)))) rfl (by simp [hlx, hly]) rfl rfl ?_
  refine wr 2 [] 1 0 [8] [(8, (.int .i64 0))] trivial (by kernel_rfl) rfl fun gg13 => ?_
  refine wk_loop_inv (fun (mm : Nat) f H' => ∃ (b : Nat) (F' : Fz), Fz.le F10 F' ∧ HS (Base.of H []) F' H' [[(b6, .cells [(.int .i64 x5.params), (.int .i64 x5.regs), (.slice ax5_2 x5.blocks.length kx5_2)] none false)]] R ∧ agrees f [(5, (.pointer (some ⟨b6, 0, none⟩))), (6, (.slice ax10 x10.length kx10)), (7, (.slice ay10 y10.length ky10)), (8, (.int .i64 (b : Int)))] ∧ mm = x5.blocks.length - b ∧ (b ≤ x5.blocks.length)) _ ⟨0, _, (Fz.le_refl _), hs10, (agC rfl (agC rfl (agC rfl (agC rfl agN)))), rfl, (by first | assumption | omega | (simp at *; omega))⟩ ?_
  rintro mm14 f14 H14 ⟨b, F14, hF14, hs14, hf14, rfl, hb⟩ ih14
  refine wk_canon _ hf14 (fun gg14 => ?_)
  clear hf14
  replace hT := hT.mono hF14
  replace hrx10 := hrx10.mono hF14
  replace hrx5_2 := hrx5_2.mono hF14
  replace hry10 := hry10.mono hF14
  refine wk_foc 2 rfl ?_
  refine wr 1 [(2, .o (.slice ax5_2 x5.blocks.length kx5_2))] 44 48 [] [(48, (.bool (decide ((b : Int) < (x5.blocks.length : Int)))))] (vA (ql 22 2 (HS.hc hs14 (i := 0) rfl) rfl rfl) trivial) (by kernel_rfl) rfl fun gg15 => ?_
  refine wk_if 4 5 (v := (decide ((b : Int) < (x5.blocks.length : Int)))) rfl rfl rfl rfl (fun c16b => ?_) (fun c16b => ?_)
  · have c16 := c16b
    try simp only [BS] at c16
    have hbn : b < x5.blocks.length := by omega
    have hbl := hins b
    refine wr 2 [] 1 0 [9] [(9, (.slice none 0 0))] trivial (by kernel_rfl) rfl fun gg17 => ?_
    refine wk_region ?_
    obtain ⟨cf18, hv18⟩ := Sv.view (SR.sv hrx5_2 hs14)
    obtain ⟨g19_1, g19_2, g19_3, g19_4, s19_0⟩ := BlkT.fx (hv18 b)
    refine wro 5 0 [(1, .o (.slice ax5_2 x5.blocks.length kx5_2)), (4, .o (.agg ⟨[(.slice (cA (cf18 b) 0) ((x5.blocks.getD b default).ins).length (cK (cf18 b) 0)), (.int .i64 ((x5.blocks.getD b default).fin)), (.int .i64 ((x5.blocks.getD b default).reg)), (.int .i64 ((x5.blocks.getD b default).tgt)), (.int .i64 ((x5.blocks.getD b default).els))]⟩))] 51 55 [] [(55, (.agg ⟨[(.slice (cA (cf18 b) 0) ((x5.blocks.getD b default).ins).length (cK (cf18 b) 0)), (.int .i64 ((x5.blocks.getD b default).fin)), (.int .i64 ((x5.blocks.getD b default).reg)), (.int .i64 ((x5.blocks.getD b default).tgt)), (.int .i64 ((x5.blocks.getD b default).els))]⟩))] (vA (ql 22 2 (HS.hc hs14 (i := 0) rfl) rfl rfl) (vA (Sv.ix (j := (b : Int)) (SR.sv hrx5_2 hs14) (by omega) (by omega)) (vA (qn 42 0 5 (BlkT.vw (hv18 b) (by omega)) rfl rfl rfl rfl) trivial))) (by kernel_rfl) rfl fun gg20 => ?_
    refine wo_call (ap_call rfl rfl rfl) rfl rfl (ma.rsucc_c 15 (x5.blocks.getD b default) (HS.call hs14) s19_0 (by omega) (by omega) (by omega) (by omega) hT) ?_
    rintro _ H21 ⟨ar21, kr21, r21, F21, hF21, hs21, rfl, hrr21, rfl⟩
    replace hs21 := HS.back hs14 rfl hs21
    have hs21 : HS _ _ _ [_] _ := hs21
    replace hT := hT.mono hF21
    replace hrx10 := hrx10.mono hF21
    replace hrx5_2 := hrx5_2.mono hF21
    replace hry10 := hry10.mono hF21
    replace s19_0 := s19_0.mono hF21
    refine wa (.slice ar21 (succV (x5.blocks.getD b default)).length kr21) rfl rfl rfl ?_
    refine wo_end 3 rfl ?_
    refine wr 2 [] 1 0 [11] [(11, (.int .i64 0))] trivial (by kernel_rfl) rfl fun gg22 => ?_
    refine wk_loop_inv (fun (mm : Nat) f H' => ∃ (ed : List Int) (q : Nat) (la23_9 : Option Addr) (lk23_9 : Nat) (F' : Fz), Fz.le F21 F' ∧ HS (Base.of H []) F' H' [[(b6, .cells [(.int .i64 x5.params), (.int .i64 x5.regs), (.slice ax5_2 x5.blocks.length kx5_2)] none false)]] R ∧ SR F' (.slice la23_9 ed.length lk23_9) ed ∧ agrees f [(5, (.pointer (some ⟨b6, 0, none⟩))), (6, (.slice ax10 x10.length kx10)), (7, (.slice ay10 y10.length ky10)), (8, (.int .i64 (b : Int))), (9, (.slice la23_9 ed.length lk23_9)), (10, (.slice ar21 (succV (x5.blocks.getD b default)).length kr21)), (11, (.int .i64 (q : Int))), (48, (.bool (decide ((b : Int) < (x5.blocks.length : Int))))), (55, (.agg ⟨[(.slice (cA (cf18 b) 0) ((x5.blocks.getD b default).ins).length (cK (cf18 b) 0)), (.int .i64 ((x5.blocks.getD b default).fin)), (.int .i64 ((x5.blocks.getD b default).reg)), (.int .i64 ((x5.blocks.getD b default).tgt)), (.int .i64 ((x5.blocks.getD b default).els))]⟩)), (56, (.slice ar21 (succV (x5.blocks.getD b default)).length kr21))] ∧ mm = (succV (x5.blocks.getD b default)).length - q ∧ (Lst ed (enS x5 b q)) ∧ (q ≤ (succV (x5.blocks.getD b default)).length)) _ ⟨([] : List Int), 0, none, 0, _, (Fz.le_refl _), hs21, (SR.nil : SR F21 (.slice none 0 0) ([] : List Int)), (agC rfl (agC rfl (agC rfl (agC rfl (agC rfl (agC rfl (agC rfl (agC rfl (agC rfl (agC rfl agN)))))))))), rfl, (by exact en_zero), (by first | assumption | omega | (simp at *; omega))⟩ ?_
    rintro mm23 f23 H23 ⟨ed, q, la23_9, lk23_9, F23, hF23, hs23, lh23_9, hf23, rfl, hed, hq⟩ ih23
    refine wk_canon _ hf23 (fun gg23 => ?_)
    clear hf23
    replace hT := hT.mono hF23
    replace hrr21 := hrr21.mono hF23
    replace hrx10 := hrx10.mono hF23
    replace hrx5_2 := hrx5_2.mono hF23
    replace hry10 := hry10.mono hF23
    replace s19_0 := s19_0.mono hF23
    have hsl2 := succ_len (b := (x5.blocks.getD b default))
    refine wk_foc 2 rfl ?_
    refine wr 1 [] 57 60 [] [(60, (.bool (decide ((q : Int) < ((succV (x5.blocks.getD b default)).length : Int)))))] trivial (by kernel_rfl) rfl fun gg24 => ?_
    refine wk_if 3 5 (v := (decide ((q : Int) < ((succV (x5.blocks.getD b default)).length : Int)))) rfl rfl rfl rfl (fun c25b => ?_) (fun c25b => ?_)
    · have c25 := c25b
      try simp only [BS] at c25
      have hqs : q < (succV (blkN x5 b)).length := (show q < (succV (x5.blocks.getD b default)).length by omega)
      have hmem := mem_at (l := succV (x5.blocks.getD b default)) (q := q) (by omega)
      have hst := vF.succ b hbn _ hmem
      have hel := Lst.len hed (by omega) (fun r h => en_lt vF h)
      have hxl := Lst.len (bk.hx ((succV (x5.blocks.getD b default)).getD q 0).toNat (by omega)) (by omega) (fun r h => lin_lt vF h)
      refine wk_region ?_
      obtain ⟨cf26, hv26⟩ := Sv.view (SR.sv hrr21 hs23)
      have g27 := fI (hv26 q)
      obtain ⟨cf28, hv28⟩ := Sv.view (SR.sv hrx10 hs23)
      have s29 := fL (hv28 (((succV (x5.blocks.getD b default)).getD q 0).toNat))
      refine wro 8 0 [(5, .o (.int .i64 ((succV (x5.blocks.getD b default)).getD q 0))), (7, .o (.slice (cA (cf28 (((succV (x5.blocks.getD b default)).getD q 0).toNat)) 0) (x10.getD (((succV (x5.blocks.getD b default)).getD q 0).toNat) default).length (cK (cf28 (((succV (x5.blocks.getD b default)).getD q 0).toNat)) 0)))] 63 70 [] [(63, (.slice la23_9 ed.length lk23_9)), (70, (.slice (cA (cf28 (((succV (x5.blocks.getD b default)).getD q 0).toNat)) 0) (x10.getD (((succV (x5.blocks.getD b default)).getD q 0).toNat) default).length (cK (cf28 (((succV (x5.blocks.getD b default)).getD q 0).toNat)) 0)))] (vA (Sv.ix (j := (q : Int)) (SR.sv hrr21 hs23) (by omega) (by omega)) (vA (ql 3 0 (vI (hv26 q) (by omega)) rfl rfl) (vA (Sv.ix (j := ((succV (x5.blocks.getD b default)).getD q 0)) (SR.sv hrx10 hs23) (by omega) (by omega)) (vA (ql 25 0 (vL (hv28 (((succV (x5.blocks.getD b default)).getD q 0).toNat)) (by omega)) rfl rfl) trivial)))) (by kernel_rfl) rfl fun gg30 => ?_
      refine wo_call (ap_call rfl rfl rfl) rfl rfl (ma.union_c 15 ed (x10.getD (((succV (x5.blocks.getD b default)).getD q 0).toNat) default) (HS.call hs23) lh23_9 s29 hT (by first | omega | (simp only [List.length_singleton]; omega))) ?_
      rintro _ H31 ⟨ar31, kr31, r31, F31, hF31, hs31, rfl, hrr31, rfl⟩
      replace hs31 := HS.back hs23 rfl hs31
      have hs31 : HS _ _ _ [_] _ := hs31
      replace hT := hT.mono hF31
      replace hrr21 := hrr21.mono hF31
      replace hrx10 := hrx10.mono hF31
      replace hrx5_2 := hrx5_2.mono hF31
      replace hry10 := hry10.mono hF31
      replace lh23_9 := lh23_9.mono hF31
      replace s19_0 := s19_0.mono hF31
      replace s29 := s29.mono hF31
      refine wa (.slice ar31 (uniV ed (x10.getD (((succV (x5.blocks.getD b default)).getD q 0).toNat) default)).length kr31) rfl rfl rfl ?_
      refine wo_end 2 rfl ?_
      refine wr 1 [] 61 62 [11] [(11, (.int .i64 ((q : Int) + 1)))] (vA (vi (n := (q : Int) + 1) (by omega)) trivial) (by kernel_rfl) rfl fun gg32 => ?_
      refine ih23 _ _ _ ?_ ⟨uniV ed (x10.getD (((succV (x5.blocks.getD b default)).getD q 0).toNat) default), q + 1, ar31, kr31, _, (Fz.le_trans (hF23) hF31), hs31, hrr31, (agC rfl (agC rfl (agC rfl (agC rfl (agC rfl (agC rfl (agC rfl (agC rfl (agC rfl (agC rfl agN)))))))))), rfl, (by exact en_step hqs hed (bk.hx _ (by omega))), (by first | assumption | omega | (simp at *; omega))⟩
      omega
    · have c25 := c25b
      try simp only [BS] at c25
      refine wk_region ?_
      refine wro 2 0 [(0, .o (.agg ⟨[(.int .i64 x5.params), (.int .i64 x5.regs), (.slice ax5_2 x5.blocks.length kx5_2)]⟩))] 72 73 [] [(72, (.agg ⟨[(.int .i64 x5.params), (.int .i64 x5.regs), (.slice ax5_2 x5.blocks.length kx5_2)]⟩)), (73, (.int .i64 (b : Int)))] (vA (qn 24 0 3 (HS.hc hs23 (i := 0) rfl) rfl rfl rfl rfl) trivial) (by kernel_rfl) rfl fun gg33 => ?_
      refine wo_call (ap_call rfl rfl rfl) rfl rfl (md.points_c 15 x5 (b : Int) (HS.call hs23) (by omega) (by omega) hrx5_2 (by omega) hT (by exact fun j => Nat.le_trans (hins j) (by omega))) ?_
      rintro _ H34 ⟨al34, kl34, l34, F34, hF34, hs34, rfl, hrl34, h134, h034⟩
      replace hs34 := HS.back hs23 rfl hs34
      have hs34 : HS _ _ _ [_] _ := hs34
      replace hT := hT.mono hF34
      replace hrr21 := hrr21.mono hF34
      replace hrx10 := hrx10.mono hF34
      replace hrx5_2 := hrx5_2.mono hF34
      replace hry10 := hry10.mono hF34
      replace lh23_9 := lh23_9.mono hF34
      replace s19_0 := s19_0.mono hF34
      refine wa (.slice al34 l34.length kl34) rfl rfl rfl ?_
      refine wo_end 2 rfl ?_
      obtain ⟨cf35, hv35⟩ := Sv.view (SR.sv hrx5_2 hs34)
      obtain ⟨g36_1, g36_2, g36_3, g36_4, s36_0⟩ := BlkT.fx (hv35 b)
      refine wr 3 [(1, .o (.slice ax5_2 x5.blocks.length kx5_2)), (5, .o (.slice (cA (cf35 b) 0) ((x5.blocks.getD b default).ins).length (cK (cf35 b) 0)))] 75 81 [13] [(13, (.int .i64 (((x5.blocks.getD b default).ins).length : Int)))] (vA (ql 22 2 (HS.hc hs34 (i := 0) rfl) rfl rfl) (vA (Sv.ix (j := (b : Int)) (SR.sv hrx5_2 hs34) (by omega) (by omega)) (vA (ql 40 0 (BlkT.vw (hv35 b) (by omega)) rfl rfl) trivial))) (by kernel_rfl) rfl fun gg37 => ?_
      have pf := (by assumption : valV x5 = true → 0 ≤ ((b : Nat) : Int) → ((b : Nat) : Int) < (x5.blocks.length : Int) → PtF x5 ((b : Nat) : Int).toNat _) hG.val (by omega) (by omega)
      have hpl : (l34).length = (x5.blocks.getD b default).ins.length + 1 := pf.len
      have e1 : ed = (y10).getD b default := Lst.uniq hed (bk.hy b hbn) (en_all (show (succV (x5.blocks.getD b default)).length ≤ q by omega))
      have hel := Lst.len hed (by omega) (fun r h => en_lt vF h)
      have hyl := Lst.len (bk.hy b hbn) (by omega) (fun r h => lout_lt vF h)
      have hxl := Lst.len (bk.hx b hbn) (by omega) (fun r h => lin_lt vF h)
      have hal : ∀ i, i ≤ (x5.blocks.getD b default).ins.length → (((l34).getD i default).length : Int) ≤ x5.regs := fun i hi => Lst.len (pf.pt i hi) (by omega) (fun r h => pt_lt vF hbn h)
      have hal0 := hal 0 (by omega)
      have e3 : (l34).getD 0 default = (x10).getD b default := Lst.uniq (pf.pt 0 (by omega)) (bk.hx b hbn) (pt_in hbn)
      obtain ⟨cf38, hv38⟩ := Sv.view (SR.sv hry10 hs34)
      have s39 := fL (hv38 b)
      obtain ⟨cf40, hv40⟩ := Sv.view (SR.sv hrl34 hs34)
      have s41 := fL (hv40 0)
      obtain ⟨cf42, hv42⟩ := Sv.view (SR.sv hrx10 hs34)
      have s43 := fL (hv42 b)
      refine wrD 1 [(4, .o (.slice (cA (cf38 b) 0) (y10.getD b default).length (cK (cf38 b) 0))), (5, .o (.bool (decide (ed = (y10.getD b default))))), (17, .o (.slice (cA (cf40 0) 0) (l34.getD 0 default).length (cK (cf40 0) 0))), (21, .o (.slice (cA (cf42 b) 0) (x10.getD b default).length (cK (cf42 b) 0))), (22, .o (.bool (decide ((l34.getD 0 default) = (x10.getD b default)))))] 82 106 [] [(106, (.bool (((!(decide (ed = (y10.getD b default)))) || ((l34.length : Int) != (((x5.blocks.getD b default).ins).length : Int) + 1)) || (!(decide ((l34.getD 0 default) = (x10.getD b default)))))))] (vA (Sv.ix (j := (b : Int)) (SR.sv hry10 hs34) (by omega) (by omega)) (vA (ql 25 0 (hc0 (vL (hv38 b) (by omega))) rfl rfl) (vA (m6.sameInts_c_q 15 ed (y10.getD b default) (HS.call hs34.log0) lh23_9 s39 hT (by omega)) (vA (fun (g1 : (!(decide (ed = (y10.getD b default)))) = false) => (vi (n := (((x5.blocks.getD b default).ins).length : Int) + 1) (by (try simp only [BS] at g1); omega))) (vA (fun (g1 : ((!(decide (ed = (y10.getD b default)))) || ((l34.length : Int) != (((x5.blocks.getD b default).ins).length : Int) + 1)) = false) => (Sv.ix (j := 0) (SR.sv hrl34 hs34) (by decide) (by (try simp only [BS] at g1); omega))) (vA (fun (g1 : ((!(decide (ed = (y10.getD b default)))) || ((l34.length : Int) != (((x5.blocks.getD b default).ins).length : Int) + 1)) = false) => (ql 25 0 (hc0 (vL (hv40 0) (by (try simp only [BS] at g1); omega))) rfl rfl)) (vA (fun (g1 : ((!(decide (ed = (y10.getD b default)))) || ((l34.length : Int) != (((x5.blocks.getD b default).ins).length : Int) + 1)) = false) => (Sv.ix (j := (b : Int)) (SR.sv hrx10 hs34) (by (try simp only [BS] at g1); omega) (by (try simp only [BS] at g1); omega))) (vA (fun (g1 : ((!(decide (ed = (y10.getD b default)))) || ((l34.length : Int) != (((x5.blocks.getD b default).ins).length : Int) + 1)) = false) => (ql 25 0 (hc0 (vL (hv42 b) (by (try simp only [BS] at g1); omega))) rfl rfl)) (vA (fun (g1 : ((!(decide (ed = (y10.getD b default)))) || ((l34.length : Int) != (((x5.blocks.getD b default).ins).length : Int) + 1)) = false) => (m6.sameInts_c_q 15 (l34.getD 0 default) (x10.getD b default) (HS.call hs34.log0) s41 s43 hT (by (try simp only [BS] at g1); omega))) trivial))))))))) rfl (by kernel_rfl) rfl fun gg44 => ?_
      refine wk_iff 3 (v := (((!(decide (ed = (y10.getD b default)))) || ((l34.length : Int) != (((x5.blocks.getD b default).ins).length : Int) + 1)) || (!(decide ((l34.getD 0 default) = (x10.getD b default)))))) rfl (by simp only [show ((0 : Int).toNat) = 0 from rfl, e1, e3, hpl]; simp) rfl rfl ?_
      refine wk_region ?_
      obtain ⟨cf45, hv45⟩ := Sv.view (SR.sv hrx5_2 hs34)
      obtain ⟨g46_1, g46_2, g46_3, g46_4, s46_0⟩ := BlkT.fx (hv45 b)
      refine wro 5 0 [(1, .o (.slice ax5_2 x5.blocks.length kx5_2)), (4, .o (.agg ⟨[(.slice (cA (cf45 b) 0) ((x5.blocks.getD b default).ins).length (cK (cf45 b) 0)), (.int .i64 ((x5.blocks.getD b default).fin)), (.int .i64 ((x5.blocks.getD b default).reg)), (.int .i64 ((x5.blocks.getD b default).tgt)), (.int .i64 ((x5.blocks.getD b default).els))]⟩))] 107 111 [] [(111, (.agg ⟨[(.slice (cA (cf45 b) 0) ((x5.blocks.getD b default).ins).length (cK (cf45 b) 0)), (.int .i64 ((x5.blocks.getD b default).fin)), (.int .i64 ((x5.blocks.getD b default).reg)), (.int .i64 ((x5.blocks.getD b default).tgt)), (.int .i64 ((x5.blocks.getD b default).els))]⟩))] (vA (ql 22 2 (HS.hc hs34 (i := 0) rfl) rfl rfl) (vA (Sv.ix (j := (b : Int)) (SR.sv hrx5_2 hs34) (by omega) (by omega)) (vA (qn 42 0 5 (BlkT.vw (hv45 b) (by omega)) rfl rfl rfl rfl) trivial))) (by kernel_rfl) rfl fun gg47 => ?_
      refine wo_rs (rs_new hs34 rfl) rfl rfl ?_
      rintro _ H49 _ ⟨b48, rfl, hs49, _⟩
      have hs49 : HS _ _ _ [_, [(b48, .cells [(.slice none 0 0), (.int .i64 0), (.int .i64 0), (.int .i64 0), (.int .i64 0)] none false)]] _ := hs49
      refine wo_rk (rs_rec (q := 1) hs49 rfl rfl rfl rfl rfl rfl rfl rfl rfl) rfl ?_
      rintro _ H50 _ ⟨hs50, _⟩
      have hs50 : HS _ _ _ [_, [(b48, .cells [(.slice (cA (cf45 b) 0) ((x5.blocks.getD b default).ins).length (cK (cf45 b) 0)), (.int .i64 ((x5.blocks.getD b default).fin)), (.int .i64 ((x5.blocks.getD b default).reg)), (.int .i64 ((x5.blocks.getD b default).tgt)), (.int .i64 ((x5.blocks.getD b default).els))] none false)]] _ := hs50
      refine wo_end 2 rfl ?_
      refine wr 1 [(1, .o (.int .i64 ((x5.blocks.getD b default).fin))), (5, .o (.int .i64 ((x5.blocks.getD b default).fin)))] 112 119 [] [(119, (.bool (((x5.blocks.getD b default).fin == 2) || ((x5.blocks.getD b default).fin == 3))))] (vA (ql 3 1 (HS.hc hs50 (i := 1) rfl) rfl rfl) (vA (fun (g1 : ((x5.blocks.getD b default).fin == 2) = false) => (ql 3 1 (HS.hc hs50 (i := 1) rfl) rfl rfl)) trivial)) (by kernel_rfl) rfl fun gg51 => ?_
      refine wk_join (fun f H' => ∃ (ef : List Int) (la52_9 : Option Addr) (lk52_9 : Nat) (F' : Fz), Fz.le F34 F' ∧ HS (Base.of H []) F' H' [[(b6, .cells [(.int .i64 x5.params), (.int .i64 x5.regs), (.slice ax5_2 x5.blocks.length kx5_2)] none false)], [(b48, .cells [(.slice (cA (cf45 b) 0) ((x5.blocks.getD b default).ins).length (cK (cf45 b) 0)), (.int .i64 ((x5.blocks.getD b default).fin)), (.int .i64 ((x5.blocks.getD b default).reg)), (.int .i64 ((x5.blocks.getD b default).tgt)), (.int .i64 ((x5.blocks.getD b default).els))] none false)]] R ∧ SR F' (.slice la52_9 ef.length lk52_9) ef ∧ agrees f [(5, (.pointer (some ⟨b6, 0, none⟩))), (6, (.slice ax10 x10.length kx10)), (7, (.slice ay10 y10.length ky10)), (8, (.int .i64 (b : Int))), (9, (.slice la52_9 ef.length lk52_9)), (10, (.slice ar21 (succV (x5.blocks.getD b default)).length kr21)), (11, (.int .i64 (q : Int))), (12, (.slice al34 l34.length kl34)), (13, (.int .i64 (((x5.blocks.getD b default).ins).length : Int))), (14, (.pointer (some ⟨b48, 0, none⟩))), (48, (.bool (decide ((b : Int) < (x5.blocks.length : Int))))), (55, (.agg ⟨[(.slice (cA (cf18 b) 0) ((x5.blocks.getD b default).ins).length (cK (cf18 b) 0)), (.int .i64 ((x5.blocks.getD b default).fin)), (.int .i64 ((x5.blocks.getD b default).reg)), (.int .i64 ((x5.blocks.getD b default).tgt)), (.int .i64 ((x5.blocks.getD b default).els))]⟩)), (56, (.slice ar21 (succV (x5.blocks.getD b default)).length kr21)), (60, (.bool (decide ((q : Int) < ((succV (x5.blocks.getD b default)).length : Int))))), (72, (.agg ⟨[(.int .i64 x5.params), (.int .i64 x5.regs), (.slice ax5_2 x5.blocks.length kx5_2)]⟩)), (73, (.int .i64 (b : Int))), (74, (.slice al34 l34.length kl34)), (106, (.bool (((!(decide (ed = (y10.getD b default)))) || ((l34.length : Int) != (((x5.blocks.getD b default).ins).length : Int) + 1)) || (!(decide ((l34.getD 0 default) = (x10.getD b default))))))), (111, (.agg ⟨[(.slice (cA (cf45 b) 0) ((x5.blocks.getD b default).ins).length (cK (cf45 b) 0)), (.int .i64 ((x5.blocks.getD b default).fin)), (.int .i64 ((x5.blocks.getD b default).reg)), (.int .i64 ((x5.blocks.getD b default).tgt)), (.int .i64 ((x5.blocks.getD b default).els))]⟩)), (119, (.bool (((x5.blocks.getD b default).fin == 2) || ((x5.blocks.getD b default).fin == 3))))] ∧ (ef = uniV ed (endV (x5.blocks.getD b default)))) (fun jn52 => ?_) ?_
      · skip
        refine wk_if 0 0 (v := (((x5.blocks.getD b default).fin == 2) || ((x5.blocks.getD b default).fin == 3))) rfl rfl rfl rfl (fun c53b => ?_) (fun c53b => ?_)
        · have c53 := c53b
          try simp only [BS] at c53
          have hf := c53
          refine wk_region ?_
          refine wro 3 0 [(2, .o (.int .i64 ((x5.blocks.getD b default).reg)))] 120 122 [] [(120, (.slice la23_9 ed.length lk23_9)), (122, (.int .i64 ((x5.blocks.getD b default).reg)))] (vA (ql 3 2 (HS.hc hs50 (i := 1) rfl) rfl rfl) trivial) (by kernel_rfl) rfl fun gg54 => ?_
          refine wo_rs (rs_lit (α := Int) (ps := [(0, (.int .i64 ((x5.blocks.getD b default).reg)))]) (cells := [(.int .i64 ((x5.blocks.getD b default).reg))]) ([(x5.blocks.getD b default).reg] : List Int) hs50 rfl rfl rfl (by kernel_rfl) ⟨[(.int .i64 ((x5.blocks.getD b default).reg))], [], rfl, ⟨rfl, by omega⟩, rfl⟩ rfl) rfl rfl ?_
          rintro _ H56 p55 ⟨a55, k55, rfl, ho55, hs56, _⟩
          have hs56 : HS _ _ _ [_, _, p55] _ := hs56
          obtain ⟨F57, hF57, hs57, hr57, hp57⟩ := OS.frz ho55 hs56 (i := 2) rfl
          have hs57 : HS _ _ _ [_, _, []] _ := hs57
          replace hT := hT.mono hF57
          replace ho55 := ho55.mono hF57
          replace hrl34 := hrl34.mono hF57
          replace hrr21 := hrr21.mono hF57
          replace hrx10 := hrx10.mono hF57
          replace hrx5_2 := hrx5_2.mono hF57
          replace hry10 := hry10.mono hF57
          replace lh23_9 := lh23_9.mono hF57
          replace s19_0 := s19_0.mono hF57
          replace s46_0 := s46_0.mono hF57
          refine wo_call (ap_call rfl rfl rfl) rfl rfl (ma.union_c 15 ed ([(x5.blocks.getD b default).reg] : List Int) (HS.call hs57) lh23_9 hr57 hT (by first | omega | (simp only [List.length_singleton]; omega))) ?_
          rintro _ H58 ⟨ar58, kr58, r58, F58, hF58, hs58, rfl, hrr58, rfl⟩
          replace hs58 := HS.back hs57 rfl hs58
          have hs58 : HS _ _ _ [_, _, _] _ := hs58
          replace hT := hT.mono hF58
          replace hr57 := hr57.mono hF58
          replace hrl34 := hrl34.mono hF58
          replace hrr21 := hrr21.mono hF58
          replace hrx10 := hrx10.mono hF58
          replace hrx5_2 := hrx5_2.mono hF58
          replace hry10 := hry10.mono hF58
          replace lh23_9 := lh23_9.mono hF58
          replace s19_0 := s19_0.mono hF58
          replace s46_0 := s46_0.mono hF58
          refine wa (.slice ar58 (uniV ed ([(x5.blocks.getD b default).reg] : List Int)).length kr58) rfl rfl rfl ?_
          refine wo_end 0 rfl ?_
          exact jn52 _ _ ⟨uniV ed ([(x5.blocks.getD b default).reg] : List Int), ar58, kr58, _, (Fz.le_trans (hF57) hF58), (HS.sub hs58 (List.sublist_append_left _ _)), hrr58, (agC rfl (agC rfl (agC rfl (agC rfl (agC rfl (agC rfl (agC rfl (agC rfl (agC rfl (agC rfl (agC rfl (agC rfl (agC rfl (agC rfl (agC rfl (agC rfl (agC rfl (agC rfl (agC rfl (agC rfl agN)))))))))))))))))))), (by first | exact end_yes hf | exact end_no (by omega))⟩
        · have c53 := c53b
          try simp only [BS] at c53
          have hf := c53
          exact jn52 _ _ ⟨ed, la23_9, lk23_9, _, (Fz.le_refl _), hs50, lh23_9, (agC rfl (agC rfl (agC rfl (agC rfl (agC rfl (agC rfl (agC rfl (agC rfl (agC rfl (agC rfl (agC rfl (agC rfl (agC rfl (agC rfl (agC rfl (agC rfl (agC rfl (agC rfl (agC rfl (agC rfl agN)))))))))))))))))))), (by first | exact end_yes hf | exact end_no (by omega))⟩
      · skip
        rintro f52 H52 ⟨ef, la52_9, lk52_9, F52, hF52, hs52, lh52_9, hf52, hef⟩
        refine wk_canon _ hf52 (fun gg52 => ?_)
        clear hf52
        replace hT := hT.mono hF52
        replace hrl34 := hrl34.mono hF52
        replace hrr21 := hrr21.mono hF52
        replace hrx10 := hrx10.mono hF52
        replace hrx5_2 := hrx5_2.mono hF52
        replace hry10 := hry10.mono hF52
        replace s19_0 := s19_0.mono hF52
        replace s46_0 := s46_0.mono hF52
        refine wk_foc 3 rfl ?_
        have pe := end_lst vF hbn hed (show (succV (x5.blocks.getD b default)).length ≤ q by omega) hef
        have hefl := Lst.len pe (by omega) (fun r h => pt_lt vF hbn h)
        have haln := hal (x5.blocks.getD b default).ins.length (Nat.le_refl _)
        have e4 : (l34).getD (x5.blocks.getD b default).ins.length default = ef := Lst.uniq (pf.pt _ (Nat.le_refl _)) pe (fun r => Iff.rfl)
        obtain ⟨cf59, hv59⟩ := Sv.view (SR.sv hrl34 hs52)
        have s60 := fL (hv59 (((x5.blocks.getD b default).ins).length))
        refine wr 1 [(3, .o (.slice (cA (cf59 (((x5.blocks.getD b default).ins).length)) 0) (l34.getD (((x5.blocks.getD b default).ins).length) default).length (cK (cf59 (((x5.blocks.getD b default).ins).length)) 0))), (5, .o (.bool (decide ((l34.getD (((x5.blocks.getD b default).ins).length) default) = ef))))] 125 131 [] [(131, (.bool (!(decide ((l34.getD (((x5.blocks.getD b default).ins).length) default) = ef)))))] (vA (Sv.ix (j := (((x5.blocks.getD b default).ins).length : Int)) (SR.sv hrl34 hs52) (by omega) (by omega)) (vA (ql 25 0 (vL (hv59 (((x5.blocks.getD b default).ins).length)) (by omega)) rfl rfl) (vA (m6.sameInts_c_q 15 (l34.getD (((x5.blocks.getD b default).ins).length) default) ef (HS.call hs52) s60 lh52_9 hT (by omega)) trivial))) (by kernel_rfl) rfl fun gg61 => ?_
        refine wk_iff 2 (v := (!(decide ((l34.getD (((x5.blocks.getD b default).ins).length) default) = ef)))) rfl (by simp only [e4]; simp) rfl rfl ?_
        refine wr 2 [] 1 0 [15] [(15, (.int .i64 0))] trivial (by kernel_rfl) rfl fun gg62 => ?_
        refine wk_loop_inv (fun (mm : Nat) f H' => ∃ (k : Nat) (F' : Fz), Fz.le F52 F' ∧ HS (Base.of H []) F' H' [[(b6, .cells [(.int .i64 x5.params), (.int .i64 x5.regs), (.slice ax5_2 x5.blocks.length kx5_2)] none false)], [(b48, .cells [(.slice (cA (cf45 b) 0) ((x5.blocks.getD b default).ins).length (cK (cf45 b) 0)), (.int .i64 ((x5.blocks.getD b default).fin)), (.int .i64 ((x5.blocks.getD b default).reg)), (.int .i64 ((x5.blocks.getD b default).tgt)), (.int .i64 ((x5.blocks.getD b default).els))] none false)]] R ∧ agrees f [(5, (.pointer (some ⟨b6, 0, none⟩))), (6, (.slice ax10 x10.length kx10)), (7, (.slice ay10 y10.length ky10)), (8, (.int .i64 (b : Int))), (9, (.slice la52_9 ef.length lk52_9)), (10, (.slice ar21 (succV (x5.blocks.getD b default)).length kr21)), (11, (.int .i64 (q : Int))), (12, (.slice al34 l34.length kl34)), (13, (.int .i64 (((x5.blocks.getD b default).ins).length : Int))), (14, (.pointer (some ⟨b48, 0, none⟩))), (15, (.int .i64 (k : Int))), (48, (.bool (decide ((b : Int) < (x5.blocks.length : Int))))), (55, (.agg ⟨[(.slice (cA (cf18 b) 0) ((x5.blocks.getD b default).ins).length (cK (cf18 b) 0)), (.int .i64 ((x5.blocks.getD b default).fin)), (.int .i64 ((x5.blocks.getD b default).reg)), (.int .i64 ((x5.blocks.getD b default).tgt)), (.int .i64 ((x5.blocks.getD b default).els))]⟩)), (56, (.slice ar21 (succV (x5.blocks.getD b default)).length kr21)), (60, (.bool (decide ((q : Int) < ((succV (x5.blocks.getD b default)).length : Int))))), (72, (.agg ⟨[(.int .i64 x5.params), (.int .i64 x5.regs), (.slice ax5_2 x5.blocks.length kx5_2)]⟩)), (73, (.int .i64 (b : Int))), (74, (.slice al34 l34.length kl34)), (106, (.bool (((!(decide (ed = (y10.getD b default)))) || ((l34.length : Int) != (((x5.blocks.getD b default).ins).length : Int) + 1)) || (!(decide ((l34.getD 0 default) = (x10.getD b default))))))), (111, (.agg ⟨[(.slice (cA (cf45 b) 0) ((x5.blocks.getD b default).ins).length (cK (cf45 b) 0)), (.int .i64 ((x5.blocks.getD b default).fin)), (.int .i64 ((x5.blocks.getD b default).reg)), (.int .i64 ((x5.blocks.getD b default).tgt)), (.int .i64 ((x5.blocks.getD b default).els))]⟩)), (119, (.bool (((x5.blocks.getD b default).fin == 2) || ((x5.blocks.getD b default).fin == 3)))), (131, (.bool (!(decide ((l34.getD (((x5.blocks.getD b default).ins).length) default) = ef)))))] ∧ mm = (x5.blocks.getD b default).ins.length - k ∧ (k ≤ (x5.blocks.getD b default).ins.length)) _ ⟨0, _, (Fz.le_refl _), hs52, (agC rfl (agC rfl (agC rfl (agC rfl (agC rfl (agC rfl (agC rfl (agC rfl (agC rfl (agC rfl (agC rfl (agC rfl (agC rfl (agC rfl (agC rfl (agC rfl (agC rfl (agC rfl (agC rfl (agC rfl (agC rfl (agC rfl agN)))))))))))))))))))))), rfl, (by first | assumption | omega | (simp at *; omega))⟩ ?_
        rintro mm63 f63 H63 ⟨k, F63, hF63, hs63, hf63, rfl, hk⟩ ih63
        refine wk_canon _ hf63 (fun gg63 => ?_)
        clear hf63
        replace hT := hT.mono hF63
        replace hrl34 := hrl34.mono hF63
        replace hrr21 := hrr21.mono hF63
        replace hrx10 := hrx10.mono hF63
        replace hrx5_2 := hrx5_2.mono hF63
        replace hry10 := hry10.mono hF63
        replace lh52_9 := lh52_9.mono hF63
        replace s19_0 := s19_0.mono hF63
        replace s46_0 := s46_0.mono hF63
        refine wk_foc 2 rfl ?_
        refine wr 1 [] 132 134 [] [(134, (.bool (decide ((k : Int) < (((x5.blocks.getD b default).ins).length : Int)))))] trivial (by kernel_rfl) rfl fun gg64 => ?_
        refine wk_if 4 5 (v := (decide ((k : Int) < (((x5.blocks.getD b default).ins).length : Int)))) rfl rfl rfl rfl (fun c65b => ?_) (fun c65b => ?_)
        · have c65 := c65b
          try simp only [BS] at c65
          refine wk_region ?_
          obtain ⟨cf66, hv66⟩ := Sv.view (SR.sv hrx5_2 hs63)
          obtain ⟨g67_1, g67_2, g67_3, g67_4, s67_0⟩ := BlkT.fx (hv66 b)
          obtain ⟨cf68, hv68⟩ := Sv.view (SR.sv s67_0 hs63)
          obtain ⟨g69_0, g69_1, g69_2, g69_3, g69_4, s69_5⟩ := VInT.fx (hv68 k)
          refine wro 9 0 [(1, .o (.slice ax5_2 x5.blocks.length kx5_2)), (5, .o (.slice (cA (cf66 b) 0) ((x5.blocks.getD b default).ins).length (cK (cf66 b) 0))), (8, .o (.agg ⟨[(.int .i64 ((((x5.blocks.getD b default).ins).getD k default).i.op)), (.int .i64 ((((x5.blocks.getD b default).ins).getD k default).i.a)), (.int .i64 ((((x5.blocks.getD b default).ins).getD k default).i.b)), (.int .i64 ((((x5.blocks.getD b default).ins).getD k default).i.c)), (.int .i64 ((((x5.blocks.getD b default).ins).getD k default).i.n)), (.slice (cA (cf68 k) 5) ((((x5.blocks.getD b default).ins).getD k default).args).length (cK (cf68 k) 5))]⟩))] 137 145 [] [(145, (.agg ⟨[(.int .i64 ((((x5.blocks.getD b default).ins).getD k default).i.op)), (.int .i64 ((((x5.blocks.getD b default).ins).getD k default).i.a)), (.int .i64 ((((x5.blocks.getD b default).ins).getD k default).i.b)), (.int .i64 ((((x5.blocks.getD b default).ins).getD k default).i.c)), (.int .i64 ((((x5.blocks.getD b default).ins).getD k default).i.n)), (.slice (cA (cf68 k) 5) ((((x5.blocks.getD b default).ins).getD k default).args).length (cK (cf68 k) 5))]⟩))] (vA (ql 22 2 (HS.hc hs63 (i := 0) rfl) rfl rfl) (vA (Sv.ix (j := (b : Int)) (SR.sv hrx5_2 hs63) (by omega) (by omega)) (vA (ql 40 0 (BlkT.vw (hv66 b) (by omega)) rfl rfl) (vA (Sv.ix (j := (k : Int)) (SR.sv s67_0 hs63) (by omega) (by omega)) (vA (qn 47 0 6 (VInT.vw (hv68 k) (by omega)) rfl rfl rfl rfl) trivial))))) (by kernel_rfl) rfl fun gg70 => ?_
          refine wo_rs (rs_new hs63 rfl) rfl rfl ?_
          rintro _ H72 _ ⟨b71, rfl, hs72, _⟩
          have hs72 : HS _ _ _ [_, _, [(b71, .cells [(.int .i64 0), (.int .i64 0), (.int .i64 0), (.int .i64 0), (.int .i64 0), (.slice none 0 0)] none false)]] _ := hs72
          refine wo_rk (rs_rec (q := 2) hs72 rfl rfl rfl rfl rfl rfl rfl rfl rfl) rfl ?_
          rintro _ H73 _ ⟨hs73, _⟩
          have hs73 : HS _ _ _ [_, _, [(b71, .cells [(.int .i64 ((((x5.blocks.getD b default).ins).getD k default).i.op)), (.int .i64 ((((x5.blocks.getD b default).ins).getD k default).i.a)), (.int .i64 ((((x5.blocks.getD b default).ins).getD k default).i.b)), (.int .i64 ((((x5.blocks.getD b default).ins).getD k default).i.c)), (.int .i64 ((((x5.blocks.getD b default).ins).getD k default).i.n)), (.slice (cA (cf68 k) 5) ((((x5.blocks.getD b default).ins).getD k default).args).length (cK (cf68 k) 5))] none false)]] _ := hs73
          refine wo_end 2 rfl ?_
          have hkn : k < (x5.blocks.getD b default).ins.length := by omega
          have hak := hal k (by omega)
          have hak1 := hal (k + 1) (by omega)
          have hvl := reads_lim (vF.ins b hbn k hkn)
          have hvl3 : ((x5.blocks.getD b default).ins.getD k default).args.length ≤ 6 := hvl.2.2
          have hwl := writes_len (v := (x5.blocks.getD b default).ins.getD k default)
          have hrl := reads_len (v := (x5.blocks.getD b default).ins.getD k default)
          have hml : (minV ((l34).getD (k + 1) default) (writesV ((x5.blocks.getD b default).ins.getD k default))).length ≤ ((l34).getD (k + 1) default).length := List.length_filter_le _ _
          have hul := uni_len (l := readsV ((x5.blocks.getD b default).ins.getD k default)) (a := minV ((l34).getD (k + 1) default) (writesV ((x5.blocks.getD b default).ins.getD k default)))
          have e5 : (l34).getD k default = uniV (minV ((l34).getD (k + 1) default) (writesV ((x5.blocks.getD b default).ins.getD k default))) (readsV ((x5.blocks.getD b default).ins.getD k default)) := Lst.uniq (pf.pt k (Nat.le_of_lt hkn)) (pt_step vF hbn hkn (pf.pt (k + 1) hkn)) (fun r => Iff.rfl)
          refine wf_region rfl ?_
          refine fm (.slice al34 l34.length kl34) rfl rfl rfl ?_
          refine fm (.int .i64 (k : Int)) rfl rfl rfl ?_
          refine wf_pure (v := (.pointer (some ⟨sB (.slice al34 l34.length kl34), sO (.slice al34 l34.length kl34) + k * Rp.sz (List Int), none⟩))) (id := .v) (ap_idxV (α := (List Int)) (j := (k : Int)) rfl rfl rfl rfl (SR.sv hrl34 hs73.log0) (by omega) (by omega)) rfl rfl (did_v rfl) (okD_v _) ?_
          obtain ⟨cs74, hr74, hc74⟩ := Sv.at (SR.sv hrl34 hs73.log0) (getD_at (x := default) (show k < l34.length from by omega))
          obtain ⟨a75_0, k75_0, rfl, s75_0⟩ := hr74
          refine wf_pure (v := (.slice a75_0 (l34.getD k default).length k75_0)) (id := .l (sB (.slice al34 l34.length kl34))) (ap_ld1 (i := 0) rfl rfl hc74 rfl rfl) rfl rfl (did_l rfl) (⟨.inl rfl, ⟨.inl rfl, ⟨.inl rfl, trivial⟩⟩⟩) ?_
          refine fm (.slice al34 l34.length kl34) rfl rfl rfl ?_
          refine fm (.int .i64 (k : Int)) rfl rfl rfl ?_
          refine wf_pure (v := (.int .i64 ((k : Int) + 1))) (id := .v) (ap_add rfl rfl (w_i64 (n := (k : Int) + 1) (by omega))) rfl rfl (did_v rfl) (okD_v _) ?_
          refine wf_pure (v := (.pointer (some ⟨sB (.slice al34 l34.length kl34), sO (.slice al34 l34.length kl34) + (k + 1) * Rp.sz (List Int), none⟩))) (id := .v) (ap_idxV (α := (List Int)) (j := (k : Int) + 1) rfl rfl rfl rfl (SR.sv hrl34 hs73.log0) (by omega) (by omega)) rfl rfl (did_v rfl) (okD_v _) ?_
          obtain ⟨cs76, hr76, hc76⟩ := Sv.at (SR.sv hrl34 hs73.log0) (getD_at (x := default) (show k + 1 < l34.length from by omega))
          obtain ⟨a77_0, k77_0, rfl, s77_0⟩ := hr76
          refine wf_pure (v := (.slice a77_0 (l34.getD (k + 1) default).length k77_0)) (id := .l (sB (.slice al34 l34.length kl34))) (ap_ld1 (i := 0) rfl rfl hc76 rfl rfl) rfl rfl (did_l rfl) (⟨.inl rfl, ⟨.inl rfl, ⟨.inl rfl, ⟨.inl rfl, ⟨.inr trivial, ⟨.inr trivial, ⟨.inr trivial, ⟨.inr trivial, trivial⟩⟩⟩⟩⟩⟩⟩⟩) ?_
          refine wf_pure (v := (.agg ⟨[(.int .i64 ((((x5.blocks.getD b default).ins).getD k default).i.op)), (.int .i64 ((((x5.blocks.getD b default).ins).getD k default).i.a)), (.int .i64 ((((x5.blocks.getD b default).ins).getD k default).i.b)), (.int .i64 ((((x5.blocks.getD b default).ins).getD k default).i.c)), (.int .i64 ((((x5.blocks.getD b default).ins).getD k default).i.n)), (.slice (cA (cf68 k) 5) ((((x5.blocks.getD b default).ins).getD k default).args).length (cK (cf68 k) 5))]⟩)) (id := .l b71) (ap_ldN (i := 0) rfl rfl rfl (HS.hc hs73.log0 (i := 2) rfl) rfl rfl rfl) rfl rfl (did_l rfl) (⟨.inr trivial, ⟨.inr trivial, ⟨.inr trivial, ⟨.inr trivial, ⟨.inr trivial, ⟨.inr trivial, ⟨.inr trivial, ⟨.inr trivial, ⟨.inr trivial, trivial⟩⟩⟩⟩⟩⟩⟩⟩⟩) ?_
          refine wf_call (W := []) (ap_call rfl rfl rfl) rfl rfl rfl (ma.rwrites_c 15 (((x5.blocks.getD b default).ins).getD k default) (HS.call hs73.log0) (by omega) (by omega) (by omega) (by omega) (by omega) s69_5 hT) (⟨.inl rfl, ⟨.inr List.not_mem_nil, ⟨.inr trivial, ⟨.inr trivial, ⟨.inr trivial, ⟨.inr trivial, ⟨.inr List.not_mem_nil, ⟨.inr trivial, ⟨.inr trivial, ⟨.inr trivial, trivial⟩⟩⟩⟩⟩⟩⟩⟩⟩⟩) ?_
          rintro _ H78 ⟨ar78, kr78, r78, p78, F78, hF78, hs78, rfl, hrr78, rfl⟩
          refine ⟨Wr.did hs78.log, fun lg78 hlg78 => ?_⟩
          replace hs78 := HS.back hs73.log0 rfl hs78
          replace hs78 := HS.lg hs78 hs73 hlg78
          generalize ({ H78 with log := lg78 } : Heap) = H78g at hs78 ⊢
          have hs78 : HS _ _ _ [_, _, _, p78] _ := hs78
          replace hT := hT.mono hF78
          replace hrl34 := hrl34.mono hF78
          replace hrr21 := hrr21.mono hF78
          replace hrx10 := hrx10.mono hF78
          replace hrx5_2 := hrx5_2.mono hF78
          replace hry10 := hry10.mono hF78
          replace lh52_9 := lh52_9.mono hF78
          replace s19_0 := s19_0.mono hF78
          replace s46_0 := s46_0.mono hF78
          replace s69_5 := s69_5.mono hF78
          replace s75_0 := s75_0.mono hF78
          replace s77_0 := s77_0.mono hF78
          obtain ⟨F79, hF79, hs79, hr79, hp79⟩ := OS.frz hrr78 hs78 (i := 3) rfl
          have hs79 : HS _ _ _ [_, _, _, []] _ := hs79
          replace hT := hT.mono hF79
          replace hrl34 := hrl34.mono hF79
          replace hrr21 := hrr21.mono hF79
          replace hrr78 := hrr78.mono hF79
          replace hrx10 := hrx10.mono hF79
          replace hrx5_2 := hrx5_2.mono hF79
          replace hry10 := hry10.mono hF79
          replace lh52_9 := lh52_9.mono hF79
          replace s19_0 := s19_0.mono hF79
          replace s46_0 := s46_0.mono hF79
          replace s69_5 := s69_5.mono hF79
          replace s75_0 := s75_0.mono hF79
          replace s77_0 := s77_0.mono hF79
          refine wf_call (W := []) (ap_call rfl rfl rfl) rfl rfl rfl (ma.minus_c 15 (l34.getD (k + 1) default) (writesV (((x5.blocks.getD b default).ins).getD k default)) (HS.call hs79.log0) s77_0 hr79 hT (by omega)) (⟨.inl rfl, ⟨.inl rfl, ⟨.inl rfl, ⟨.inl rfl, ⟨.inl rfl, ⟨.inl rfl, ⟨.inl rfl, ⟨.inr List.not_mem_nil, ⟨.inr trivial, ⟨.inr trivial, ⟨.inr trivial, trivial⟩⟩⟩⟩⟩⟩⟩⟩⟩⟩⟩) ?_
          rintro _ H80 ⟨ar80, kr80, r80, p80, F80, hF80, hs80, rfl, hrr80, rfl⟩
          refine ⟨Wr.did hs80.log, fun lg80 hlg80 => ?_⟩
          replace hs80 := HS.back hs79.log0 rfl hs80
          replace hs80 := HS.lg hs80 hs79 hlg80
          generalize ({ H80 with log := lg80 } : Heap) = H80g at hs80 ⊢
          have hs80 : HS _ _ _ [_, _, _, _, p80] _ := hs80
          replace hT := hT.mono hF80
          replace hr79 := hr79.mono hF80
          replace hrl34 := hrl34.mono hF80
          replace hrr21 := hrr21.mono hF80
          replace hrx10 := hrx10.mono hF80
          replace hrx5_2 := hrx5_2.mono hF80
          replace hry10 := hry10.mono hF80
          replace lh52_9 := lh52_9.mono hF80
          replace s19_0 := s19_0.mono hF80
          replace s46_0 := s46_0.mono hF80
          replace s69_5 := s69_5.mono hF80
          replace s75_0 := s75_0.mono hF80
          replace s77_0 := s77_0.mono hF80
          refine wf_pure (v := (.agg ⟨[(.int .i64 ((((x5.blocks.getD b default).ins).getD k default).i.op)), (.int .i64 ((((x5.blocks.getD b default).ins).getD k default).i.a)), (.int .i64 ((((x5.blocks.getD b default).ins).getD k default).i.b)), (.int .i64 ((((x5.blocks.getD b default).ins).getD k default).i.c)), (.int .i64 ((((x5.blocks.getD b default).ins).getD k default).i.n)), (.slice (cA (cf68 k) 5) ((((x5.blocks.getD b default).ins).getD k default).args).length (cK (cf68 k) 5))]⟩)) (id := .l b71) (ap_ldN (i := 0) rfl rfl rfl (HS.hc hs80.log0 (i := 2) rfl) rfl rfl rfl) rfl rfl (did_l rfl) (⟨.inr List.not_mem_nil, ⟨.inr List.not_mem_nil, ⟨.inr trivial, ⟨.inr trivial, ⟨.inr trivial, ⟨.inr trivial, ⟨.inr trivial, ⟨.inr trivial, ⟨.inr trivial, ⟨.inr trivial, ⟨.inr trivial, ⟨.inr trivial, trivial⟩⟩⟩⟩⟩⟩⟩⟩⟩⟩⟩⟩) ?_
          refine wf_call (W := []) (ap_call rfl rfl rfl) rfl rfl rfl (ma.rreads_c 15 (((x5.blocks.getD b default).ins).getD k default) (HS.call hs80.log0) (by omega) (by omega) (by omega) (by omega) (by omega) s69_5 hT (by omega)) (⟨.inl rfl, ⟨.inl rfl, ⟨.inl rfl, ⟨.inl rfl, ⟨.inl rfl, ⟨.inl rfl, ⟨.inl rfl, ⟨.inl rfl, ⟨.inl rfl, ⟨.inr List.not_mem_nil, ⟨.inr trivial, ⟨.inr trivial, ⟨.inr trivial, trivial⟩⟩⟩⟩⟩⟩⟩⟩⟩⟩⟩⟩⟩) ?_
          rintro _ H81 ⟨ar81, kr81, r81, F81, hF81, hs81, rfl, hrr81, rfl⟩
          refine ⟨Wr.did hs81.log, fun lg81 hlg81 => ?_⟩
          replace hs81 := HS.back hs80.log0 rfl hs81
          replace hs81 := HS.lg hs81 hs80 hlg81
          generalize ({ H81 with log := lg81 } : Heap) = H81g at hs81 ⊢
          have hs81 : HS _ _ _ [_, _, _, _, _] _ := hs81
          replace hT := hT.mono hF81
          replace hr79 := hr79.mono hF81
          replace hrl34 := hrl34.mono hF81
          replace hrr21 := hrr21.mono hF81
          replace hrr80 := hrr80.mono hF81
          replace hrx10 := hrx10.mono hF81
          replace hrx5_2 := hrx5_2.mono hF81
          replace hry10 := hry10.mono hF81
          replace lh52_9 := lh52_9.mono hF81
          replace s19_0 := s19_0.mono hF81
          replace s46_0 := s46_0.mono hF81
          replace s69_5 := s69_5.mono hF81
          replace s75_0 := s75_0.mono hF81
          replace s77_0 := s77_0.mono hF81
          obtain ⟨F82, hF82, hs82, hr82, hp82⟩ := OS.frz hrr80 hs81 (i := 4) rfl
          have hs82 : HS _ _ _ [_, _, _, _, []] _ := hs82
          replace hT := hT.mono hF82
          replace hr79 := hr79.mono hF82
          replace hrl34 := hrl34.mono hF82
          replace hrr21 := hrr21.mono hF82
          replace hrr80 := hrr80.mono hF82
          replace hrr81 := hrr81.mono hF82
          replace hrx10 := hrx10.mono hF82
          replace hrx5_2 := hrx5_2.mono hF82
          replace hry10 := hry10.mono hF82
          replace lh52_9 := lh52_9.mono hF82
          replace s19_0 := s19_0.mono hF82
          replace s46_0 := s46_0.mono hF82
          replace s69_5 := s69_5.mono hF82
          replace s75_0 := s75_0.mono hF82
          replace s77_0 := s77_0.mono hF82
          refine wf_call (W := []) (ap_call rfl rfl rfl) rfl rfl rfl (ma.union_c 15 (minV (l34.getD (k + 1) default) (writesV (((x5.blocks.getD b default).ins).getD k default))) (readsV (((x5.blocks.getD b default).ins).getD k default)) (HS.call hs82.log0) hr82 hrr81 hT (by first | omega | (simp only [List.length_singleton]; omega))) (⟨.inl rfl, ⟨.inl rfl, ⟨.inl rfl, ⟨.inl rfl, ⟨.inl rfl, ⟨.inl rfl, ⟨.inl rfl, ⟨.inl rfl, ⟨.inl rfl, ⟨.inl rfl, ⟨.inr List.not_mem_nil, ⟨.inr trivial, ⟨.inr trivial, ⟨.inr trivial, trivial⟩⟩⟩⟩⟩⟩⟩⟩⟩⟩⟩⟩⟩⟩) ?_
          rintro _ H83 ⟨ar83, kr83, r83, F83, hF83, hs83, rfl, hrr83, rfl⟩
          refine ⟨Wr.did hs83.log, fun lg83 hlg83 => ?_⟩
          replace hs83 := HS.back hs82.log0 rfl hs83
          replace hs83 := HS.lg hs83 hs82 hlg83
          generalize ({ H83 with log := lg83 } : Heap) = H83g at hs83 ⊢
          have hs83 : HS _ _ _ [_, _, _, _, _] _ := hs83
          replace hT := hT.mono hF83
          replace hr79 := hr79.mono hF83
          replace hr82 := hr82.mono hF83
          replace hrl34 := hrl34.mono hF83
          replace hrr21 := hrr21.mono hF83
          replace hrr81 := hrr81.mono hF83
          replace hrx10 := hrx10.mono hF83
          replace hrx5_2 := hrx5_2.mono hF83
          replace hry10 := hry10.mono hF83
          replace lh52_9 := lh52_9.mono hF83
          replace s19_0 := s19_0.mono hF83
          replace s46_0 := s46_0.mono hF83
          replace s69_5 := s69_5.mono hF83
          replace s75_0 := s75_0.mono hF83
          replace s77_0 := s77_0.mono hF83
          refine wf_call (W := []) (ap_call rfl rfl rfl) rfl rfl rfl (m6.sameInts_c 15 (l34.getD k default) (uniV (minV (l34.getD (k + 1) default) (writesV (((x5.blocks.getD b default).ins).getD k default))) (readsV (((x5.blocks.getD b default).ins).getD k default))) (HS.call hs83.log0) s75_0 hrr83 hT (by omega)) (⟨.inl rfl, ⟨.inl rfl, ⟨.inl rfl, ⟨.inl rfl, ⟨.inl rfl, ⟨.inl rfl, ⟨.inl rfl, ⟨.inl rfl, ⟨.inl rfl, ⟨.inl rfl, ⟨.inl rfl, ⟨.inl rfl, ⟨.inl rfl, ⟨.inl rfl, ⟨.inl rfl, trivial⟩⟩⟩⟩⟩⟩⟩⟩⟩⟩⟩⟩⟩⟩⟩) ?_
          rintro _ _ ⟨r84, rfl, rfl, rfl⟩
          refine ⟨fun b hb => absurd hb List.not_mem_nil, fun lg84 hlg84 => ?_⟩
          have hs84 := HS.lg hs83.log0 hs83 hlg84
          generalize ({ { H83g with log := [] } with log := lg84 } : Heap) = H84g at hs84 ⊢
          refine wf_pure (v := (.bool (!(decide ((l34.getD k default) = (uniV (minV (l34.getD (k + 1) default) (writesV (((x5.blocks.getD b default).ins).getD k default))) (readsV (((x5.blocks.getD b default).ins).getD k default)))))))) (id := .v) (ap_not rfl) rfl rfl (did_v rfl) (okD_v _) ?_
          refine wf_nil ?_
          refine wk_foc 1 rfl ?_
          refine wk_iff 2 (v := (!(decide ((l34.getD k default) = (uniV (minV (l34.getD (k + 1) default) (writesV (((x5.blocks.getD b default).ins).getD k default))) (readsV (((x5.blocks.getD b default).ins).getD k default))))))) rfl (by rw [decide_eq_true e5]; rfl) rfl rfl ?_
          refine wr 1 [] 135 136 [15] [(15, (.int .i64 ((k : Int) + 1)))] (vA (vi (n := (k : Int) + 1) (by omega)) trivial) (by kernel_rfl) rfl fun gg85 => ?_
          refine ih63 _ _ _ ?_ ⟨k + 1, _, (Fz.le_trans (Fz.le_trans (Fz.le_trans (Fz.le_trans (Fz.le_trans (Fz.le_trans (hF63) hF78) hF79) hF80) hF81) hF82) hF83), (HS.sub hs84 (List.sublist_append_left _ _)), (agC rfl (agC rfl (agC rfl (agC rfl (agC rfl (agC rfl (agC rfl (agC rfl (agC rfl (agC rfl (agC rfl (agC rfl (agC rfl (agC rfl (agC rfl (agC rfl (agC rfl (agC rfl (agC rfl (agC rfl (agC rfl (agC rfl agN)))))))))))))))))))))), rfl, (by first | assumption | omega | (simp at *; omega))⟩
          omega
        · have c65 := c65b
          try simp only [BS] at c65
          refine wr 1 [] 49 50 [8] [(8, (.int .i64 ((b : Int) + 1)))] (vA (vi (n := (b : Int) + 1) (by omega)) trivial) (by kernel_rfl) rfl fun gg86 => ?_
          refine ih14 _ _ _ ?_ ⟨b + 1, _, (Fz.le_trans (Fz.le_trans (Fz.le_trans (Fz.le_trans (Fz.le_trans (hF14) hF21) hF23) hF34) hF52) hF63), (HS.sub hs63 (List.sublist_append_left _ _)), (agC rfl (agC rfl (agC rfl (agC rfl agN)))), rfl, (by first | assumption | omega | (simp at *; omega))⟩
          omega
  · have c16 := c16b
    try simp only [BS] at c16
    refine wr 1 [(0, .o (.bool true))] 4 4 [163] [(4, (.bool true))] (vA (ex_c_q 15 (HS.call hs14) hT) trivial) (by kernel_rfl) rfl fun gg87 => ?_
    refine wk_ret ⟨.inr rfl, _, rfl, true, _, (Fz.le_trans (Fz.le_trans (hF5) hF10) hF14), (HS.forget hs14), rfl, (by first | rfl | omega | simp_all)⟩
end Go.Proofs.YtlabedbmgmfbaaaDoor.le_
