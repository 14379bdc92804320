/-
  The law on which virtual code is valid, by a symbolic run. No condition but that the table lies as laid.
-/
import Derived.Test.YtlabedbmgmfbaaaDoorM9
import Derived.Test.YtlabedbmgmfbaaaDoorME
noncomputable section
namespace Go.Proofs.YtlabedbmgmfbaaaDoor.lv
open Go.R
set_option maxRecDepth 10000
set_option linter.unusedVariables false
theorem ql {H : Heap} {b o : Nat} {cs : List Value} {w : Value} (t : TypeId) (i : Nat) (hc : HC H.get b o cs) (ha : aggOf Tryd.prog t = some false) (hv : cs[i]? = some w) : LDv Tryd.prog H t (.pointer (some ⟨b, o + i, none⟩)) w := ld1 hc ha hv
theorem qn {H : Heap} {b o : Nat} {cs l : List Value} (t : TypeId) (i n : Nat) (hc : HC H.get b o cs) (ha : aggOf Tryd.prog t = some true) (hs : szOf Tryd.prog t = some n) (hn : Nat.ble (i + n) cs.length = true) (hl : takeL (dropL cs i) n = l) : LDv Tryd.prog H t (.pointer (some ⟨b, o + i, none⟩)) (.agg ⟨l⟩) := ldN hc ha hs hn hl
open m1 m2 m3 m4 m5 m6 m9 me
theorem vfG.oki {x : VFnT} {n : Int} (h : vfG x n) (j : Nat) : okI 6 (x.blocks.getD j default).ins := by
  refine ⟨Nat.le_trans (h.ins j) (by omega), fun z hz => ?_⟩
  have hv := h.val
  unfold valV at hv
  rw [Bool.and_eq_true] at hv
  rcases Nat.lt_or_ge j x.blocks.length with hj | hj
  · have hb := all_at hv.2 hj
    unfold blkV at hb
    rw [Bool.and_eq_true] at hb
    have hz2 := List.all_eq_true.1 hb.1 z hz
    unfold vinV at hz2
    simp only [Bool.and_eq_true, decide_eq_true_eq] at hz2
    omega
  · rw [getD_out hj] at hz; cases hz
theorem oki_up {m n : Nat} {y : List VInT} (h : okI m y) (hm : m ≤ n) : okI n y := ⟨h.1, fun z hz => Nat.le_trans (h.2 z hz) hm⟩
theorem raw_ok {x : VFnT} (h : bVFnT x) : ∀ j, (x.blocks.getD j default).ins.length ≤ 9223372036854775807 := fun j => by
  rcases Nat.lt_or_ge j x.blocks.length with hj | hj
  · have := (h.2.2.2 _ (by rw [List.getD_eq_getElem?_getD, List.getElem?_eq_getElem hj]; exact List.getElem_mem hj) : bBlkT (x.blocks.getD j default)).1.1
    exact Nat.le_trans this (by decide)
  · rw [getD_out hj]; exact Nat.zero_le _

theorem ex_c (_ : FuncId) {F : Fz} {H : Heap} {R : List Fp} (hs : HS (.of H []) F H [] R) (hT : TB 37 tabC F) : C Tryd.prog 1 (KT 60 38 37 tabC) 38 [] H fun v H' => ∃ (r : Bool), H' = H ∧ v = .bool r ∧ r = true :=
  ⟨0, .bool true, H, by unfold call callK; rw [(hT.heap hs).known (by decide)], true, rfl, rfl, rfl⟩
theorem ex_c_q (e : FuncId) {F : Fz} {H : Heap} {R : List Fp} (hs : HS (.of H []) F H [] R) (hT : TB 37 tabC F) : C Tryd.prog 1 (KT 60 38 37 tabC) 38 [] H fun v H' => v = .bool true ∧ H' = H := cq (ex_c e hs hT) (by rintro _ _ ⟨_, rfl, rfl, rfl⟩; exact ⟨rfl, rfl⟩)

set_option maxHeartbeats 2000000 in
theorem valid_law {araw_2 : Option Addr} {kraw_2 : Nat} (raw : VFnT) {a_l : Option Addr} {k_l : Nat} (l : List Int) (params : Int) (how : Int) (at_ : Int) (again : Int) {F : Fz} {H : Heap} {R : List Fp} (hs : HS (.of H []) F H [] R) (hraw_0 : in64 raw.params) (hraw_1 : in64 raw.regs) (hraw_2 : SR F (.slice araw_2 raw.blocks.length kraw_2) raw.blocks) (hl : SR F (.slice a_l l.length k_l) l) (hparams : in64 params) (hhow : in64 how) (hat_ : in64 at_) (hagain : in64 again) (hT : TB 37 tabC F) (hraw : ∀ j, (raw.blocks.getD j default).ins.length ≤ 9223372036854775807) : C Tryd.prog 1 (KT 60 38 37 tabC) 8 [(.agg ⟨[(.int .i64 raw.params), (.int .i64 raw.regs), (.slice araw_2 raw.blocks.length kraw_2)]⟩), (.slice a_l l.length k_l), (.int .i64 params), (.int .i64 how), (.int .i64 at_), (.int .i64 again)] H fun v H' => ∃ (r : Bool) (F' : Fz), Fz.le F F' ∧ HS (.of H []) F' H' [] R ∧ v = .bool r ∧ r = true := by
  refine c_enter Tryd.func8 rfl rfl ?_
  refine wk_foc 1 rfl ?_
  refine wk_region ?_
  refine wo_rs (rs_box hs rfl rfl) rfl rfl ?_
  rintro _ H2 _ ⟨b1, rfl, hs2, _⟩
  have hs2 : HS _ _ _ [[(b1, .cells [(.int .i64 raw.params), (.int .i64 raw.regs), (.slice araw_2 raw.blocks.length kraw_2)] none false)]] _ := hs2
  refine wa (.bool false) rfl rfl rfl ?_
  refine wo_end 3 rfl ?_
  refine wr 1 [(1, .o (.slice araw_2 raw.blocks.length kraw_2))] 16 19 [] [(19, (.bool (decide ((30 : Int) < (raw.blocks.length : Int)))))] (vA (ql 22 2 (HS.hc hs2 (i := 0) rfl) rfl rfl) trivial) (by kernel_rfl) rfl fun gg3 => ?_
  refine wk_if 1 2 (v := (decide ((30 : Int) < (raw.blocks.length : Int)))) rfl rfl rfl rfl (fun c4b => ?_) (fun c4b => ?_)
  · have c4 := c4b
    try simp only [BS] at c4
    refine wr 1 [(0, .o (.bool true))] 12 12 [20] [(12, (.bool true))] (vA (ex_c_q 38 (HS.call hs2) hT) trivial) (by kernel_rfl) rfl fun gg5 => ?_
    refine wk_ret ⟨.inr rfl, _, rfl, true, _, (Fz.le_refl _), (HS.forget hs2), rfl, (by first | rfl | simp)⟩
  · have c4 := c4b
    try simp only [BS] at c4
    refine wf_region rfl ?_
    refine fm (.slice a_l l.length k_l) rfl rfl rfl ?_
    refine fm (.slice a_l l.length k_l) rfl rfl rfl ?_
    refine wf_pure (v := (.int .i64 (l.length : Int))) (id := .x []) (ap_lenV (α := Int) rfl rfl (SR.sv hl hs2.log0)) rfl rfl (did_x (W := []) rfl rfl fun b hb => absurd hb List.not_mem_nil) (⟨.inl rfl, ⟨.inr trivial, trivial⟩⟩) ?_
    refine wf_pure (v := (.int .i64 (if (30 : Int) < (l.length : Int) then (30 : Int) else (l.length : Int)))) (id := .x []) (pmm_ok (w := true) rfl rfl rfl) rfl rfl (did_x (W := []) rfl rfl fun b hb => absurd hb List.not_mem_nil) (⟨.inl rfl, ⟨.inl rfl, ⟨.inr trivial, trivial⟩⟩⟩) ?_
    refine wf_rs (id := .q fun b => F b ≠ none) (rs_cutt (α := Int) (j := (if (30 : Int) < (l.length : Int) then (30 : Int) else (l.length : Int)).toNat) hl hs2.log0 rfl rfl rfl (optN (by omega)) (by omega)) rfl rfl (by rintro _ _ _ ⟨_, _, _, hH, _⟩; exact did_q rfl (SR.q hl)) (⟨.inl rfl, ⟨.inl rfl, ⟨.inl rfl, ⟨.inl rfl, trivial⟩⟩⟩⟩) ?_
    rintro _ _ _ ⟨a6, k6, rfl, hH6, hq6⟩ lg6 hlg6
    simp only at hH6; replace hH6 := hH6.symm; subst hH6
    have hs6 := HS.lg hs2.log0 hs2 hlg6
    generalize ({ { H2 with log := [] } with log := lg6 } : Heap) = H6g at hs6 ⊢
    refine fm (.int .i64 params) rfl rfl rfl ?_
    have fq7 := pick_imp params (3 : Int)
    refine wf_call (W := []) (ap_call rfl rfl rfl) rfl rfl rfl (m1.pick_c 38 params (3) _ (by omega)) (⟨.inl rfl, ⟨.inr (fun b hb => absurd hb List.not_mem_nil), ⟨.inr ⟨trivial, trivial⟩, ⟨.inr ⟨trivial, trivial⟩, ⟨.inr trivial, ⟨.inr trivial, trivial⟩⟩⟩⟩⟩⟩) ?_
    rintro _ _ ⟨r8, rfl, rfl, rfl⟩
    refine ⟨fun b hb => absurd hb List.not_mem_nil, fun lg8 hlg8 => ?_⟩
    have hs8 := HS.lg hs6.log0 hs6 hlg8
    generalize ({ { H6g with log := [] } with log := lg8 } : Heap) = H8g at hs8 ⊢
    refine wf_call (W := []) (ap_call rfl rfl rfl) rfl rfl rfl (m5.vf_c 38 (l.take ((if (30 : Int) < (l.length : Int) then (30 : Int) else (l.length : Int)).toNat)) (pickV params (3 : Int)) (HS.call hs8.log0) hq6 hT (by first | omega | (rw [List.length_take]; exact Nat.le_trans (Nat.min_le_left _ _) (by split <;> omega))) (by first | omega | (rw [List.length_take]; exact Nat.le_trans (Nat.min_le_left _ _) (by split <;> omega)))) (⟨.inl rfl, ⟨.inl rfl, ⟨.inl rfl, ⟨.inl rfl, ⟨.inl rfl, ⟨.inl rfl, ⟨.inl rfl, trivial⟩⟩⟩⟩⟩⟩⟩) ?_
    rintro _ H9 ⟨x9, ax9_2, kx9_2, F9, hF9, hs9, rfl, hgx9_0, hgx9_1, hrx9_2, h9⟩
    refine ⟨Wr.did hs9.log, fun lg9 hlg9 => ?_⟩
    replace hs9 := HS.back hs8.log0 rfl hs9
    replace hs9 := HS.lg hs9 hs8 hlg9
    generalize ({ H9 with log := lg9 } : Heap) = H9g at hs9 ⊢
    have hs9 : HS _ _ _ [_] _ := hs9
    replace hT := hT.mono hF9
    replace hl := hl.mono hF9
    replace hq6 := hq6.mono hF9
    replace hraw_2 := hraw_2.mono hF9
    refine wf_rs (id := .a) (rs_new hs9.log0 rfl) rfl rfl (fun _ _ _ _ => did_a rfl rfl rfl) (⟨.inr trivial, ⟨.inr trivial, ⟨.inr trivial, ⟨.inr trivial, ⟨.inr trivial, ⟨.inr trivial, ⟨.inr trivial, ⟨.inr trivial, trivial⟩⟩⟩⟩⟩⟩⟩⟩) ?_
    rintro _ H11 _ ⟨b10, rfl, hs11, _⟩ lg11 hlg11
    replace hs11 := HS.lg hs11 hs9 hlg11
    generalize ({ H11 with log := lg11 } : Heap) = H11g at hs11 ⊢
    have hs11 : HS _ _ _ [_, [(b10, .cells [(.int .i64 0), (.int .i64 0), (.slice none 0 0)] none false)]] _ := hs11
    refine wf_rk (id := .x [b10]) (rs_rec (q := 1) hs11.log0 rfl rfl rfl rfl rfl rfl rfl rfl rfl) rfl (by rintro _ _ _ ⟨_, hwr⟩; exact did_x rfl rfl (Wr.did hwr)) (⟨.inl rfl, ⟨.inl rfl, ⟨.inl rfl, ⟨.inl rfl, ⟨.inl rfl, ⟨.inl rfl, ⟨.inl rfl, ⟨.inl rfl, ⟨.inl rfl, trivial⟩⟩⟩⟩⟩⟩⟩⟩⟩) ?_
    rintro _ H12 _ ⟨hs12, _⟩ lg12 hlg12
    replace hs12 := HS.lg hs12 hs11 hlg12
    generalize ({ H12 with log := lg12 } : Heap) = H12g at hs12 ⊢
    have hs12 : HS _ _ _ [_, [(b10, .cells [(.int .i64 x9.params), (.int .i64 x9.regs), (.slice ax9_2 x9.blocks.length kx9_2)] none false)]] _ := hs12
    refine wf_nil ?_
    refine wk_foc 2 rfl ?_
    have hG : vfG x9 (pickV params 3) := by assumption
    have hins := hG.ins
    have hnb := hG.nb
    have ho : ∀ j, okI 6 (x9.blocks.getD j default).ins := fun j => vfG.oki hG j
    have htq : in64 (Int.tdiv at_ 3) := vq hat_ (by decide)
    refine wk_region ?_
    refine wro 3 0 [(0, .o (.agg ⟨[(.int .i64 x9.params), (.int .i64 x9.regs), (.slice ax9_2 x9.blocks.length kx9_2)]⟩))] 29 31 [] [(29, (.agg ⟨[(.int .i64 x9.params), (.int .i64 x9.regs), (.slice ax9_2 x9.blocks.length kx9_2)]⟩)), (30, (.int .i64 how)), (31, (.int .i64 at_))] (vA (qn 24 0 3 (HS.hc hs12 (i := 1) rfl) rfl rfl rfl rfl) trivial) (by kernel_rfl) rfl fun gg13 => ?_
    refine wo_call (ap_call rfl rfl rfl) rfl rfl (m9.mut_c 38 x9 how at_ (HS.call hs12) (by omega) (by omega) hrx9_2 (by omega) (by omega) hT (by first | omega | exact fun j => oki_up (ho j) (by omega) | exact hx2) (by first | omega | exact fun j => oki_up (ho j) (by omega) | exact hx2)) ?_
    rintro _ H14 ⟨x14, ax14_2, kx14_2, F14, hF14, hs14, rfl, hgx14_0, hgx14_1, hrx14_2, h114, h214⟩
    replace hs14 := HS.back hs12 rfl hs14
    have hs14 : HS _ _ _ [_, _] _ := hs14
    replace hT := hT.mono hF14
    replace hl := hl.mono hF14
    replace hq6 := hq6.mono hF14
    replace hraw_2 := hraw_2.mono hF14
    replace hrx9_2 := hrx9_2.mono hF14
    refine wo_rs (rs_new hs14 rfl) rfl rfl ?_
    rintro _ H16 _ ⟨b15, rfl, hs16, _⟩
    have hs16 : HS _ _ _ [_, _, [(b15, .cells [(.int .i64 0), (.int .i64 0), (.slice none 0 0)] none false)]] _ := hs16
    refine wo_rk (rs_rec (q := 2) hs16 rfl rfl rfl rfl rfl rfl rfl rfl rfl) rfl ?_
    rintro _ H17 _ ⟨hs17, _⟩
    have hs17 : HS _ _ _ [_, _, [(b15, .cells [(.int .i64 x14.params), (.int .i64 x14.regs), (.slice ax14_2 x14.blocks.length kx14_2)] none false)]] _ := hs17
    refine wo_end 3 rfl ?_
    have hx1 : x14.blocks.length ≤ 1000 := by assumption
    have hx2 : ∀ j, okI 7 (x14.blocks.getD j default).ins := (by assumption : ∀ m, (∀ j, okI m (x9.blocks.getD j default).ins) → ∀ j, okI (m + 1) (x14.blocks.getD j default).ins) 6 ho
    refine wk_rcut 33 49 [] [(49, (.bool (((!(valV x9)) || (valV raw != valV raw)) || (valV x14 != valV x14))))] (fun H' => ∃ F', Fz.le F14 F' ∧ HS (Base.of H []) F' H' [[(b1, .cells [(.int .i64 raw.params), (.int .i64 raw.regs), (.slice araw_2 raw.blocks.length kraw_2)] none false)], [(b10, .cells [(.int .i64 x9.params), (.int .i64 x9.regs), (.slice ax9_2 x9.blocks.length kx9_2)] none false)], [(b15, .cells [(.int .i64 x14.params), (.int .i64 x14.regs), (.slice ax14_2 x14.blocks.length kx14_2)] none false)]] R) ?_ ?_
    · skip
      refine wf_region rfl ?_
      refine wf_pure (v := (.agg ⟨[(.int .i64 x9.params), (.int .i64 x9.regs), (.slice ax9_2 x9.blocks.length kx9_2)]⟩)) (id := .l b10) (ap_ldN (i := 0) rfl rfl rfl (HS.hc hs17.log0 (i := 1) rfl) rfl rfl rfl) rfl rfl (did_l rfl) trivial ?_
      refine wf_call (W := []) (ap_call rfl rfl rfl) rfl rfl rfl (m3.valid_c 38 x9 (HS.call hs17.log0) (by omega) (by omega) hrx9_2 hT (by first | exact hraw | exact fun j => Nat.le_trans (hins j) (by omega) | exact fun j => Nat.le_trans (hx2 j).1 (by omega) | exact fun j => Nat.le_trans (hy2 j).1 (by omega))) (⟨.inl rfl, trivial⟩) ?_
      rintro _ H24 ⟨r24, F24, hF24, hs24, rfl, rfl⟩
      refine ⟨Wr.did hs24.log, fun lg24 hlg24 => ?_⟩
      replace hs24 := HS.back hs17.log0 rfl hs24
      replace hs24 := HS.lg hs24 hs17 hlg24
      generalize ({ H24 with log := lg24 } : Heap) = H24g at hs24 ⊢
      have hs24 : HS _ _ _ [_, _, _] _ := hs24
      replace hT := hT.mono hF24
      replace hl := hl.mono hF24
      replace hq6 := hq6.mono hF24
      replace hraw_2 := hraw_2.mono hF24
      replace hrx14_2 := hrx14_2.mono hF24
      replace hrx9_2 := hrx9_2.mono hF24
      refine wf_pure (v := (.bool (!(valV x9)))) (id := .v) (ap_not rfl) rfl rfl (did_v rfl) (okD_v _) ?_
      refine fm (.bool (!(valV x9))) rfl rfl rfl ?_
      refine wf_gsF (v := (!(valV x9))) rfl rfl (fun g25 => ?_) (fun g25 => ?_)
      · have pg25 := g25
        try simp only [BS] at pg25
        refine wf_pure (v := (.agg ⟨[(.int .i64 raw.params), (.int .i64 raw.regs), (.slice araw_2 raw.blocks.length kraw_2)]⟩)) (id := .l b1) (ap_ldN (i := 0) rfl rfl rfl (HS.hc hs24.log0 (i := 0) rfl) rfl rfl rfl) rfl rfl (did_l rfl) (⟨.inl rfl, ⟨.inl rfl, ⟨.inl rfl, ⟨.inl rfl, trivial⟩⟩⟩⟩) ?_
        refine wf_gt rfl g25 ?_
        refine wf_call (W := []) (ap_call rfl rfl rfl) rfl rfl rfl (m3.valid_c 38 raw (HS.call hs24.log0) (by omega) (by omega) hraw_2 hT (by first | exact hraw | exact fun j => Nat.le_trans (hins j) (by omega) | exact fun j => Nat.le_trans (hx2 j).1 (by omega) | exact fun j => Nat.le_trans (hy2 j).1 (by omega))) (⟨.inl rfl, ⟨.inl rfl, ⟨.inl rfl, ⟨.inl rfl, ⟨.inl rfl, trivial⟩⟩⟩⟩⟩) ?_
        rintro _ H26 ⟨r26, F26, hF26, hs26, rfl, rfl⟩
        refine ⟨Wr.did hs26.log, fun lg26 hlg26 => ?_⟩
        replace hs26 := HS.back hs24.log0 rfl hs26
        replace hs26 := HS.lg hs26 hs24 hlg26
        generalize ({ H26 with log := lg26 } : Heap) = H26g at hs26 ⊢
        have hs26 : HS _ _ _ [_, _, _] _ := hs26
        replace hT := hT.mono hF26
        replace hl := hl.mono hF26
        replace hq6 := hq6.mono hF26
        replace hraw_2 := hraw_2.mono hF26
        replace hrx14_2 := hrx14_2.mono hF26
        replace hrx9_2 := hrx9_2.mono hF26
        refine wf_gt rfl g25 ?_
        refine wf_pure (v := (.agg ⟨[(.int .i64 raw.params), (.int .i64 raw.regs), (.slice araw_2 raw.blocks.length kraw_2)]⟩)) (id := .l b1) (ap_ldN (i := 0) rfl rfl rfl (HS.hc hs26.log0 (i := 0) rfl) rfl rfl rfl) rfl rfl (did_l rfl) (⟨.inr List.not_mem_nil, ⟨.inr trivial, ⟨.inl rfl, ⟨.inl rfl, ⟨.inl rfl, ⟨.inl rfl, trivial⟩⟩⟩⟩⟩⟩) ?_
        refine wf_gt rfl g25 ?_
        refine wf_call (W := []) (ap_call rfl rfl rfl) rfl rfl rfl (m3.rvalid_c 38 raw (HS.call hs26.log0) (by omega) (by omega) hraw_2 hT (by first | exact hraw | exact fun j => Nat.le_trans (hins j) (by omega) | exact fun j => Nat.le_trans (hx2 j).1 (by omega) | exact fun j => Nat.le_trans (hy2 j).1 (by omega))) (⟨.inl rfl, ⟨.inl rfl, ⟨.inl rfl, ⟨.inl rfl, ⟨.inl rfl, ⟨.inl rfl, ⟨.inl rfl, trivial⟩⟩⟩⟩⟩⟩⟩) ?_
        rintro _ H27 ⟨r27, F27, hF27, hs27, rfl, rfl⟩
        refine ⟨Wr.did hs27.log, fun lg27 hlg27 => ?_⟩
        replace hs27 := HS.back hs26.log0 rfl hs27
        replace hs27 := HS.lg hs27 hs26 hlg27
        generalize ({ H27 with log := lg27 } : Heap) = H27g at hs27 ⊢
        have hs27 : HS _ _ _ [_, _, _] _ := hs27
        replace hT := hT.mono hF27
        replace hl := hl.mono hF27
        replace hq6 := hq6.mono hF27
        replace hraw_2 := hraw_2.mono hF27
        replace hrx14_2 := hrx14_2.mono hF27
        replace hrx9_2 := hrx9_2.mono hF27
        refine wf_gt rfl g25 ?_
        refine wf_pure (v := (.bool (valV raw != valV raw))) (id := .v) (ap_boolNe rfl rfl (fun a b => by cases a <;> cases b <;> kernel_rfl)) rfl rfl (did_v rfl) (okD_v _) ?_
        refine wf_pure (v := (.bool (valV raw != valV raw))) (id := .v) (ap_pickF rfl g25 rfl) rfl rfl (did_v rfl) (okD_v _) ?_
        refine fm (.bool (valV raw != valV raw)) rfl rfl rfl ?_
        refine wf_gsF (v := (valV raw != valV raw)) rfl rfl (fun g28 => ?_) (fun g28 => ?_)
        · have pg28 := g28
          try simp only [BS] at pg28
          refine wf_pure (v := (.agg ⟨[(.int .i64 x14.params), (.int .i64 x14.regs), (.slice ax14_2 x14.blocks.length kx14_2)]⟩)) (id := .l b15) (ap_ldN (i := 0) rfl rfl rfl (HS.hc hs27.log0 (i := 2) rfl) rfl rfl rfl) rfl rfl (did_l rfl) (⟨.inl rfl, ⟨.inl rfl, ⟨.inl rfl, ⟨.inl rfl, ⟨.inl rfl, ⟨.inl rfl, ⟨.inl rfl, ⟨.inl rfl, ⟨.inl rfl, ⟨.inl rfl, ⟨.inl rfl, trivial⟩⟩⟩⟩⟩⟩⟩⟩⟩⟩⟩) ?_
          refine wf_gt rfl g28 ?_
          refine wf_call (W := []) (ap_call rfl rfl rfl) rfl rfl rfl (m3.valid_c 38 x14 (HS.call hs27.log0) (by omega) (by omega) hrx14_2 hT (by first | exact hraw | exact fun j => Nat.le_trans (hins j) (by omega) | exact fun j => Nat.le_trans (hx2 j).1 (by omega) | exact fun j => Nat.le_trans (hy2 j).1 (by omega))) (⟨.inl rfl, ⟨.inl rfl, ⟨.inl rfl, ⟨.inl rfl, ⟨.inl rfl, ⟨.inl rfl, ⟨.inl rfl, ⟨.inl rfl, ⟨.inl rfl, ⟨.inl rfl, ⟨.inl rfl, ⟨.inl rfl, trivial⟩⟩⟩⟩⟩⟩⟩⟩⟩⟩⟩⟩) ?_
          rintro _ H29 ⟨r29, F29, hF29, hs29, rfl, rfl⟩
          refine ⟨Wr.did hs29.log, fun lg29 hlg29 => ?_⟩
          replace hs29 := HS.back hs27.log0 rfl hs29
          replace hs29 := HS.lg hs29 hs27 hlg29
          generalize ({ H29 with log := lg29 } : Heap) = H29g at hs29 ⊢
          have hs29 : HS _ _ _ [_, _, _] _ := hs29
          replace hT := hT.mono hF29
          replace hl := hl.mono hF29
          replace hq6 := hq6.mono hF29
          replace hraw_2 := hraw_2.mono hF29
          replace hrx14_2 := hrx14_2.mono hF29
          replace hrx9_2 := hrx9_2.mono hF29
          refine wf_gt rfl g28 ?_
          refine wf_pure (v := (.agg ⟨[(.int .i64 x14.params), (.int .i64 x14.regs), (.slice ax14_2 x14.blocks.length kx14_2)]⟩)) (id := .l b15) (ap_ldN (i := 0) rfl rfl rfl (HS.hc hs29.log0 (i := 2) rfl) rfl rfl rfl) rfl rfl (did_l rfl) (⟨.inr List.not_mem_nil, ⟨.inr trivial, ⟨.inl rfl, ⟨.inl rfl, ⟨.inl rfl, ⟨.inl rfl, ⟨.inl rfl, ⟨.inl rfl, ⟨.inl rfl, ⟨.inl rfl, ⟨.inl rfl, ⟨.inl rfl, ⟨.inl rfl, trivial⟩⟩⟩⟩⟩⟩⟩⟩⟩⟩⟩⟩⟩) ?_
          refine wf_gt rfl g28 ?_
          refine wf_call (W := []) (ap_call rfl rfl rfl) rfl rfl rfl (m3.rvalid_c 38 x14 (HS.call hs29.log0) (by omega) (by omega) hrx14_2 hT (by first | exact hraw | exact fun j => Nat.le_trans (hins j) (by omega) | exact fun j => Nat.le_trans (hx2 j).1 (by omega) | exact fun j => Nat.le_trans (hy2 j).1 (by omega))) (⟨.inl rfl, ⟨.inl rfl, ⟨.inl rfl, ⟨.inl rfl, ⟨.inl rfl, ⟨.inl rfl, ⟨.inl rfl, ⟨.inl rfl, ⟨.inl rfl, ⟨.inl rfl, ⟨.inl rfl, ⟨.inl rfl, ⟨.inl rfl, ⟨.inl rfl, trivial⟩⟩⟩⟩⟩⟩⟩⟩⟩⟩⟩⟩⟩⟩) ?_
          rintro _ H30 ⟨r30, F30, hF30, hs30, rfl, rfl⟩
          refine ⟨Wr.did hs30.log, fun lg30 hlg30 => ?_⟩
          replace hs30 := HS.back hs29.log0 rfl hs30
          replace hs30 := HS.lg hs30 hs29 hlg30
          generalize ({ H30 with log := lg30 } : Heap) = H30g at hs30 ⊢
          have hs30 : HS _ _ _ [_, _, _] _ := hs30
          replace hT := hT.mono hF30
          replace hl := hl.mono hF30
          replace hq6 := hq6.mono hF30
          replace hraw_2 := hraw_2.mono hF30
          replace hrx14_2 := hrx14_2.mono hF30
          replace hrx9_2 := hrx9_2.mono hF30
          refine wf_gt rfl g28 ?_
          refine wf_pure (v := (.bool (valV x14 != valV x14))) (id := .v) (ap_boolNe rfl rfl (fun a b => by cases a <;> cases b <;> kernel_rfl)) rfl rfl (did_v rfl) (okD_v _) ?_
          refine wf_pure (v := (.bool (valV x14 != valV x14))) (id := .v) (ap_pickF rfl g28 rfl) rfl rfl (did_v rfl) (okD_v _) ?_
          refine wf_nil ?_
          exact wk_skip_nil ⟨rfl, ⟨_, (Fz.le_trans (Fz.le_trans (Fz.le_trans (Fz.le_trans (Fz.le_trans (Fz.le_refl _) hF24) hF26) hF27) hF29) hF30), HS.sub hs30 (List.Sublist.refl _)⟩, (Lu rfl (Lu rfl (Lu rfl (Lu rfl (Lu rfl (Lu rfl (Lu rfl (Lu rfl (Lu rfl (Lu rfl (Lu rfl (Lu rfl (Lu rfl (Lu rfl (Lu rfl (Lu rfl (Lu rfl Lr))))))))))))))))), (agC (congrArg Value.bool (show (valV x14 != valV x14) = (((!(valV x9)) || (valV raw != valV raw)) || (valV x14 != valV x14)) by first | rfl | simp only [↓g25, ↓g28, BT] | grind)) agN)⟩
        · have pg28 := g28
          try simp only [BS] at pg28
          refine wf_gf rfl g28 rfl ?_
          refine wf_gf rfl g28 rfl ?_
          refine wf_gf rfl g28 rfl ?_
          refine wf_gf rfl g28 rfl ?_
          refine wf_pure (v := (.bool true)) (id := .v) (ap_pickT rfl g28 rfl) rfl rfl (did_v rfl) (okD_v _) ?_
          refine wf_nil ?_
          exact wk_skip_nil ⟨rfl, ⟨_, (Fz.le_trans (Fz.le_trans (Fz.le_trans (Fz.le_refl _) hF24) hF26) hF27), HS.sub hs27 (List.Sublist.refl _)⟩, (Lu rfl (Lu rfl (Lu rfl (Lu rfl (Lu rfl (Lu rfl (Lu rfl (Lu rfl (Lu rfl (Lu rfl (Lu rfl (Lu rfl (Lu rfl (Lu rfl (Lu rfl (Lu rfl (Lu rfl Lr))))))))))))))))), (agC (congrArg Value.bool (show true = (((!(valV x9)) || (valV raw != valV raw)) || (valV x14 != valV x14)) by first | rfl | simp only [↓g25, ↓g28, BT] | grind)) agN)⟩
      · have pg25 := g25
        try simp only [BS] at pg25
        refine wf_gf rfl g25 rfl ?_
        refine wf_gf rfl g25 rfl ?_
        refine wf_gf rfl g25 rfl ?_
        refine wf_gf rfl g25 rfl ?_
        refine wf_pure (v := (.bool true)) (id := .v) (ap_pickT rfl g25 rfl) rfl rfl (did_v rfl) (okD_v _) ?_
        refine fm (.bool true) rfl rfl rfl ?_
        refine wf_gf rfl rfl rfl ?_
        refine wf_gf rfl rfl rfl ?_
        refine wf_gf rfl rfl rfl ?_
        refine wf_gf rfl rfl rfl ?_
        refine wf_gf rfl rfl rfl ?_
        refine wf_pure (v := (.bool true)) (id := .v) (ap_pickT rfl rfl rfl) rfl rfl (did_v rfl) (okD_v _) ?_
        refine wf_nil ?_
        exact wk_skip_nil ⟨rfl, ⟨_, (Fz.le_trans (Fz.le_refl _) hF24), HS.sub hs24 (List.Sublist.refl _)⟩, (Lu rfl (Lu rfl (Lu rfl (Lu rfl (Lu rfl (Lu rfl (Lu rfl (Lu rfl (Lu rfl (Lu rfl (Lu rfl (Lu rfl (Lu rfl (Lu rfl (Lu rfl (Lu rfl (Lu rfl Lr))))))))))))))))), (agC (congrArg Value.bool (show true = (((!(valV x9)) || (valV raw != valV raw)) || (valV x14 != valV x14)) by first | rfl | simp only [↓g25, BT] | grind)) agN)⟩
    · skip
      rintro g23 H23 ⟨F23, hF23, hs23⟩
      replace hT := hT.mono hF23
      replace hl := hl.mono hF23
      replace hq6 := hq6.mono hF23
      replace hraw_2 := hraw_2.mono hF23
      replace hrx14_2 := hrx14_2.mono hF23
      replace hrx9_2 := hrx9_2.mono hF23
      refine wk_foc 1 rfl ?_
      refine wk_iff 3 (v := (((!(valV x9)) || (valV raw != valV raw)) || (valV x14 != valV x14))) rfl (by rw [hG.val]; simp) rfl rfl ?_
      refine wr 1 [(1, .o (.slice ax14_2 x14.blocks.length kx14_2))] 50 53 [] [(53, (.bool ((x14.blocks.length : Int) == 0)))] (vA (ql 22 2 (HS.hc hs23 (i := 2) rfl) rfl rfl) trivial) (by kernel_rfl) rfl fun gg31 => ?_
      refine wk_if 1 2 (v := ((x14.blocks.length : Int) == 0)) rfl rfl rfl rfl (fun c32b => ?_) (fun c32b => ?_)
      · have c32 := c32b
        try simp only [BS] at c32
        refine wr 1 [(0, .o (.bool true))] 12 12 [54] [(12, (.bool true))] (vA (ex_c_q 38 (HS.call hs23) hT) trivial) (by kernel_rfl) rfl fun gg33 => ?_
        refine wk_ret ⟨.inr rfl, _, rfl, true, _, (Fz.le_trans (Fz.le_trans (hF9) hF14) hF23), (HS.forget hs23), rfl, (by first | rfl | simp)⟩
      · have c32 := c32b
        try simp only [BS] at c32
        refine wk_region ?_
        have tq34 : in64 at_ → in64 (Int.tdiv at_ 3) := fun h => vq h (by decide)
        refine wro 4 0 [(0, .o (.agg ⟨[(.int .i64 x14.params), (.int .i64 x14.regs), (.slice ax14_2 x14.blocks.length kx14_2)]⟩))] 55 58 [] [(55, (.agg ⟨[(.int .i64 x14.params), (.int .i64 x14.regs), (.slice ax14_2 x14.blocks.length kx14_2)]⟩)), (56, (.int .i64 again)), (58, (.int .i64 (Int.tdiv at_ 3)))] (vA (qn 24 0 3 (HS.hc hs23 (i := 2) rfl) rfl rfl rfl rfl) (vA (vA (show (3 : Int) ≠ 0 from by decide) (vq (a := at_) (b := 3) (by omega) (by decide))) trivial)) (by kernel_rfl) rfl fun gg35 => ?_
        refine wo_call (ap_call rfl rfl rfl) rfl rfl (m9.mut_c 38 x14 again (Int.tdiv at_ 3) (HS.call hs23) (by omega) (by omega) hrx14_2 (by omega) (by omega) hT (by first | omega | exact fun j => oki_up (ho j) (by omega) | exact hx2) (by first | omega | exact fun j => oki_up (ho j) (by omega) | exact hx2)) ?_
        rintro _ H36 ⟨x36, ax36_2, kx36_2, F36, hF36, hs36, rfl, hgx36_0, hgx36_1, hrx36_2, h136, h236⟩
        replace hs36 := HS.back hs23 rfl hs36
        have hs36 : HS _ _ _ [_, _, _] _ := hs36
        replace hT := hT.mono hF36
        replace hl := hl.mono hF36
        replace hq6 := hq6.mono hF36
        replace hraw_2 := hraw_2.mono hF36
        replace hrx14_2 := hrx14_2.mono hF36
        replace hrx9_2 := hrx9_2.mono hF36
        refine wo_rs (rs_new hs36 rfl) rfl rfl ?_
        rintro _ H38 _ ⟨b37, rfl, hs38, _⟩
        have hs38 : HS _ _ _ [_, _, _, [(b37, .cells [(.int .i64 0), (.int .i64 0), (.slice none 0 0)] none false)]] _ := hs38
        refine wo_rk (rs_rec (q := 3) hs38 rfl rfl rfl rfl rfl rfl rfl rfl rfl) rfl ?_
        rintro _ H39 _ ⟨hs39, _⟩
        have hs39 : HS _ _ _ [_, _, _, [(b37, .cells [(.int .i64 x36.params), (.int .i64 x36.regs), (.slice ax36_2 x36.blocks.length kx36_2)] none false)]] _ := hs39
        refine wo_end 2 rfl ?_
        have hy2 : ∀ j, okI 8 (x36.blocks.getD j default).ins := (by assumption : ∀ m, (∀ j, okI m (x14.blocks.getD j default).ins) → ∀ j, okI (m + 1) (x36.blocks.getD j default).ins) 7 hx2
        refine wk_rcut 12 67 [] [(12, (.bool (valV x36 == valV x36)))] (fun H' => ∃ F', Fz.le F36 F' ∧ HS (Base.of H []) F' H' [[(b1, .cells [(.int .i64 raw.params), (.int .i64 raw.regs), (.slice araw_2 raw.blocks.length kraw_2)] none false)], [(b10, .cells [(.int .i64 x9.params), (.int .i64 x9.regs), (.slice ax9_2 x9.blocks.length kx9_2)] none false)], [(b15, .cells [(.int .i64 x14.params), (.int .i64 x14.regs), (.slice ax14_2 x14.blocks.length kx14_2)] none false)], [(b37, .cells [(.int .i64 x36.params), (.int .i64 x36.regs), (.slice ax36_2 x36.blocks.length kx36_2)] none false)]] R) ?_ ?_
        · skip
          refine wf_region rfl ?_
          refine wf_pure (v := (.agg ⟨[(.int .i64 x36.params), (.int .i64 x36.regs), (.slice ax36_2 x36.blocks.length kx36_2)]⟩)) (id := .l b37) (ap_ldN (i := 0) rfl rfl rfl (HS.hc hs39.log0 (i := 3) rfl) rfl rfl rfl) rfl rfl (did_l rfl) trivial ?_
          refine wf_call (W := []) (ap_call rfl rfl rfl) rfl rfl rfl (m3.valid_c 38 x36 (HS.call hs39.log0) (by omega) (by omega) hrx36_2 hT (by first | exact hraw | exact fun j => Nat.le_trans (hins j) (by omega) | exact fun j => Nat.le_trans (hx2 j).1 (by omega) | exact fun j => Nat.le_trans (hy2 j).1 (by omega))) (⟨.inl rfl, trivial⟩) ?_
          rintro _ H44 ⟨r44, F44, hF44, hs44, rfl, rfl⟩
          refine ⟨Wr.did hs44.log, fun lg44 hlg44 => ?_⟩
          replace hs44 := HS.back hs39.log0 rfl hs44
          replace hs44 := HS.lg hs44 hs39 hlg44
          generalize ({ H44 with log := lg44 } : Heap) = H44g at hs44 ⊢
          have hs44 : HS _ _ _ [_, _, _, _] _ := hs44
          replace hT := hT.mono hF44
          replace hl := hl.mono hF44
          replace hq6 := hq6.mono hF44
          replace hraw_2 := hraw_2.mono hF44
          replace hrx14_2 := hrx14_2.mono hF44
          replace hrx36_2 := hrx36_2.mono hF44
          replace hrx9_2 := hrx9_2.mono hF44
          refine wf_pure (v := (.agg ⟨[(.int .i64 x36.params), (.int .i64 x36.regs), (.slice ax36_2 x36.blocks.length kx36_2)]⟩)) (id := .l b37) (ap_ldN (i := 0) rfl rfl rfl (HS.hc hs44.log0 (i := 3) rfl) rfl rfl rfl) rfl rfl (did_l rfl) (⟨.inr List.not_mem_nil, ⟨.inr trivial, trivial⟩⟩) ?_
          refine wf_call (W := []) (ap_call rfl rfl rfl) rfl rfl rfl (m3.rvalid_c 38 x36 (HS.call hs44.log0) (by omega) (by omega) hrx36_2 hT (by first | exact hraw | exact fun j => Nat.le_trans (hins j) (by omega) | exact fun j => Nat.le_trans (hx2 j).1 (by omega) | exact fun j => Nat.le_trans (hy2 j).1 (by omega))) (⟨.inl rfl, ⟨.inl rfl, ⟨.inl rfl, trivial⟩⟩⟩) ?_
          rintro _ H45 ⟨r45, F45, hF45, hs45, rfl, rfl⟩
          refine ⟨Wr.did hs45.log, fun lg45 hlg45 => ?_⟩
          replace hs45 := HS.back hs44.log0 rfl hs45
          replace hs45 := HS.lg hs45 hs44 hlg45
          generalize ({ H45 with log := lg45 } : Heap) = H45g at hs45 ⊢
          have hs45 : HS _ _ _ [_, _, _, _] _ := hs45
          replace hT := hT.mono hF45
          replace hl := hl.mono hF45
          replace hq6 := hq6.mono hF45
          replace hraw_2 := hraw_2.mono hF45
          replace hrx14_2 := hrx14_2.mono hF45
          replace hrx36_2 := hrx36_2.mono hF45
          replace hrx9_2 := hrx9_2.mono hF45
          refine wf_pure (v := (.bool (valV x36 == valV x36))) (id := .v) (ap_boolEq rfl rfl (fun a b => by cases a <;> cases b <;> kernel_rfl)) rfl rfl (did_v rfl) (okD_v _) ?_
          refine fm (.bool (valV x36 == valV x36)) rfl rfl rfl ?_
          refine wf_gsT (v := (valV x36 == valV x36)) rfl rfl (fun g46 => ?_) (fun g46 => ?_)
          · have pg46 := g46
            try simp only [BS] at pg46
            refine wf_call (W := []) (ap_call rfl rfl rfl) rfl rfl rfl (ex_c 38 (HS.call hs45.log0) hT) (⟨.inl rfl, ⟨.inl rfl, ⟨.inl rfl, ⟨.inl rfl, ⟨.inl rfl, ⟨.inl rfl, trivial⟩⟩⟩⟩⟩⟩) ?_
            rintro _ _ ⟨r47, rfl, rfl, rfl⟩
            refine ⟨fun b hb => absurd hb List.not_mem_nil, fun lg47 hlg47 => ?_⟩
            have hs47 := HS.lg hs45.log0 hs45 hlg47
            generalize ({ { H45g with log := [] } with log := lg47 } : Heap) = H47g at hs47 ⊢
            refine wf_pure (v := (.bool true)) (id := .v) (ap_pickT rfl g46 rfl) rfl rfl (did_v rfl) (okD_v _) ?_
            refine fa (.bool true) rfl rfl rfl ?_
            refine wf_nil ?_
            exact wk_skip_nil ⟨rfl, ⟨_, (Fz.le_trans (Fz.le_trans (Fz.le_refl _) hF44) hF45), HS.sub hs47 (List.Sublist.refl _)⟩, (Lu rfl (Lu rfl (Lu rfl (Lu rfl (Lu rfl (Lu rfl (Lu rfl (Lu rfl (Lu rfl Lr))))))))), (agC (congrArg Value.bool (show true = (valV x36 == valV x36) by first | rfl | simp only [↓g46, BT] | grind)) agN)⟩
          · have pg46 := g46
            try simp only [BS] at pg46
            refine wf_pure (v := (.bool false)) (id := .v) (ap_pickF rfl g46 rfl) rfl rfl (did_v rfl) (okD_v _) ?_
            refine fa (.bool false) rfl rfl rfl ?_
            refine wf_nil ?_
            exact wk_skip_nil ⟨rfl, ⟨_, (Fz.le_trans (Fz.le_trans (Fz.le_refl _) hF44) hF45), HS.sub hs45 (List.Sublist.refl _)⟩, (Lu rfl (Lu rfl (Lu rfl (Lu rfl (Lu rfl (Lu rfl (Lu rfl (Lu rfl (Lu rfl Lr))))))))), (agC (congrArg Value.bool (show false = (valV x36 == valV x36) by first | rfl | simp only [↓g46, BT] | grind)) agN)⟩
        · skip
          rintro g43 H43 ⟨F43, hF43, hs43⟩
          replace hT := hT.mono hF43
          replace hl := hl.mono hF43
          replace hq6 := hq6.mono hF43
          replace hraw_2 := hraw_2.mono hF43
          replace hrx14_2 := hrx14_2.mono hF43
          replace hrx36_2 := hrx36_2.mono hF43
          replace hrx9_2 := hrx9_2.mono hF43
          refine wk_foc 1 rfl ?_
          refine wk_ret ⟨.inr rfl, _, rfl, (valV x36 == valV x36), _, (Fz.le_trans (Fz.le_trans (Fz.le_trans (Fz.le_trans (hF9) hF14) hF23) hF36) hF43), (HS.forget hs43), rfl, (by first | rfl | simp)⟩
end Go.Proofs.YtlabedbmgmfbaaaDoor.lv
