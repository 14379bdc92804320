/-
  The law on the operands of instructions of virtual code, by a symbolic run. No condition but that the table lies as laid and a bound on a length.
-/
import Derived.Test.YtlabedbmgmfbaaaDoorZM9
import Derived.Test.YtlabedbmgmfbaaaDoorZMA
import Derived.Test.YtlabedbmgmfbaaaDoorZME
noncomputable section
namespace Go.Proofs.YtlabedbmgmfbaaaDoor.lo_
open Go.R
set_option maxRecDepth 10000
set_option linter.unusedVariables false
theorem ql {H : Heap} {b o : Nat} {cs : List Value} {w : Value} (t : TypeId) (i : Nat) (hc : HC H.get b o cs) (ha : aggOf Tryd.prog t = some false) (hv : cs[i]? = some w) : LDv Tryd.prog H t (.pointer (some ⟨b, o + i, none⟩)) w := ld1 hc ha hv
theorem qn {H : Heap} {b o : Nat} {cs l : List Value} (t : TypeId) (i n : Nat) (hc : HC H.get b o cs) (ha : aggOf Tryd.prog t = some true) (hs : szOf Tryd.prog t = some n) (hn : Nat.ble (i + n) cs.length = true) (hl : takeL (dropL cs i) n = l) : LDv Tryd.prog H t (.pointer (some ⟨b, o + i, none⟩)) (.agg ⟨l⟩) := ldN hc ha hs hn hl
open m1 m2 m3 m4 m5 m6 m9 ma me
theorem vfG.oki {x : VFnT} {n : Int} (h : vfG x n) (j : Nat) : okI 6 (x.blocks.getD j default).ins := by
  refine ⟨Nat.le_trans (h.ins j) (by omega), fun z hz => ?_⟩
  have hv := h.val
  unfold valV at hv
  rw [Bool.and_eq_true] at hv
  rcases Nat.lt_or_ge j x.blocks.length with hj | hj
  · have hb := all_at hv.2 hj
    unfold blkV at hb
    rw [Bool.and_eq_true] at hb
    have hz2 := List.all_eq_true.1 hb.1 z hz
    unfold vinV at hz2
    simp only [Bool.and_eq_true, decide_eq_true_eq] at hz2
    omega
  · rw [getD_out hj] at hz; cases hz
theorem oki_up {m n : Nat} {y : List VInT} (h : okI m y) (hm : m ≤ n) : okI n y := ⟨h.1, fun z hz => Nat.le_trans (h.2 z hz) hm⟩
theorem vin_args {p r : Int} {v : VInT} (h : vinV p r v = true) : v.args.length ≤ 1048576 := by
  unfold vinV at h
  simp only [Bool.and_eq_true, decide_eq_true_eq] at h
  omega
theorem succ_len {b : BlkT} : (succV b).length ≤ 2 := by
  unfold succV
  split
  · simp
  · split
    · exact ins_len
    · simp
theorem args_two {x y : VInT} (hx : x.args.length ≤ 1048576) (hy : y.args.length ≤ 1048576) : ∀ z ∈ [x, y], z.args.length ≤ 1048576 := fun z hz => by
  simp only [List.mem_cons, List.not_mem_nil, or_false] at hz
  rcases hz with rfl | rfl
  · exact hx
  · exact hy
theorem args_app {l m : List VInT} (h : ∀ z ∈ l, z.args.length ≤ 1048576) (k : okI 7 m) : ∀ z ∈ l ++ m, z.args.length ≤ 1048576 := fun z hz => by
  rcases List.mem_append.1 hz with hz | hz
  · exact h z hz
  · exact Nat.le_trans (k.2 z hz) (by omega)
theorem args_at {l : List VInT} (h : ∀ z ∈ l, z.args.length ≤ 1048576) (q : Nat) : (l.getD q default).args.length ≤ 1048576 := by
  rw [List.getD_eq_getElem?_getD]
  rcases hk : l[q]? with _ | x
  · exact Nat.zero_le _
  · exact h x (List.mem_of_getElem? hk)
theorem writes_len {v : VInT} : (writesV v).length ≤ 1 := by unfold writesV; split <;> simp
theorem reads_len {v : VInT} : (readsV v).length ≤ 3 + v.args.length := by
  unfold readsV
  split
  · refine Nat.le_trans uni_len ?_
    unfold readsL
    simp only [List.length_append, List.length_nil]
    have h1 := one_len (a := v.i.a) (p := (infV v.i.op).ra = true)
    have h2 := one_len (a := v.i.b) (p := (infV v.i.op).rb = true)
    have h3 := one_len (a := v.i.c) (p := v.i.op = 11 ∨ v.i.op = 12)
    have h4 : (if v.i.op = 6 then v.args else []).length ≤ v.args.length := by split <;> first | exact Nat.le_refl _ | exact Nat.zero_le _
    omega
  · exact Nat.zero_le _

theorem ex_c (_ : FuncId) {F : Fz} {H : Heap} {R : List Fp} (hs : HS (.of H []) F H [] R) (hT : TB 37 tabC F) : C Tryd.prog 1 (KT 60 38 37 tabC) 38 [] H fun v H' => ∃ (r : Bool), H' = H ∧ v = .bool r ∧ r = true :=
  ⟨0, .bool true, H, by unfold call callK; rw [(hT.heap hs).known (by decide)], true, rfl, rfl, rfl⟩
set_option maxHeartbeats 2000000 in
theorem operands_law {araw_5 : Option Addr} {kraw_5 : Nat} (raw : VInT) (n : Int) (how : Int) (at_ : Int) {ab_0 : Option Addr} {kb_0 : Nat} (b : BlkT) (end_ : Int) {F : Fz} {H : Heap} {R : List Fp} (hs : HS (.of H []) F H [] R) (hraw_0 : in64 raw.i.op) (hraw_1 : in64 raw.i.a) (hraw_2 : in64 raw.i.b) (hraw_3 : in64 raw.i.c) (hraw_4 : in64 raw.i.n) (hraw_5 : SR F (.slice araw_5 raw.args.length kraw_5) raw.args) (hn : in64 n) (hhow : in64 how) (hat_ : in64 at_) (hb_0 : SR F (.slice ab_0 b.ins.length kb_0) b.ins) (hb_1 : in64 b.fin) (hb_2 : in64 b.reg) (hb_3 : in64 b.tgt) (hb_4 : in64 b.els) (hend_ : in64 end_) (hT : TB 37 tabC F) (hraw : raw.args.length ≤ 1048576) : C Tryd.prog 1 (KT 60 38 37 tabC) 14 [(.agg ⟨[(.int .i64 raw.i.op), (.int .i64 raw.i.a), (.int .i64 raw.i.b), (.int .i64 raw.i.c), (.int .i64 raw.i.n), (.slice araw_5 raw.args.length kraw_5)]⟩), (.int .i64 n), (.int .i64 how), (.int .i64 at_), (.agg ⟨[(.slice ab_0 b.ins.length kb_0), (.int .i64 b.fin), (.int .i64 b.reg), (.int .i64 b.tgt), (.int .i64 b.els)]⟩), (.int .i64 end_)] H fun v H' => ∃ (r : Bool) (F' : Fz), Fz.le F F' ∧ HS (.of H []) F' H' [] R ∧ v = .bool r ∧ r = true := by
  refine c_enter Tryd.func14 rfl rfl ?_
  refine wk_foc 1 rfl ?_
  refine wk_region ?_
  refine wo_rs (rs_box hs rfl rfl) rfl rfl ?_
  rintro _ H2 _ ⟨b1, rfl, hs2, _⟩
  have hs2 : HS _ _ _ [[(b1, .cells [(.int .i64 raw.i.op), (.int .i64 raw.i.a), (.int .i64 raw.i.b), (.int .i64 raw.i.c), (.int .i64 raw.i.n), (.slice araw_5 raw.args.length kraw_5)] none false)]] _ := hs2
  refine wo_rs (rs_box hs2 rfl rfl) rfl rfl ?_
  rintro _ H4 _ ⟨b3, rfl, hs4, _⟩
  have hs4 : HS _ _ _ [_, [(b3, .cells [(.slice ab_0 b.ins.length kb_0), (.int .i64 b.fin), (.int .i64 b.reg), (.int .i64 b.tgt), (.int .i64 b.els)] none false)]] _ := hs4
  refine wa (.bool false) rfl rfl rfl ?_
  refine wo_end 2 rfl ?_
  refine wk_region ?_
  refine wm (.int .i64 n) rfl rfl rfl ?_
  refine wo_rs (rs_lit (α := Int) (ps := [(0, (.int .i64 n))]) (cells := [(.int .i64 n)]) ([n] : List Int) hs4 rfl rfl rfl (by kernel_rfl) ⟨[(.int .i64 n)], [], rfl, ⟨rfl, by first | omega | (dsimp only; omega)⟩, rfl⟩ rfl) rfl rfl ?_
  rintro _ H6 p5 ⟨a5, k5, rfl, ho5, hs6, _⟩
  have hs6 : HS _ _ _ [_, _, p5] _ := hs6
  obtain ⟨F7, hF7, hs7, hr7, hp7⟩ := OS.frz ho5 hs6 (i := 2) rfl
  have hs7 : HS _ _ _ [_, _, []] _ := hs7
  replace hT := hT.mono hF7
  replace hb_0 := hb_0.mono hF7
  replace ho5 := ho5.mono hF7
  replace hraw_5 := hraw_5.mono hF7
  refine wo_call (ap_call rfl rfl rfl) rfl rfl (m5.vf_c 38 ([n] : List Int) (2) (HS.call hs7) hr7 hT (by first | omega | simp) (by first | omega | simp)) ?_
  rintro _ H8 ⟨x8, ax8_2, kx8_2, F8, hF8, hs8, rfl, hgx8_0, hgx8_1, hrx8_2, h8⟩
  replace hs8 := HS.back hs7 rfl hs8
  have hs8 : HS _ _ _ [_, _, _] _ := hs8
  replace hT := hT.mono hF8
  replace hb_0 := hb_0.mono hF8
  replace hr7 := hr7.mono hF8
  replace hraw_5 := hraw_5.mono hF8
  refine wo_rs (rs_new hs8 rfl) rfl rfl ?_
  rintro _ H10 _ ⟨b9, rfl, hs10, _⟩
  have hs10 : HS _ _ _ [_, _, _, [(b9, .cells [(.int .i64 0), (.int .i64 0), (.slice none 0 0)] none false)]] _ := hs10
  refine wo_rk (rs_rec (q := 3) hs10 rfl rfl rfl rfl rfl rfl rfl rfl rfl) rfl ?_
  rintro _ H11 _ ⟨hs11, _⟩
  have hs11 : HS _ _ _ [_, _, _, [(b9, .cells [(.int .i64 x8.params), (.int .i64 x8.regs), (.slice ax8_2 x8.blocks.length kx8_2)] none false)]] _ := hs11
  refine wo_end 2 rfl ?_
  have hG : vfG x8 2 := by assumption
  have hins := hG.ins
  have hnb := hG.nb
  have hrg := hG.reg
  have ho : ∀ j, okI 6 (x8.blocks.getD j default).ins := fun j => vfG.oki hG j
  refine wk_region ?_
  refine wro 3 0 [(0, .o (.agg ⟨[(.int .i64 x8.params), (.int .i64 x8.regs), (.slice ax8_2 x8.blocks.length kx8_2)]⟩))] 22 24 [] [(22, (.agg ⟨[(.int .i64 x8.params), (.int .i64 x8.regs), (.slice ax8_2 x8.blocks.length kx8_2)]⟩)), (23, (.int .i64 how)), (24, (.int .i64 at_))] (vA (qn 24 0 3 (HS.hc hs11 (i := 3) rfl) rfl rfl rfl rfl) trivial) (by kernel_rfl) rfl fun gg12 => ?_
  refine wo_call (ap_call rfl rfl rfl) rfl rfl (m9.mut_c 38 x8 how at_ (HS.call hs11) (by first | omega | (dsimp only; omega)) (by first | omega | (dsimp only; omega)) hrx8_2 (by first | omega | (dsimp only; omega)) (by first | omega | (dsimp only; omega)) hT (by first | omega | exact fun j => oki_up (ho j) (by omega)) (by first | omega | exact fun j => oki_up (ho j) (by omega))) ?_
  rintro _ H13 ⟨x13, ax13_2, kx13_2, F13, hF13, hs13, rfl, hgx13_0, hgx13_1, hrx13_2, h113, h213⟩
  replace hs13 := HS.back hs11 rfl hs13
  have hs13 : HS _ _ _ [_, _, _, _] _ := hs13
  replace hT := hT.mono hF13
  replace hb_0 := hb_0.mono hF13
  replace hr7 := hr7.mono hF13
  replace hraw_5 := hraw_5.mono hF13
  replace hrx8_2 := hrx8_2.mono hF13
  refine wo_rs (rs_new hs13 rfl) rfl rfl ?_
  rintro _ H15 _ ⟨b14, rfl, hs15, _⟩
  have hs15 : HS _ _ _ [_, _, _, _, [(b14, .cells [(.int .i64 0), (.int .i64 0), (.slice none 0 0)] none false)]] _ := hs15
  refine wo_rk (rs_rec (q := 4) hs15 rfl rfl rfl rfl rfl rfl rfl rfl rfl) rfl ?_
  rintro _ H16 _ ⟨hs16, _⟩
  have hs16 : HS _ _ _ [_, _, _, _, [(b14, .cells [(.int .i64 x13.params), (.int .i64 x13.regs), (.slice ax13_2 x13.blocks.length kx13_2)] none false)]] _ := hs16
  refine wo_end 2 rfl ?_
  have hx1 : x13.blocks.length ≤ 1000 := by assumption
  have hx2 : ∀ j, okI 7 (x13.blocks.getD j default).ins := (by assumption : ∀ m, (∀ j, okI m (x8.blocks.getD j default).ins) → ∀ j, okI (m + 1) (x13.blocks.getD j default).ins) 6 ho
  refine wf_region rfl ?_
  refine wf_pure (v := (.agg ⟨[(.int .i64 raw.i.op), (.int .i64 raw.i.a), (.int .i64 raw.i.b), (.int .i64 raw.i.c), (.int .i64 raw.i.n), (.slice araw_5 raw.args.length kraw_5)]⟩)) (id := .l b1) (ap_ldN (i := 0) rfl rfl rfl (HS.hc hs16.log0 (i := 0) rfl) rfl rfl rfl) rfl rfl (did_l rfl) trivial ?_
  refine fm (.int .i64 n) rfl rfl rfl ?_
  refine wf_pure (v := (.agg ⟨[(.int .i64 x8.params), (.int .i64 x8.regs), (.slice ax8_2 x8.blocks.length kx8_2)]⟩)) (id := .l b9) (ap_ldN (i := 0) rfl rfl rfl (HS.hc hs16.log0 (i := 3) rfl) rfl rfl rfl) rfl rfl (did_l rfl) (⟨.inr trivial, ⟨.inr trivial, trivial⟩⟩) ?_
  refine wf_call (W := []) (ap_call rfl rfl rfl) rfl rfl rfl (m4.vi_c 38 n x8 (HS.call hs16.log0) (by first | omega | (dsimp only; omega)) (by first | omega | (dsimp only; omega)) (by first | omega | (dsimp only; omega)) hT (by first | omega | (dsimp only; omega))) (⟨.inl rfl, ⟨.inl rfl, ⟨.inr List.not_mem_nil, trivial⟩⟩⟩) ?_
  rintro _ H17 ⟨x17, ax17_5, kx17_5, F17, hF17, hs17, rfl, hgx17_0, hgx17_1, hgx17_2, hgx17_3, hgx17_4, hrx17_5, h17, hk17⟩
  refine ⟨Wr.did hs17.log, fun lg17 hlg17 => ?_⟩
  replace hs17 := HS.back hs16.log0 rfl hs17
  replace hs17 := HS.lg hs17 hs16 hlg17
  generalize ({ H17 with log := lg17 } : Heap) = H17g at hs17 ⊢
  have hs17 : HS _ _ _ [_, _, _, _, _] _ := hs17
  replace hT := hT.mono hF17
  replace hb_0 := hb_0.mono hF17
  replace hr7 := hr7.mono hF17
  replace hraw_5 := hraw_5.mono hF17
  replace hrx13_2 := hrx13_2.mono hF17
  replace hrx8_2 := hrx8_2.mono hF17
  refine wf_rs (id := .a) (rs_lit (α := VInT) (ps := [(0, (.agg ⟨[(.int .i64 raw.i.op), (.int .i64 raw.i.a), (.int .i64 raw.i.b), (.int .i64 raw.i.c), (.int .i64 raw.i.n), (.slice araw_5 raw.args.length kraw_5)]⟩)), (1, (.agg ⟨[(.int .i64 x17.i.op), (.int .i64 x17.i.a), (.int .i64 x17.i.b), (.int .i64 x17.i.c), (.int .i64 x17.i.n), (.slice ax17_5 x17.args.length kx17_5)]⟩))]) (cells := [(.int .i64 raw.i.op), (.int .i64 raw.i.a), (.int .i64 raw.i.b), (.int .i64 raw.i.c), (.int .i64 raw.i.n), (.slice araw_5 raw.args.length kraw_5), (.int .i64 x17.i.op), (.int .i64 x17.i.a), (.int .i64 x17.i.b), (.int .i64 x17.i.c), (.int .i64 x17.i.n), (.slice ax17_5 x17.args.length kx17_5)]) ([raw, x17] : List VInT) hs17.log0 rfl rfl rfl (by kernel_rfl) ⟨[(.int .i64 raw.i.op), (.int .i64 raw.i.a), (.int .i64 raw.i.b), (.int .i64 raw.i.c), (.int .i64 raw.i.n), (.slice araw_5 raw.args.length kraw_5)], [(.int .i64 x17.i.op), (.int .i64 x17.i.a), (.int .i64 x17.i.b), (.int .i64 x17.i.c), (.int .i64 x17.i.n), (.slice ax17_5 x17.args.length kx17_5)], rfl, ⟨araw_5, kraw_5, rfl, by first | omega | (dsimp only; omega), by first | omega | (dsimp only; omega), by first | omega | (dsimp only; omega), by first | omega | (dsimp only; omega), by first | omega | (dsimp only; omega), hraw_5⟩, ⟨[(.int .i64 x17.i.op), (.int .i64 x17.i.a), (.int .i64 x17.i.b), (.int .i64 x17.i.c), (.int .i64 x17.i.n), (.slice ax17_5 x17.args.length kx17_5)], [], rfl, ⟨ax17_5, kx17_5, rfl, by first | omega | (dsimp only; omega), by first | omega | (dsimp only; omega), by first | omega | (dsimp only; omega), by first | omega | (dsimp only; omega), by first | omega | (dsimp only; omega), hrx17_5⟩, rfl⟩⟩ rfl) rfl rfl (fun _ _ _ _ => did_a rfl rfl rfl) (⟨.inl rfl, ⟨.inl rfl, ⟨.inl rfl, ⟨.inl rfl, trivial⟩⟩⟩⟩) ?_
  rintro _ H19 p18 ⟨a18, k18, rfl, ho18, hs19, _⟩ lg19 hlg19
  replace hs19 := HS.lg hs19 hs17 hlg19
  generalize ({ H19 with log := lg19 } : Heap) = H19g at hs19 ⊢
  have hs19 : HS _ _ _ [_, _, _, _, _, p18] _ := hs19
  refine fa (.slice a18 ([raw, x17] : List VInT).length k18) rfl rfl rfl ?_
  refine wf_nil ?_
  refine wk_foc 3 rfl ?_
  refine wr 2 [] 1 0 [16] [(16, (.int .i64 0))] trivial (by kernel_rfl) rfl fun gg20 => ?_
  refine wk_loop_inv (fun (mm : Nat) f H' => ∃ (xs : List VInT) (k : Nat) (la21_15 : Option Addr) (lk21_15 : Nat) (lp21_15 : Fp) (F' : Fz), Fz.le F17 F' ∧ HS (Base.of H []) F' H' [[(b1, .cells [(.int .i64 raw.i.op), (.int .i64 raw.i.a), (.int .i64 raw.i.b), (.int .i64 raw.i.c), (.int .i64 raw.i.n), (.slice araw_5 raw.args.length kraw_5)] none false)], [(b3, .cells [(.slice ab_0 b.ins.length kb_0), (.int .i64 b.fin), (.int .i64 b.reg), (.int .i64 b.tgt), (.int .i64 b.els)] none false)], [], [(b9, .cells [(.int .i64 x8.params), (.int .i64 x8.regs), (.slice ax8_2 x8.blocks.length kx8_2)] none false)], [(b14, .cells [(.int .i64 x13.params), (.int .i64 x13.regs), (.slice ax13_2 x13.blocks.length kx13_2)] none false)], lp21_15] R ∧ OS F' (.slice la21_15 xs.length lk21_15) xs lp21_15 ∧ agrees f [(5, (.int .i64 end_)), (10, (.pointer (some ⟨b3, 0, none⟩))), (12, (.bool false)), (14, (.pointer (some ⟨b14, 0, none⟩))), (15, (.slice la21_15 xs.length lk21_15)), (16, (.int .i64 (k : Int)))] ∧ mm = x13.blocks.length - k ∧ (∀ z ∈ xs, z.args.length ≤ 1048576) ∧ (xs.length ≤ 2 + 1000 * k) ∧ (k ≤ x13.blocks.length)) _ ⟨([raw, x17] : List VInT), 0, a18, k18, p18, _, (Fz.le_refl _), hs19, ho18, (agC rfl (agC rfl (agC rfl (agC rfl (agC rfl (agC rfl agN)))))), rfl, (by exact args_two hraw (vin_args (by assumption))), (by simp), (by first | assumption | omega | (simp at *; omega))⟩ ?_
  rintro mm21 f21 H21 ⟨xs, k, la21_15, lk21_15, lp21_15, F21, hF21, hs21, lh21_15, hf21, rfl, ha, hxl, hk⟩ ih21
  refine wk_canon _ hf21 (fun gg21 => ?_)
  clear hf21
  replace hT := hT.mono hF21
  replace hb_0 := hb_0.mono hF21
  replace hraw_5 := hraw_5.mono hF21
  replace hrx13_2 := hrx13_2.mono hF21
  replace hrx8_2 := hrx8_2.mono hF21
  refine wk_foc 2 rfl ?_
  refine wr 1 [(2, .o (.slice ax13_2 x13.blocks.length kx13_2))] 31 35 [] [(35, (.bool (decide ((k : Int) < (x13.blocks.length : Int)))))] (vA (ql 22 2 (HS.hc hs21 (i := 4) rfl) rfl rfl) trivial) (by kernel_rfl) rfl fun gg22 => ?_
  refine wk_if 3 6 (v := (decide ((k : Int) < (x13.blocks.length : Int)))) rfl rfl rfl rfl (fun c23b => ?_) (fun c23b => ?_)
  · have c23 := c23b
    try simp only [BS] at c23
    refine wk_region ?_
    obtain ⟨cf24, hv24⟩ := Sv.view (SR.sv hrx13_2 hs21)
    obtain ⟨g25_1, g25_2, g25_3, g25_4, s25_0⟩ := BlkT.fx (hv24 k)
    refine wro 7 0 [(2, .o (.slice ax13_2 x13.blocks.length kx13_2)), (6, .o (.slice (cA (cf24 k) 0) ((x13.blocks.getD k default).ins).length (cK (cf24 k) 0)))] 38 44 [] [(38, (.slice la21_15 xs.length lk21_15)), (44, (.slice (cA (cf24 k) 0) ((x13.blocks.getD k default).ins).length (cK (cf24 k) 0)))] (vA (ql 22 2 (HS.hc hs21 (i := 4) rfl) rfl rfl) (vA (Sv.ix (j := (k : Int)) (SR.sv hrx13_2 hs21) (by first | omega | (dsimp only; omega)) (by first | omega | (dsimp only; omega))) (vA (ql 40 0 (BlkT.vw (hv24 k) (by first | omega | (dsimp only; omega))) rfl rfl) trivial))) (by kernel_rfl) rfl fun gg26 => ?_
    refine wo_rs (rs_app (α := VInT) (q := 5) lh21_15 hs21 rfl rfl rfl (SR.sv s25_0 hs21) rfl rfl rfl rfl rfl rfl rfl (by first | omega | (have hkb := (hx2 k).1; omega) | (simp; have hkb := (hx2 k).1; omega))) rfl rfl ?_
    rintro _ H28 p27 ⟨a27, k27, rfl, ho27, hs28, _⟩
    have hs28 : HS _ _ _ [_, _, _, _, _, p27] _ := hs28
    refine wa (.slice a27 (xs ++ ((x13.blocks.getD k default).ins)).length k27) rfl rfl rfl ?_
    refine wo_end 2 rfl ?_
    refine wr 1 [] 36 37 [16] [(16, (.int .i64 ((k : Int) + 1)))] (vA (vi (n := (k : Int) + 1) (by first | omega | (dsimp only; omega))) trivial) (by kernel_rfl) rfl fun gg29 => ?_
    refine ih21 _ _ _ ?_ ⟨xs ++ ((x13.blocks.getD k default).ins), k + 1, a27, k27, p27, _, (hF21), hs28, ho27, (agC rfl (agC rfl (agC rfl (agC rfl (agC rfl (agC rfl agN)))))), rfl, (by exact args_app ha (hx2 k)), (by have := (hx2 k).1; rw [List.length_append]; omega), (by first | assumption | omega | (simp at *; omega))⟩
    omega
  · have c23 := c23b
    try simp only [BS] at c23
    refine wr 2 [] 1 0 [17] [(17, (.int .i64 0))] trivial (by kernel_rfl) rfl fun gg30 => ?_
    refine wk_loop_inv (fun (mm : Nat) f H' => ∃ (q : Nat) (F' : Fz), Fz.le F21 F' ∧ HS (Base.of H []) F' H' [[(b1, .cells [(.int .i64 raw.i.op), (.int .i64 raw.i.a), (.int .i64 raw.i.b), (.int .i64 raw.i.c), (.int .i64 raw.i.n), (.slice araw_5 raw.args.length kraw_5)] none false)], [(b3, .cells [(.slice ab_0 b.ins.length kb_0), (.int .i64 b.fin), (.int .i64 b.reg), (.int .i64 b.tgt), (.int .i64 b.els)] none false)], [], [(b9, .cells [(.int .i64 x8.params), (.int .i64 x8.regs), (.slice ax8_2 x8.blocks.length kx8_2)] none false)], [(b14, .cells [(.int .i64 x13.params), (.int .i64 x13.regs), (.slice ax13_2 x13.blocks.length kx13_2)] none false)], lp21_15] R ∧ agrees f [(5, (.int .i64 end_)), (10, (.pointer (some ⟨b3, 0, none⟩))), (15, (.slice la21_15 xs.length lk21_15)), (17, (.int .i64 (q : Int)))] ∧ mm = xs.length - q ∧ (q ≤ xs.length)) _ ⟨0, _, (Fz.le_refl _), hs21, (agC rfl (agC rfl (agC rfl (agC rfl agN)))), rfl, (by first | assumption | omega | (simp at *; omega))⟩ ?_
    rintro mm31 f31 H31 ⟨q, F31, hF31, hs31, hf31, rfl, hq⟩ ih31
    refine wk_canon _ hf31 (fun gg31 => ?_)
    clear hf31
    replace hT := hT.mono hF31
    replace hb_0 := hb_0.mono hF31
    replace hraw_5 := hraw_5.mono hF31
    replace hrx13_2 := hrx13_2.mono hF31
    replace hrx8_2 := hrx8_2.mono hF31
    replace lh21_15 := lh21_15.mono hF31
    refine wk_foc 2 rfl ?_
    refine wr 1 [] 46 49 [] [(49, (.bool (decide ((q : Int) < (xs.length : Int)))))] trivial (by kernel_rfl) rfl fun gg32 => ?_
    refine wk_if 4 5 (v := (decide ((q : Int) < (xs.length : Int)))) rfl rfl rfl rfl (fun c33b => ?_) (fun c33b => ?_)
    · have c33 := c33b
      try simp only [BS] at c33
      have hxa := args_at ha q
      have hrl := reads_len (v := xs.getD q default)
      have hwl := writes_len (v := xs.getD q default)
      refine wk_rcut 52 77 [] [(77, (.bool ((!(decide ((readsV (xs.getD q default)) = (readsV (xs.getD q default))))) || (!(decide ((writesV (xs.getD q default)) = (writesV (xs.getD q default))))))))] (fun H' => ∃ F', Fz.le F31 F' ∧ HS (Base.of H []) F' H' [[(b1, .cells [(.int .i64 raw.i.op), (.int .i64 raw.i.a), (.int .i64 raw.i.b), (.int .i64 raw.i.c), (.int .i64 raw.i.n), (.slice araw_5 raw.args.length kraw_5)] none false)], [(b3, .cells [(.slice ab_0 b.ins.length kb_0), (.int .i64 b.fin), (.int .i64 b.reg), (.int .i64 b.tgt), (.int .i64 b.els)] none false)], [], [(b9, .cells [(.int .i64 x8.params), (.int .i64 x8.regs), (.slice ax8_2 x8.blocks.length kx8_2)] none false)], [(b14, .cells [(.int .i64 x13.params), (.int .i64 x13.regs), (.slice ax13_2 x13.blocks.length kx13_2)] none false)], lp21_15] R) ?_ ?_
      · skip
        refine wf_region rfl ?_
        refine fm (.slice la21_15 xs.length lk21_15) rfl rfl rfl ?_
        refine fm (.int .i64 (q : Int)) rfl rfl rfl ?_
        refine wf_pure (v := (.pointer (some ⟨sB (.slice la21_15 xs.length lk21_15), sO (.slice la21_15 xs.length lk21_15) + q * Rp.sz VInT, none⟩))) (id := .v) (ap_idxV (α := VInT) (j := (q : Int)) rfl rfl rfl rfl (OS.sv lh21_15 hs31.log0 (i := 5) rfl) (by first | omega | (dsimp only; omega)) (by first | omega | (dsimp only; omega))) rfl rfl (did_v rfl) (okD_v _) ?_
        obtain ⟨cs52, hr52, hc52⟩ := Sv.at (OS.sv lh21_15 hs31.log0 (i := 5) rfl) (getD_at (x := default) (show q < xs.length from by first | omega | (dsimp only; omega)))
        obtain ⟨a53_5, k53_5, rfl, g53_0, g53_1, g53_2, g53_3, g53_4, s53_5⟩ := hr52
        refine wf_pure (v := (.agg ⟨[(.int .i64 ((xs.getD q default).i.op)), (.int .i64 ((xs.getD q default).i.a)), (.int .i64 ((xs.getD q default).i.b)), (.int .i64 ((xs.getD q default).i.c)), (.int .i64 ((xs.getD q default).i.n)), (.slice a53_5 ((xs.getD q default).args).length k53_5)]⟩)) (id := .l (sB (.slice la21_15 xs.length lk21_15))) (ap_ldN (i := 0) rfl rfl rfl hc52 rfl rfl rfl) rfl rfl (did_l rfl) (⟨.inl rfl, ⟨.inl rfl, ⟨.inl rfl, trivial⟩⟩⟩) ?_
        refine wf_call (W := []) (ap_call rfl rfl rfl) rfl rfl rfl (ma.vreads_c 38 (xs.getD q default) (HS.call hs31.log0) (by first | omega | (dsimp only; omega)) (by first | omega | (dsimp only; omega)) (by first | omega | (dsimp only; omega)) (by first | omega | (dsimp only; omega)) (by first | omega | (dsimp only; omega)) s53_5 hT (by first | omega | (dsimp only; omega))) (⟨.inl rfl, ⟨.inl rfl, ⟨.inl rfl, ⟨.inl rfl, trivial⟩⟩⟩⟩) ?_
        rintro _ H54 ⟨ar54, kr54, r54, p54, F54, hF54, hs54, rfl, hrr54, rfl⟩
        refine ⟨Wr.did hs54.log, fun lg54 hlg54 => ?_⟩
        replace hs54 := HS.back hs31.log0 rfl hs54
        replace hs54 := HS.lg hs54 hs31 hlg54
        generalize ({ H54 with log := lg54 } : Heap) = H54g at hs54 ⊢
        have hs54 : HS _ _ _ [_, _, _, _, _, lp21_15, p54] _ := hs54
        replace hT := hT.mono hF54
        replace hb_0 := hb_0.mono hF54
        replace hraw_5 := hraw_5.mono hF54
        replace hrx13_2 := hrx13_2.mono hF54
        replace hrx8_2 := hrx8_2.mono hF54
        replace lh21_15 := lh21_15.mono hF54
        replace s53_5 := s53_5.mono hF54
        refine fm (.slice la21_15 xs.length lk21_15) rfl rfl rfl ?_
        refine fm (.int .i64 (q : Int)) rfl rfl rfl ?_
        refine wf_pure (v := (.pointer (some ⟨sB (.slice la21_15 xs.length lk21_15), sO (.slice la21_15 xs.length lk21_15) + q * Rp.sz VInT, none⟩))) (id := .v) (ap_idxV (α := VInT) (j := (q : Int)) rfl rfl rfl rfl (OS.sv lh21_15 hs54.log0 (i := 5) rfl) (by first | omega | (dsimp only; omega)) (by first | omega | (dsimp only; omega))) rfl rfl (did_v rfl) (okD_v _) ?_
        obtain ⟨cs55, hr55, hc55⟩ := Sv.at (OS.sv lh21_15 hs54.log0 (i := 5) rfl) (getD_at (x := default) (show q < xs.length from by first | omega | (dsimp only; omega)))
        obtain ⟨a56_5, k56_5, rfl, g56_0, g56_1, g56_2, g56_3, g56_4, s56_5⟩ := hr55
        refine wf_pure (v := (.agg ⟨[(.int .i64 ((xs.getD q default).i.op)), (.int .i64 ((xs.getD q default).i.a)), (.int .i64 ((xs.getD q default).i.b)), (.int .i64 ((xs.getD q default).i.c)), (.int .i64 ((xs.getD q default).i.n)), (.slice a56_5 ((xs.getD q default).args).length k56_5)]⟩)) (id := .l (sB (.slice la21_15 xs.length lk21_15))) (ap_ldN (i := 0) rfl rfl rfl hc55 rfl rfl rfl) rfl rfl (did_l rfl) (⟨.inl rfl, ⟨.inl rfl, ⟨.inl rfl, ⟨.inr List.not_mem_nil, ⟨.inr trivial, ⟨.inr trivial, ⟨.inr trivial, ⟨.inr trivial, trivial⟩⟩⟩⟩⟩⟩⟩⟩) ?_
        refine wf_call (W := []) (ap_call rfl rfl rfl) rfl rfl rfl (ma.rreads_c 38 (xs.getD q default) (HS.call hs54.log0) (by first | omega | (dsimp only; omega)) (by first | omega | (dsimp only; omega)) (by first | omega | (dsimp only; omega)) (by first | omega | (dsimp only; omega)) (by first | omega | (dsimp only; omega)) s56_5 hT (by first | omega | (dsimp only; omega))) (⟨.inl rfl, ⟨.inl rfl, ⟨.inl rfl, ⟨.inl rfl, ⟨.inl rfl, ⟨.inl rfl, ⟨.inl rfl, ⟨.inl rfl, ⟨.inl rfl, trivial⟩⟩⟩⟩⟩⟩⟩⟩⟩) ?_
        rintro _ H57 ⟨ar57, kr57, r57, F57, hF57, hs57, rfl, hrr57, rfl⟩
        refine ⟨Wr.did hs57.log, fun lg57 hlg57 => ?_⟩
        replace hs57 := HS.back hs54.log0 rfl hs57
        replace hs57 := HS.lg hs57 hs54 hlg57
        generalize ({ H57 with log := lg57 } : Heap) = H57g at hs57 ⊢
        have hs57 : HS _ _ _ [_, _, _, _, _, _, _] _ := hs57
        replace hT := hT.mono hF57
        replace hb_0 := hb_0.mono hF57
        replace hraw_5 := hraw_5.mono hF57
        replace hrr54 := hrr54.mono hF57
        replace hrx13_2 := hrx13_2.mono hF57
        replace hrx8_2 := hrx8_2.mono hF57
        replace lh21_15 := lh21_15.mono hF57
        replace s53_5 := s53_5.mono hF57
        replace s56_5 := s56_5.mono hF57
        obtain ⟨F58, hF58, hs58, hr58, hp58⟩ := OS.frz hrr54 hs57 (i := 6) rfl
        have hs58 : HS _ _ _ [_, _, _, _, _, _, []] _ := hs58
        refine wf_call (W := []) (ap_call rfl rfl rfl) rfl rfl rfl (m6.sameInts_c 38 (readsV (xs.getD q default)) (readsV (xs.getD q default)) (HS.call hs58.log0) hr58 (hrr57.mono hF58) (hT.mono hF58) (by first | omega | (have := succ_len (b := b); omega) | exact Nat.le_trans succ_len (by omega))) (⟨.inl rfl, ⟨.inl rfl, ⟨.inl rfl, ⟨.inl rfl, ⟨.inl rfl, ⟨.inl rfl, ⟨.inl rfl, ⟨.inl rfl, ⟨.inl rfl, ⟨.inl rfl, trivial⟩⟩⟩⟩⟩⟩⟩⟩⟩⟩) ?_
        rintro _ _ ⟨r59, rfl, rfl, rfl⟩
        refine ⟨fun b hb => absurd hb List.not_mem_nil, fun lg59 hlg59 => ?_⟩
        have hs59 := HS.lg hs57.log0 hs57 hlg59
        generalize ({ { H57g with log := [] } with log := lg59 } : Heap) = H59g at hs59 ⊢
        refine wf_pure (v := (.bool (!(decide ((readsV (xs.getD q default)) = (readsV (xs.getD q default))))))) (id := .v) (ap_not rfl) rfl rfl (did_v rfl) (okD_v _) ?_
        refine fm (.bool (!(decide ((readsV (xs.getD q default)) = (readsV (xs.getD q default)))))) rfl rfl rfl ?_
        refine wf_gsF (v := (!(decide ((readsV (xs.getD q default)) = (readsV (xs.getD q default)))))) rfl rfl (fun g60 => ?_) (fun g60 => ?_)
        · have pg60 := g60
          try simp only [BS] at pg60
          refine fm (.slice la21_15 xs.length lk21_15) rfl rfl rfl ?_
          refine wf_gt rfl g60 ?_
          refine fm (.int .i64 (q : Int)) rfl rfl rfl ?_
          refine wf_gt rfl g60 ?_
          refine wf_pure (v := (.pointer (some ⟨sB (.slice la21_15 xs.length lk21_15), sO (.slice la21_15 xs.length lk21_15) + q * Rp.sz VInT, none⟩))) (id := .v) (ap_idxV (α := VInT) (j := (q : Int)) rfl rfl rfl rfl (OS.sv lh21_15 hs59.log0 (i := 5) rfl) (by first | omega | (dsimp only; omega)) (by first | omega | (dsimp only; omega))) rfl rfl (did_v rfl) (okD_v _) ?_
          refine wf_gt rfl g60 ?_
          obtain ⟨cs61, hr61, hc61⟩ := Sv.at (OS.sv lh21_15 hs59.log0 (i := 5) rfl) (getD_at (x := default) (show q < xs.length from by first | omega | (dsimp only; omega)))
          obtain ⟨a62_5, k62_5, rfl, g62_0, g62_1, g62_2, g62_3, g62_4, s62_5⟩ := hr61
          refine wf_pure (v := (.agg ⟨[(.int .i64 ((xs.getD q default).i.op)), (.int .i64 ((xs.getD q default).i.a)), (.int .i64 ((xs.getD q default).i.b)), (.int .i64 ((xs.getD q default).i.c)), (.int .i64 ((xs.getD q default).i.n)), (.slice a62_5 ((xs.getD q default).args).length k62_5)]⟩)) (id := .l (sB (.slice la21_15 xs.length lk21_15))) (ap_ldN (i := 0) rfl rfl rfl hc61 rfl rfl rfl) rfl rfl (did_l rfl) (⟨.inl rfl, ⟨.inl rfl, ⟨.inl rfl, ⟨.inl rfl, ⟨.inl rfl, ⟨.inl rfl, ⟨.inl rfl, ⟨.inl rfl, ⟨.inl rfl, ⟨.inl rfl, ⟨.inl rfl, ⟨.inl rfl, ⟨.inl rfl, ⟨.inl rfl, ⟨.inl rfl, ⟨.inl rfl, trivial⟩⟩⟩⟩⟩⟩⟩⟩⟩⟩⟩⟩⟩⟩⟩⟩) ?_
          refine wf_gt rfl g60 ?_
          refine wf_call (W := []) (ap_call rfl rfl rfl) rfl rfl rfl (ma.vwrites_c 38 (xs.getD q default) (HS.call hs59.log0) (by first | omega | (dsimp only; omega)) (by first | omega | (dsimp only; omega)) (by first | omega | (dsimp only; omega)) (by first | omega | (dsimp only; omega)) (by first | omega | (dsimp only; omega)) s62_5 hT) (⟨.inl rfl, ⟨.inl rfl, ⟨.inl rfl, ⟨.inl rfl, ⟨.inl rfl, ⟨.inl rfl, ⟨.inl rfl, ⟨.inl rfl, ⟨.inl rfl, ⟨.inl rfl, ⟨.inl rfl, ⟨.inl rfl, ⟨.inl rfl, ⟨.inl rfl, ⟨.inl rfl, ⟨.inl rfl, ⟨.inl rfl, trivial⟩⟩⟩⟩⟩⟩⟩⟩⟩⟩⟩⟩⟩⟩⟩⟩⟩) ?_
          rintro _ H63 ⟨ar63, kr63, r63, p63, F63, hF63, hs63, rfl, hrr63, rfl⟩
          refine ⟨Wr.did hs63.log, fun lg63 hlg63 => ?_⟩
          replace hs63 := HS.back hs59.log0 rfl hs63
          replace hs63 := HS.lg hs63 hs59 hlg63
          generalize ({ H63 with log := lg63 } : Heap) = H63g at hs63 ⊢
          have hs63 : HS _ _ _ [_, _, _, _, _, _, p54, p63] _ := hs63
          replace hT := hT.mono hF63
          replace hb_0 := hb_0.mono hF63
          replace hraw_5 := hraw_5.mono hF63
          replace hrr54 := hrr54.mono hF63
          replace hrr57 := hrr57.mono hF63
          replace hrx13_2 := hrx13_2.mono hF63
          replace hrx8_2 := hrx8_2.mono hF63
          replace lh21_15 := lh21_15.mono hF63
          replace s53_5 := s53_5.mono hF63
          replace s56_5 := s56_5.mono hF63
          replace s62_5 := s62_5.mono hF63
          refine wf_gt rfl g60 ?_
          refine fm (.slice la21_15 xs.length lk21_15) rfl rfl rfl ?_
          refine wf_gt rfl g60 ?_
          refine fm (.int .i64 (q : Int)) rfl rfl rfl ?_
          refine wf_gt rfl g60 ?_
          refine wf_pure (v := (.pointer (some ⟨sB (.slice la21_15 xs.length lk21_15), sO (.slice la21_15 xs.length lk21_15) + q * Rp.sz VInT, none⟩))) (id := .v) (ap_idxV (α := VInT) (j := (q : Int)) rfl rfl rfl rfl (OS.sv lh21_15 hs63.log0 (i := 5) rfl) (by first | omega | (dsimp only; omega)) (by first | omega | (dsimp only; omega))) rfl rfl (did_v rfl) (okD_v _) ?_
          refine wf_gt rfl g60 ?_
          obtain ⟨cs64, hr64, hc64⟩ := Sv.at (OS.sv lh21_15 hs63.log0 (i := 5) rfl) (getD_at (x := default) (show q < xs.length from by first | omega | (dsimp only; omega)))
          obtain ⟨a65_5, k65_5, rfl, g65_0, g65_1, g65_2, g65_3, g65_4, s65_5⟩ := hr64
          refine wf_pure (v := (.agg ⟨[(.int .i64 ((xs.getD q default).i.op)), (.int .i64 ((xs.getD q default).i.a)), (.int .i64 ((xs.getD q default).i.b)), (.int .i64 ((xs.getD q default).i.c)), (.int .i64 ((xs.getD q default).i.n)), (.slice a65_5 ((xs.getD q default).args).length k65_5)]⟩)) (id := .l (sB (.slice la21_15 xs.length lk21_15))) (ap_ldN (i := 0) rfl rfl rfl hc64 rfl rfl rfl) rfl rfl (did_l rfl) (⟨.inl rfl, ⟨.inl rfl, ⟨.inl rfl, ⟨.inr List.not_mem_nil, ⟨.inr trivial, ⟨.inr trivial, ⟨.inr trivial, ⟨.inr trivial, ⟨.inl rfl, ⟨.inl rfl, ⟨.inl rfl, ⟨.inl rfl, ⟨.inl rfl, ⟨.inl rfl, ⟨.inl rfl, ⟨.inl rfl, ⟨.inl rfl, ⟨.inl rfl, ⟨.inl rfl, ⟨.inl rfl, ⟨.inl rfl, trivial⟩⟩⟩⟩⟩⟩⟩⟩⟩⟩⟩⟩⟩⟩⟩⟩⟩⟩⟩⟩⟩) ?_
          refine wf_gt rfl g60 ?_
          refine wf_call (W := []) (ap_call rfl rfl rfl) rfl rfl rfl (ma.rwrites_c 38 (xs.getD q default) (HS.call hs63.log0) (by first | omega | (dsimp only; omega)) (by first | omega | (dsimp only; omega)) (by first | omega | (dsimp only; omega)) (by first | omega | (dsimp only; omega)) (by first | omega | (dsimp only; omega)) s65_5 hT) (⟨.inl rfl, ⟨.inl rfl, ⟨.inl rfl, ⟨.inl rfl, ⟨.inl rfl, ⟨.inl rfl, ⟨.inl rfl, ⟨.inl rfl, ⟨.inl rfl, ⟨.inl rfl, ⟨.inl rfl, ⟨.inl rfl, ⟨.inl rfl, ⟨.inl rfl, ⟨.inl rfl, ⟨.inl rfl, ⟨.inl rfl, ⟨.inl rfl, ⟨.inl rfl, ⟨.inl rfl, ⟨.inl rfl, ⟨.inl rfl, trivial⟩⟩⟩⟩⟩⟩⟩⟩⟩⟩⟩⟩⟩⟩⟩⟩⟩⟩⟩⟩⟩⟩) ?_
          rintro _ H66 ⟨ar66, kr66, r66, p66, F66, hF66, hs66, rfl, hrr66, rfl⟩
          refine ⟨Wr.did hs66.log, fun lg66 hlg66 => ?_⟩
          replace hs66 := HS.back hs63.log0 rfl hs66
          replace hs66 := HS.lg hs66 hs63 hlg66
          generalize ({ H66 with log := lg66 } : Heap) = H66g at hs66 ⊢
          have hs66 : HS _ _ _ [_, _, _, _, _, _, _, _, p66] _ := hs66
          replace hT := hT.mono hF66
          replace hb_0 := hb_0.mono hF66
          replace hraw_5 := hraw_5.mono hF66
          replace hrr54 := hrr54.mono hF66
          replace hrr57 := hrr57.mono hF66
          replace hrr63 := hrr63.mono hF66
          replace hrx13_2 := hrx13_2.mono hF66
          replace hrx8_2 := hrx8_2.mono hF66
          replace lh21_15 := lh21_15.mono hF66
          replace s53_5 := s53_5.mono hF66
          replace s56_5 := s56_5.mono hF66
          replace s62_5 := s62_5.mono hF66
          replace s65_5 := s65_5.mono hF66
          refine wf_gt rfl g60 ?_
          obtain ⟨F67, hF67, hs67, hr67, hp67⟩ := OS.frz hrr63 hs66 (i := 7) rfl
          have hs67 : HS _ _ _ [_, _, _, _, _, _, _, [], _] _ := hs67
          obtain ⟨F68, hF68, hs68, hr68, hp68⟩ := OS.frz (OS.mono hF67 hrr66) hs67 (i := 8) rfl
          have hr67 := hr67.mono hF68
          have hs68 : HS _ _ _ [_, _, _, _, _, _, _, _, []] _ := hs68
          refine wf_call (W := []) (ap_call rfl rfl rfl) rfl rfl rfl (m6.sameInts_c 38 (writesV (xs.getD q default)) (writesV (xs.getD q default)) (HS.call hs68.log0) hr67 hr68 ((hT.mono hF67).mono hF68) (by first | omega | (have := succ_len (b := b); omega) | exact Nat.le_trans succ_len (by omega))) (⟨.inl rfl, ⟨.inl rfl, ⟨.inl rfl, ⟨.inl rfl, ⟨.inl rfl, ⟨.inl rfl, ⟨.inl rfl, ⟨.inl rfl, ⟨.inl rfl, ⟨.inl rfl, ⟨.inl rfl, ⟨.inl rfl, ⟨.inl rfl, ⟨.inl rfl, ⟨.inl rfl, ⟨.inl rfl, ⟨.inl rfl, ⟨.inl rfl, ⟨.inl rfl, ⟨.inl rfl, ⟨.inl rfl, ⟨.inl rfl, ⟨.inl rfl, trivial⟩⟩⟩⟩⟩⟩⟩⟩⟩⟩⟩⟩⟩⟩⟩⟩⟩⟩⟩⟩⟩⟩⟩) ?_
          rintro _ _ ⟨r69, rfl, rfl, rfl⟩
          refine ⟨fun b hb => absurd hb List.not_mem_nil, fun lg69 hlg69 => ?_⟩
          have hs69 := HS.lg hs66.log0 hs66 hlg69
          generalize ({ { H66g with log := [] } with log := lg69 } : Heap) = H69g at hs69 ⊢
          refine wf_gt rfl g60 ?_
          refine wf_pure (v := (.bool (!(decide ((writesV (xs.getD q default)) = (writesV (xs.getD q default))))))) (id := .v) (ap_not rfl) rfl rfl (did_v rfl) (okD_v _) ?_
          refine wf_pure (v := (.bool (!(decide ((writesV (xs.getD q default)) = (writesV (xs.getD q default))))))) (id := .v) (ap_pickF rfl g60 rfl) rfl rfl (did_v rfl) (okD_v _) ?_
          refine wf_nil ?_
          exact wk_skip_nil ⟨rfl, ⟨_, (Fz.le_trans (Fz.le_trans (Fz.le_trans (Fz.le_trans (Fz.le_refl _) hF54) hF57) hF63) hF66), HS.sub hs69 (List.sublist_append_left _ _)⟩, (Lu rfl (Lu rfl (Lu rfl (Lu rfl (Lu rfl (Lu rfl (Lu rfl (Lu rfl (Lu rfl (Lu rfl (Lu rfl (Lu rfl (Lu rfl (Lu rfl (Lu rfl (Lu rfl (Lu rfl (Lu rfl (Lu rfl (Lu rfl (Lu rfl (Lu rfl (Lu rfl (Lu rfl (Lu rfl (Lu rfl Lr)))))))))))))))))))))))))), (agC (congrArg Value.bool (show (!(decide ((writesV (xs.getD q default)) = (writesV (xs.getD q default))))) = ((!(decide ((readsV (xs.getD q default)) = (readsV (xs.getD q default))))) || (!(decide ((writesV (xs.getD q default)) = (writesV (xs.getD q default)))))) by first | rfl | simp only [↓g60, BT] | grind)) agN)⟩
        · have pg60 := g60
          try simp only [BS] at pg60
          refine wf_gf rfl g60 rfl ?_
          refine wf_gf rfl g60 rfl ?_
          refine wf_gf rfl g60 rfl ?_
          refine wf_gf rfl g60 rfl ?_
          refine wf_gf rfl g60 rfl ?_
          refine wf_gf rfl g60 rfl ?_
          refine wf_gf rfl g60 rfl ?_
          refine wf_gf rfl g60 rfl ?_
          refine wf_gf rfl g60 rfl ?_
          refine wf_gf rfl g60 rfl ?_
          refine wf_gf rfl g60 rfl ?_
          refine wf_pure (v := (.bool true)) (id := .v) (ap_pickT rfl g60 rfl) rfl rfl (did_v rfl) (okD_v _) ?_
          refine wf_nil ?_
          exact wk_skip_nil ⟨rfl, ⟨_, (Fz.le_trans (Fz.le_trans (Fz.le_refl _) hF54) hF57), HS.sub hs59 (List.sublist_append_left _ _)⟩, (Lu rfl (Lu rfl (Lu rfl (Lu rfl (Lu rfl (Lu rfl (Lu rfl (Lu rfl (Lu rfl (Lu rfl (Lu rfl (Lu rfl (Lu rfl (Lu rfl (Lu rfl (Lu rfl (Lu rfl (Lu rfl (Lu rfl (Lu rfl (Lu rfl (Lu rfl (Lu rfl (Lu rfl (Lu rfl (Lu rfl Lr)))))))))))))))))))))))))), (agC (congrArg Value.bool (show true = ((!(decide ((readsV (xs.getD q default)) = (readsV (xs.getD q default))))) || (!(decide ((writesV (xs.getD q default)) = (writesV (xs.getD q default)))))) by first | rfl | simp only [↓g60, BT] | grind)) agN)⟩
      · skip
        rintro g51 H51 ⟨F51, hF51, hs51⟩
        replace hT := hT.mono hF51
        replace hb_0 := hb_0.mono hF51
        replace hraw_5 := hraw_5.mono hF51
        replace hrx13_2 := hrx13_2.mono hF51
        replace hrx8_2 := hrx8_2.mono hF51
        replace lh21_15 := lh21_15.mono hF51
        refine wk_foc 1 rfl ?_
        refine wk_iff 2 (v := ((!(decide ((readsV (xs.getD q default)) = (readsV (xs.getD q default))))) || (!(decide ((writesV (xs.getD q default)) = (writesV (xs.getD q default))))))) rfl (by simp) rfl rfl ?_
        refine wr 1 [] 50 51 [17] [(17, (.int .i64 ((q : Int) + 1)))] (vA (vi (n := (q : Int) + 1) (by first | omega | (dsimp only; omega))) trivial) (by kernel_rfl) rfl fun gg70 => ?_
        refine ih31 _ _ _ ?_ ⟨q + 1, _, (Fz.le_trans (hF31) hF51), hs51, (agC rfl (agC rfl (agC rfl (agC rfl agN)))), rfl, (by first | assumption | omega | (simp at *; omega))⟩
        omega
    · have c33 := c33b
      try simp only [BS] at c33
      refine wk_region ?_
      refine wro 1 0 [(0, .o (.agg ⟨[(.slice ab_0 b.ins.length kb_0), (.int .i64 b.fin), (.int .i64 b.reg), (.int .i64 b.tgt), (.int .i64 b.els)]⟩))] 78 78 [] [(78, (.agg ⟨[(.slice ab_0 b.ins.length kb_0), (.int .i64 b.fin), (.int .i64 b.reg), (.int .i64 b.tgt), (.int .i64 b.els)]⟩))] (vA (qn 42 0 5 (HS.hc hs31 (i := 1) rfl) rfl rfl rfl rfl) trivial) (by kernel_rfl) rfl fun gg71 => ?_
      refine wo_rs (rs_new hs31 rfl) rfl rfl ?_
      rintro _ H73 _ ⟨b72, rfl, hs73, _⟩
      have hs73 : HS _ _ _ [_, _, _, _, _, lp21_15, [(b72, .cells [(.slice none 0 0), (.int .i64 0), (.int .i64 0), (.int .i64 0), (.int .i64 0)] none false)]] _ := hs73
      refine wo_rk (rs_rec (q := 6) hs73 rfl rfl rfl rfl rfl rfl rfl rfl rfl) rfl ?_
      rintro _ H74 _ ⟨hs74, _⟩
      have hs74 : HS _ _ _ [_, _, _, _, _, _, [(b72, .cells [(.slice ab_0 b.ins.length kb_0), (.int .i64 b.fin), (.int .i64 b.reg), (.int .i64 b.tgt), (.int .i64 b.els)] none false)]] _ := hs74
      refine wo_end 2 rfl ?_
      refine wk_region ?_
      have fq75 := pick_imp end_ (6 : Int)
      refine wro 3 0 [(1, .o (.int .i64 (pickV end_ (6 : Int))))] 79 81 [] [(80, (.int .i64 (pickV end_ (6 : Int)))), (81, (.pointer (some ⟨b72, 1, none⟩)))] (vA (m1.pick_c_q 38 end_ (6) H74 (by first | omega | (dsimp only; omega))) trivial) (by kernel_rfl) rfl fun gg76 => ?_
      refine wo_rk (rs_rec (q := 6) hs74 rfl rfl rfl rfl rfl rfl rfl rfl rfl) rfl ?_
      rintro _ H77 _ ⟨hs77, _⟩
      have hs77 : HS _ _ _ [_, _, _, _, _, _, [(b72, .cells [(.slice ab_0 b.ins.length kb_0), (.int .i64 (pickV end_ (6 : Int))), (.int .i64 b.reg), (.int .i64 b.tgt), (.int .i64 b.els)] none false)]] _ := hs77
      refine wo_end 2 rfl ?_
      refine wk_rcut 12 96 [] [(12, (.bool (decide ((succV b) = (succV b)) && decide ((succV (⟨b.ins, pickV end_ (6 : Int), b.reg, b.tgt, b.els⟩ : BlkT)) = (succV (⟨b.ins, pickV end_ (6 : Int), b.reg, b.tgt, b.els⟩ : BlkT))))))] (fun H' => ∃ F', Fz.le F31 F' ∧ HS (Base.of H []) F' H' [[(b1, .cells [(.int .i64 raw.i.op), (.int .i64 raw.i.a), (.int .i64 raw.i.b), (.int .i64 raw.i.c), (.int .i64 raw.i.n), (.slice araw_5 raw.args.length kraw_5)] none false)], [(b3, .cells [(.slice ab_0 b.ins.length kb_0), (.int .i64 b.fin), (.int .i64 b.reg), (.int .i64 b.tgt), (.int .i64 b.els)] none false)], [], [(b9, .cells [(.int .i64 x8.params), (.int .i64 x8.regs), (.slice ax8_2 x8.blocks.length kx8_2)] none false)], [(b14, .cells [(.int .i64 x13.params), (.int .i64 x13.regs), (.slice ax13_2 x13.blocks.length kx13_2)] none false)], lp21_15, [(b72, .cells [(.slice ab_0 b.ins.length kb_0), (.int .i64 (pickV end_ (6 : Int))), (.int .i64 b.reg), (.int .i64 b.tgt), (.int .i64 b.els)] none false)]] R) ?_ ?_
      · skip
        refine wf_region rfl ?_
        refine wf_pure (v := (.agg ⟨[(.slice ab_0 b.ins.length kb_0), (.int .i64 b.fin), (.int .i64 b.reg), (.int .i64 b.tgt), (.int .i64 b.els)]⟩)) (id := .l b3) (ap_ldN (i := 0) rfl rfl rfl (HS.hc hs77.log0 (i := 1) rfl) rfl rfl rfl) rfl rfl (did_l rfl) trivial ?_
        refine wf_call (W := []) (ap_call rfl rfl rfl) rfl rfl rfl (ma.vsucc_c 38 b (HS.call hs77.log0) hb_0 (by first | omega | (dsimp only; omega)) (by first | omega | (dsimp only; omega)) (by first | omega | (dsimp only; omega)) (by first | omega | (dsimp only; omega)) hT) (⟨.inl rfl, trivial⟩) ?_
        rintro _ H88 ⟨ar88, kr88, r88, p88, F88, hF88, hs88, rfl, hrr88, rfl⟩
        refine ⟨Wr.did hs88.log, fun lg88 hlg88 => ?_⟩
        replace hs88 := HS.back hs77.log0 rfl hs88
        replace hs88 := HS.lg hs88 hs77 hlg88
        generalize ({ H88 with log := lg88 } : Heap) = H88g at hs88 ⊢
        have hs88 : HS _ _ _ [_, _, _, _, _, _, _, p88] _ := hs88
        replace hT := hT.mono hF88
        replace hb_0 := hb_0.mono hF88
        replace hraw_5 := hraw_5.mono hF88
        replace hrx13_2 := hrx13_2.mono hF88
        replace hrx8_2 := hrx8_2.mono hF88
        replace lh21_15 := lh21_15.mono hF88
        refine wf_pure (v := (.agg ⟨[(.slice ab_0 b.ins.length kb_0), (.int .i64 b.fin), (.int .i64 b.reg), (.int .i64 b.tgt), (.int .i64 b.els)]⟩)) (id := .l b3) (ap_ldN (i := 0) rfl rfl rfl (HS.hc hs88.log0 (i := 1) rfl) rfl rfl rfl) rfl rfl (did_l rfl) (⟨.inr List.not_mem_nil, ⟨.inr trivial, trivial⟩⟩) ?_
        refine wf_call (W := []) (ap_call rfl rfl rfl) rfl rfl rfl (ma.rsucc_c 38 b (HS.call hs88.log0) hb_0 (by first | omega | (dsimp only; omega)) (by first | omega | (dsimp only; omega)) (by first | omega | (dsimp only; omega)) (by first | omega | (dsimp only; omega)) hT) (⟨.inl rfl, ⟨.inl rfl, ⟨.inl rfl, trivial⟩⟩⟩) ?_
        rintro _ H89 ⟨ar89, kr89, r89, F89, hF89, hs89, rfl, hrr89, rfl⟩
        refine ⟨Wr.did hs89.log, fun lg89 hlg89 => ?_⟩
        replace hs89 := HS.back hs88.log0 rfl hs89
        replace hs89 := HS.lg hs89 hs88 hlg89
        generalize ({ H89 with log := lg89 } : Heap) = H89g at hs89 ⊢
        have hs89 : HS _ _ _ [_, _, _, _, _, _, _, _] _ := hs89
        replace hT := hT.mono hF89
        replace hb_0 := hb_0.mono hF89
        replace hraw_5 := hraw_5.mono hF89
        replace hrr88 := hrr88.mono hF89
        replace hrx13_2 := hrx13_2.mono hF89
        replace hrx8_2 := hrx8_2.mono hF89
        replace lh21_15 := lh21_15.mono hF89
        obtain ⟨F90, hF90, hs90, hr90, hp90⟩ := OS.frz hrr88 hs89 (i := 7) rfl
        have hs90 : HS _ _ _ [_, _, _, _, _, _, _, []] _ := hs90
        refine wf_call (W := []) (ap_call rfl rfl rfl) rfl rfl rfl (m6.sameInts_c 38 (succV b) (succV b) (HS.call hs90.log0) hr90 (hrr89.mono hF90) (hT.mono hF90) (by first | omega | (have := succ_len (b := b); omega) | exact Nat.le_trans succ_len (by omega))) (⟨.inl rfl, ⟨.inl rfl, ⟨.inl rfl, ⟨.inl rfl, trivial⟩⟩⟩⟩) ?_
        rintro _ _ ⟨r91, rfl, rfl, rfl⟩
        refine ⟨fun b hb => absurd hb List.not_mem_nil, fun lg91 hlg91 => ?_⟩
        have hs91 := HS.lg hs89.log0 hs89 hlg91
        generalize ({ { H89g with log := [] } with log := lg91 } : Heap) = H91g at hs91 ⊢
        refine fm (.bool (decide ((succV b) = (succV b)))) rfl rfl rfl ?_
        refine wf_gsT (v := (decide ((succV b) = (succV b)))) rfl rfl (fun g92 => ?_) (fun g92 => ?_)
        · have pg92 := g92
          try simp only [BS] at pg92
          refine wf_pure (v := (.agg ⟨[(.slice ab_0 b.ins.length kb_0), (.int .i64 (pickV end_ (6 : Int))), (.int .i64 b.reg), (.int .i64 b.tgt), (.int .i64 b.els)]⟩)) (id := .l b72) (ap_ldN (i := 0) rfl rfl rfl (HS.hc hs91.log0 (i := 6) rfl) rfl rfl rfl) rfl rfl (did_l rfl) (⟨.inl rfl, ⟨.inl rfl, ⟨.inl rfl, ⟨.inl rfl, ⟨.inl rfl, ⟨.inl rfl, trivial⟩⟩⟩⟩⟩⟩) ?_
          refine wf_gt rfl g92 ?_
          refine wf_call (W := []) (ap_call rfl rfl rfl) rfl rfl rfl (ma.vsucc_c 38 (⟨b.ins, pickV end_ (6 : Int), b.reg, b.tgt, b.els⟩ : BlkT) (HS.call hs91.log0) hb_0 (by first | omega | (dsimp only; omega)) (by first | omega | (dsimp only; omega)) (by first | omega | (dsimp only; omega)) (by first | omega | (dsimp only; omega)) hT) (⟨.inl rfl, ⟨.inl rfl, ⟨.inl rfl, ⟨.inl rfl, ⟨.inl rfl, ⟨.inl rfl, ⟨.inl rfl, trivial⟩⟩⟩⟩⟩⟩⟩) ?_
          rintro _ H93 ⟨ar93, kr93, r93, p93, F93, hF93, hs93, rfl, hrr93, rfl⟩
          refine ⟨Wr.did hs93.log, fun lg93 hlg93 => ?_⟩
          replace hs93 := HS.back hs91.log0 rfl hs93
          replace hs93 := HS.lg hs93 hs91 hlg93
          generalize ({ H93 with log := lg93 } : Heap) = H93g at hs93 ⊢
          have hs93 : HS _ _ _ [_, _, _, _, _, _, _, p88, p93] _ := hs93
          replace hT := hT.mono hF93
          replace hb_0 := hb_0.mono hF93
          replace hraw_5 := hraw_5.mono hF93
          replace hrr88 := hrr88.mono hF93
          replace hrr89 := hrr89.mono hF93
          replace hrx13_2 := hrx13_2.mono hF93
          replace hrx8_2 := hrx8_2.mono hF93
          replace lh21_15 := lh21_15.mono hF93
          refine wf_gt rfl g92 ?_
          refine wf_pure (v := (.agg ⟨[(.slice ab_0 b.ins.length kb_0), (.int .i64 (pickV end_ (6 : Int))), (.int .i64 b.reg), (.int .i64 b.tgt), (.int .i64 b.els)]⟩)) (id := .l b72) (ap_ldN (i := 0) rfl rfl rfl (HS.hc hs93.log0 (i := 6) rfl) rfl rfl rfl) rfl rfl (did_l rfl) (⟨.inr List.not_mem_nil, ⟨.inr trivial, ⟨.inl rfl, ⟨.inl rfl, ⟨.inl rfl, ⟨.inl rfl, ⟨.inl rfl, ⟨.inl rfl, trivial⟩⟩⟩⟩⟩⟩⟩⟩) ?_
          refine wf_gt rfl g92 ?_
          refine wf_call (W := []) (ap_call rfl rfl rfl) rfl rfl rfl (ma.rsucc_c 38 (⟨b.ins, pickV end_ (6 : Int), b.reg, b.tgt, b.els⟩ : BlkT) (HS.call hs93.log0) hb_0 (by first | omega | (dsimp only; omega)) (by first | omega | (dsimp only; omega)) (by first | omega | (dsimp only; omega)) (by first | omega | (dsimp only; omega)) hT) (⟨.inl rfl, ⟨.inl rfl, ⟨.inl rfl, ⟨.inl rfl, ⟨.inl rfl, ⟨.inl rfl, ⟨.inl rfl, ⟨.inl rfl, ⟨.inl rfl, trivial⟩⟩⟩⟩⟩⟩⟩⟩⟩) ?_
          rintro _ H94 ⟨ar94, kr94, r94, F94, hF94, hs94, rfl, hrr94, rfl⟩
          refine ⟨Wr.did hs94.log, fun lg94 hlg94 => ?_⟩
          replace hs94 := HS.back hs93.log0 rfl hs94
          replace hs94 := HS.lg hs94 hs93 hlg94
          generalize ({ H94 with log := lg94 } : Heap) = H94g at hs94 ⊢
          have hs94 : HS _ _ _ [_, _, _, _, _, _, _, _, _] _ := hs94
          replace hT := hT.mono hF94
          replace hb_0 := hb_0.mono hF94
          replace hraw_5 := hraw_5.mono hF94
          replace hrr88 := hrr88.mono hF94
          replace hrr89 := hrr89.mono hF94
          replace hrr93 := hrr93.mono hF94
          replace hrx13_2 := hrx13_2.mono hF94
          replace hrx8_2 := hrx8_2.mono hF94
          replace lh21_15 := lh21_15.mono hF94
          refine wf_gt rfl g92 ?_
          obtain ⟨F95, hF95, hs95, hr95, hp95⟩ := OS.frz hrr93 hs94 (i := 8) rfl
          have hs95 : HS _ _ _ [_, _, _, _, _, _, _, _, []] _ := hs95
          refine wf_call (W := []) (ap_call rfl rfl rfl) rfl rfl rfl (m6.sameInts_c 38 (succV (⟨b.ins, pickV end_ (6 : Int), b.reg, b.tgt, b.els⟩ : BlkT)) (succV (⟨b.ins, pickV end_ (6 : Int), b.reg, b.tgt, b.els⟩ : BlkT)) (HS.call hs95.log0) hr95 (hrr94.mono hF95) (hT.mono hF95) (by first | omega | (have := succ_len (b := b); omega) | exact Nat.le_trans succ_len (by omega))) (⟨.inl rfl, ⟨.inl rfl, ⟨.inl rfl, ⟨.inl rfl, ⟨.inl rfl, ⟨.inl rfl, ⟨.inl rfl, ⟨.inl rfl, ⟨.inl rfl, ⟨.inl rfl, trivial⟩⟩⟩⟩⟩⟩⟩⟩⟩⟩) ?_
          rintro _ _ ⟨r96, rfl, rfl, rfl⟩
          refine ⟨fun b hb => absurd hb List.not_mem_nil, fun lg96 hlg96 => ?_⟩
          have hs96 := HS.lg hs94.log0 hs94 hlg96
          generalize ({ { H94g with log := [] } with log := lg96 } : Heap) = H96g at hs96 ⊢
          refine wf_pure (v := (.bool (decide ((succV (⟨b.ins, pickV end_ (6 : Int), b.reg, b.tgt, b.els⟩ : BlkT)) = (succV (⟨b.ins, pickV end_ (6 : Int), b.reg, b.tgt, b.els⟩ : BlkT)))))) (id := .v) (ap_pickT rfl g92 rfl) rfl rfl (did_v rfl) (okD_v _) ?_
          refine fm (.bool (decide ((succV (⟨b.ins, pickV end_ (6 : Int), b.reg, b.tgt, b.els⟩ : BlkT)) = (succV (⟨b.ins, pickV end_ (6 : Int), b.reg, b.tgt, b.els⟩ : BlkT))))) rfl rfl rfl ?_
          refine wf_gsT (v := (decide ((succV (⟨b.ins, pickV end_ (6 : Int), b.reg, b.tgt, b.els⟩ : BlkT)) = (succV (⟨b.ins, pickV end_ (6 : Int), b.reg, b.tgt, b.els⟩ : BlkT))))) rfl rfl (fun g97 => ?_) (fun g97 => ?_)
          · have pg97 := g97
            try simp only [BS] at pg97
            refine wf_call (W := []) (ap_call rfl rfl rfl) rfl rfl rfl (ex_c 38 (HS.call hs96.log0) hT) (⟨.inl rfl, ⟨.inl rfl, ⟨.inl rfl, ⟨.inl rfl, ⟨.inl rfl, ⟨.inl rfl, ⟨.inl rfl, ⟨.inl rfl, ⟨.inl rfl, ⟨.inl rfl, ⟨.inl rfl, ⟨.inl rfl, ⟨.inl rfl, trivial⟩⟩⟩⟩⟩⟩⟩⟩⟩⟩⟩⟩⟩) ?_
            rintro _ _ ⟨r98, rfl, rfl, rfl⟩
            refine ⟨fun b hb => absurd hb List.not_mem_nil, fun lg98 hlg98 => ?_⟩
            have hs98 := HS.lg hs96.log0 hs96 hlg98
            generalize ({ { H96g with log := [] } with log := lg98 } : Heap) = H98g at hs98 ⊢
            refine wf_pure (v := (.bool true)) (id := .v) (ap_pickT rfl g97 rfl) rfl rfl (did_v rfl) (okD_v _) ?_
            refine fa (.bool true) rfl rfl rfl ?_
            refine wf_nil ?_
            exact wk_skip_nil ⟨rfl, ⟨_, (Fz.le_trans (Fz.le_trans (Fz.le_trans (Fz.le_trans (Fz.le_refl _) hF88) hF89) hF93) hF94), HS.sub hs98 (List.sublist_append_left _ _)⟩, (Lu rfl (Lu rfl (Lu rfl (Lu rfl (Lu rfl (Lu rfl (Lu rfl (Lu rfl (Lu rfl (Lu rfl (Lu rfl (Lu rfl (Lu rfl (Lu rfl (Lu rfl (Lu rfl Lr)))))))))))))))), (agC (congrArg Value.bool (show true = (decide ((succV b) = (succV b)) && decide ((succV (⟨b.ins, pickV end_ (6 : Int), b.reg, b.tgt, b.els⟩ : BlkT)) = (succV (⟨b.ins, pickV end_ (6 : Int), b.reg, b.tgt, b.els⟩ : BlkT)))) by first | rfl | simp only [↓g92, ↓g97, BT] | grind)) agN)⟩
          · have pg97 := g97
            try simp only [BS] at pg97
            refine wf_pure (v := (.bool false)) (id := .v) (ap_pickF rfl g97 rfl) rfl rfl (did_v rfl) (okD_v _) ?_
            refine fa (.bool false) rfl rfl rfl ?_
            refine wf_nil ?_
            exact wk_skip_nil ⟨rfl, ⟨_, (Fz.le_trans (Fz.le_trans (Fz.le_trans (Fz.le_trans (Fz.le_refl _) hF88) hF89) hF93) hF94), HS.sub hs96 (List.sublist_append_left _ _)⟩, (Lu rfl (Lu rfl (Lu rfl (Lu rfl (Lu rfl (Lu rfl (Lu rfl (Lu rfl (Lu rfl (Lu rfl (Lu rfl (Lu rfl (Lu rfl (Lu rfl (Lu rfl (Lu rfl Lr)))))))))))))))), (agC (congrArg Value.bool (show false = (decide ((succV b) = (succV b)) && decide ((succV (⟨b.ins, pickV end_ (6 : Int), b.reg, b.tgt, b.els⟩ : BlkT)) = (succV (⟨b.ins, pickV end_ (6 : Int), b.reg, b.tgt, b.els⟩ : BlkT)))) by first | rfl | simp only [↓g92, ↓g97, BT] | grind)) agN)⟩
        · have pg92 := g92
          try simp only [BS] at pg92
          refine wf_gf rfl g92 rfl ?_
          refine wf_gf rfl g92 rfl ?_
          refine wf_gf rfl g92 rfl ?_
          refine wf_gf rfl g92 rfl ?_
          refine wf_pure (v := (.bool false)) (id := .v) (ap_pickF rfl g92 rfl) rfl rfl (did_v rfl) (okD_v _) ?_
          refine fm (.bool false) rfl rfl rfl ?_
          refine wf_gf rfl rfl rfl ?_
          refine wf_pure (v := (.bool false)) (id := .v) (ap_pickF rfl rfl rfl) rfl rfl (did_v rfl) (okD_v _) ?_
          refine fa (.bool false) rfl rfl rfl ?_
          refine wf_nil ?_
          exact wk_skip_nil ⟨rfl, ⟨_, (Fz.le_trans (Fz.le_trans (Fz.le_refl _) hF88) hF89), HS.sub hs91 (List.sublist_append_left _ _)⟩, (Lu rfl (Lu rfl (Lu rfl (Lu rfl (Lu rfl (Lu rfl (Lu rfl (Lu rfl (Lu rfl (Lu rfl (Lu rfl (Lu rfl (Lu rfl (Lu rfl (Lu rfl (Lu rfl Lr)))))))))))))))), (agC (congrArg Value.bool (show false = (decide ((succV b) = (succV b)) && decide ((succV (⟨b.ins, pickV end_ (6 : Int), b.reg, b.tgt, b.els⟩ : BlkT)) = (succV (⟨b.ins, pickV end_ (6 : Int), b.reg, b.tgt, b.els⟩ : BlkT)))) by first | rfl | simp only [↓g92, BT] | grind)) agN)⟩
      · skip
        rintro g87 H87 ⟨F87, hF87, hs87⟩
        replace hT := hT.mono hF87
        replace hb_0 := hb_0.mono hF87
        replace hraw_5 := hraw_5.mono hF87
        replace hrx13_2 := hrx13_2.mono hF87
        replace hrx8_2 := hrx8_2.mono hF87
        replace lh21_15 := lh21_15.mono hF87
        refine wk_foc 1 rfl ?_
        refine wk_ret ⟨.inr rfl, _, rfl, (decide ((succV b) = (succV b)) && decide ((succV (⟨b.ins, pickV end_ (6 : Int), b.reg, b.tgt, b.els⟩ : BlkT)) = (succV (⟨b.ins, pickV end_ (6 : Int), b.reg, b.tgt, b.els⟩ : BlkT)))), _, (Fz.le_trans (Fz.le_trans (Fz.le_trans (Fz.le_trans (Fz.le_trans (Fz.le_trans (hF7) hF8) hF13) hF17) hF21) hF31) hF87), (HS.forget hs87), rfl, (by first | rfl | simp)⟩
end Go.Proofs.YtlabedbmgmfbaaaDoor.lo_
