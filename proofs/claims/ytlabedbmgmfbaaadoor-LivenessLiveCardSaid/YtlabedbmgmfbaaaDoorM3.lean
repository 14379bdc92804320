/-
  Which virtual code is valid: the program and the reference, each by a symbolic run. No condition but that the table lies as laid.
-/
import Derived.Test.YtlabedbmgmfbaaaDoorM2
noncomputable section
namespace Go.Proofs.YtlabedbmgmfbaaaDoor.m3
open Go.R
set_option maxRecDepth 10000
set_option linter.unusedVariables false
theorem ql {H : Heap} {b o : Nat} {cs : List Value} {w : Value} (t : TypeId) (i : Nat) (hc : HC H.get b o cs) (ha : aggOf Tryd.prog t = some false) (hv : cs[i]? = some w) : LDv Tryd.prog H t (.pointer (some ⟨b, o + i, none⟩)) w := ld1 hc ha hv
theorem qn {H : Heap} {b o : Nat} {cs l : List Value} (t : TypeId) (i n : Nat) (hc : HC H.get b o cs) (ha : aggOf Tryd.prog t = some true) (hs : szOf Tryd.prog t = some n) (hn : Nat.ble (i + n) cs.length = true) (hl : takeL (dropL cs i) n = l) : LDv Tryd.prog H t (.pointer (some ⟨b, o + i, none⟩)) (.agg ⟨l⟩) := ldN hc ha hs hn hl
open m1 m2

theorem cBlk_c (ex : FuncId) (n : Int) {ac_2 : Option Addr} {kc_2 : Nat} {b_c : Nat} (c : VFnT) (H : Heap) (hn : in64 n) (hc_c : HC H.get b_c 0 [(.int .i64 c.params), (.int .i64 c.regs), (.slice ac_2 c.blocks.length kc_2)]) (hc_0 : in64 c.params) (hc_1 : in64 c.regs) : C Tryd.prog 1 (KT 60 ex 37 tabC) 67 [(.int .i64 n), (.pointer (some ⟨b_c, 0, none⟩))] H fun v H' => ∃ (r : Bool), H' = H ∧ v = .bool r ∧ r = regOK (c.blocks.length : Int) n := by
  refine c_enter Tryd.func67 rfl rfl ?_
  refine wk_foc 1 rfl ?_
  refine wr 2 [] 3 3 [] [(3, (.bool false))] trivial (by kernel_rfl) rfl fun gg1 => ?_
  refine wr 1 [(5, .o (.slice ac_2 c.blocks.length kc_2))] 3 12 [] [(3, (.bool ((decide ((0 : Int) ≤ n)) && (decide (n < (c.blocks.length : Int))))))] (vA (fun (g1 : (decide ((0 : Int) ≤ n)) = true) => (ql 22 2 hc_c rfl rfl)) trivial) (by kernel_rfl) rfl fun gg2 => ?_
  refine wk_ret ⟨.inr rfl, _, rfl, ((decide ((0 : Int) ≤ n)) && (decide (n < (c.blocks.length : Int)))), rfl, rfl, (by rw [Bool.eq_iff_iff, regOK_iff]; simp)⟩

theorem cBlk_c_q (ex : FuncId) (n : Int) {ac_2 : Option Addr} {kc_2 : Nat} {b_c : Nat} (c : VFnT) (H : Heap) (hn : in64 n) (hc_c : HC H.get b_c 0 [(.int .i64 c.params), (.int .i64 c.regs), (.slice ac_2 c.blocks.length kc_2)]) (hc_0 : in64 c.params) (hc_1 : in64 c.regs) : C Tryd.prog 1 (KT 60 ex 37 tabC) 67 [(.int .i64 n), (.pointer (some ⟨b_c, 0, none⟩))] H fun v H' => v = (.bool (regOK (c.blocks.length : Int) n)) ∧ H' = H :=
  cq (cBlk_c ex n c H hn hc_c hc_0 hc_1) (by rintro _ _ ⟨_, rfl, rfl, rfl⟩; exact ⟨rfl, rfl⟩)

theorem cReg_c (ex : FuncId) (n : Int) {ac_2 : Option Addr} {kc_2 : Nat} {b_c : Nat} (c : VFnT) (H : Heap) (hn : in64 n) (hc_c : HC H.get b_c 0 [(.int .i64 c.params), (.int .i64 c.regs), (.slice ac_2 c.blocks.length kc_2)]) (hc_0 : in64 c.params) (hc_1 : in64 c.regs) : C Tryd.prog 1 (KT 60 ex 37 tabC) 68 [(.int .i64 n), (.pointer (some ⟨b_c, 0, none⟩))] H fun v H' => ∃ (r : Bool), H' = H ∧ v = .bool r ∧ r = regOK c.regs n := by
  refine c_enter Tryd.func68 rfl rfl ?_
  refine wk_foc 1 rfl ?_
  refine wr 2 [] 3 3 [] [(3, (.bool false))] trivial (by kernel_rfl) rfl fun gg1 => ?_
  refine wr 1 [(5, .o (.int .i64 c.regs))] 3 11 [] [(3, (.bool ((decide ((0 : Int) ≤ n)) && (decide (n < c.regs)))))] (vA (fun (g1 : (decide ((0 : Int) ≤ n)) = true) => (ql 3 1 hc_c rfl rfl)) trivial) (by kernel_rfl) rfl fun gg2 => ?_
  refine wk_ret ⟨.inr rfl, _, rfl, ((decide ((0 : Int) ≤ n)) && (decide (n < c.regs))), rfl, rfl, (by rw [Bool.eq_iff_iff, regOK_iff]; simp)⟩

theorem cReg_c_q (ex : FuncId) (n : Int) {ac_2 : Option Addr} {kc_2 : Nat} {b_c : Nat} (c : VFnT) (H : Heap) (hn : in64 n) (hc_c : HC H.get b_c 0 [(.int .i64 c.params), (.int .i64 c.regs), (.slice ac_2 c.blocks.length kc_2)]) (hc_0 : in64 c.params) (hc_1 : in64 c.regs) : C Tryd.prog 1 (KT 60 ex 37 tabC) 68 [(.int .i64 n), (.pointer (some ⟨b_c, 0, none⟩))] H fun v H' => v = (.bool (regOK c.regs n)) ∧ H' = H :=
  cq (cReg_c ex n c H hn hc_c hc_0 hc_1) (by rintro _ _ ⟨_, rfl, rfl, rfl⟩; exact ⟨rfl, rfl⟩)

theorem cRegI_c (ex : FuncId) (n : Int) {ac_2 : Option Addr} {kc_2 : Nat} {b_c : Nat} (c : VFnT) (H : Heap) (hn : in64 n) (hc_c : HC H.get b_c 0 [(.int .i64 c.params), (.int .i64 c.regs), (.slice ac_2 c.blocks.length kc_2)]) (hc_0 : in64 c.params) (hc_1 : in64 c.regs) : C Tryd.prog 1 (KT 60 ex 37 tabC) 82 [(.int .i64 n), (.pointer (some ⟨b_c, 0, none⟩))] H fun v H' => ∃ (r : Bool), H' = H ∧ v = .bool r ∧ r = regOK c.regs n := by
  refine c_enter Tryd.func82 rfl rfl ?_
  refine wk_foc 1 rfl ?_
  refine wr 2 [] 3 3 [] [(3, (.bool false))] trivial (by kernel_rfl) rfl fun gg1 => ?_
  refine wr 1 [(5, .o (.int .i64 c.regs))] 3 11 [] [(3, (.bool ((decide ((0 : Int) ≤ n)) && (decide (n < c.regs)))))] (vA (fun (g1 : (decide ((0 : Int) ≤ n)) = true) => (ql 3 1 hc_c rfl rfl)) trivial) (by kernel_rfl) rfl fun gg2 => ?_
  refine wk_ret ⟨.inr rfl, _, rfl, ((decide ((0 : Int) ≤ n)) && (decide (n < c.regs))), rfl, rfl, (by rw [Bool.eq_iff_iff, regOK_iff]; simp)⟩

theorem cRegI_c_q (ex : FuncId) (n : Int) {ac_2 : Option Addr} {kc_2 : Nat} {b_c : Nat} (c : VFnT) (H : Heap) (hn : in64 n) (hc_c : HC H.get b_c 0 [(.int .i64 c.params), (.int .i64 c.regs), (.slice ac_2 c.blocks.length kc_2)]) (hc_0 : in64 c.params) (hc_1 : in64 c.regs) : C Tryd.prog 1 (KT 60 ex 37 tabC) 82 [(.int .i64 n), (.pointer (some ⟨b_c, 0, none⟩))] H fun v H' => v = (.bool (regOK c.regs n)) ∧ H' = H :=
  cq (cRegI_c ex n c H hn hc_c hc_0 hc_1) (by rintro _ _ ⟨_, rfl, rfl, rfl⟩; exact ⟨rfl, rfl⟩)

theorem vform_c (ex : FuncId) (op : Int) {F : Fz} {H : Heap} {R : List Fp} (hs : HS (.of H []) F H [] R) (hop : in64 op) (hT : TB 37 tabC F) : C Tryd.prog 1 (KT 60 ex 37 tabC) 83 [(.int .i64 op)] H fun v H' => ∃ (r : Int) (F' : Fz), Fz.le F F' ∧ HS (.of H []) F' H' [] R ∧ v = .int .i64 r ∧ r = vformV op := by
  refine c_enter Tryd.func83 rfl rfl ?_
  refine wk_foc 1 rfl ?_
  refine wr 3 [] 2 2 [] [(2, (.int .i64 0))] trivial (by kernel_rfl) rfl fun gg1 => ?_
  refine wr 1 [] 5 6 [] [(6, (.bool (op == 38)))] trivial (by kernel_rfl) rfl fun gg2 => ?_
  refine wk_if 1 2 (v := (op == 38)) rfl rfl rfl rfl (fun c3b => ?_) (fun c3b => ?_)
  · have c3 := c3b
    try simp only [BS] at c3
    refine wr 1 [] 2 2 [] [(2, (.int .i64 5))] trivial (by kernel_rfl) rfl fun gg4 => ?_
    refine wk_ret ⟨.inr rfl, _, rfl, 5, _, (Fz.le_refl _), (HS.forget hs), rfl, (by unfold vformV; split <;> first | rfl | omega)⟩
  · have c3 := c3b
    try simp only [BS] at c3
    refine wk_region ?_
    refine wm (.int .i64 op) rfl rfl rfl ?_
    refine wo_call (ap_call rfl rfl rfl) rfl rfl (m1.mInfo_c ex op (HS.call hs) (by omega) hT) ?_
    rintro _ H5 ⟨x5, o5, F5, hF5, hs5, rfl, hgx5_1, hgx5_6, rfl, rfl⟩
    replace hs5 := HS.back hs rfl hs5
    have hs5 : HS _ _ _ [] _ := hs5
    replace hT := hT.mono hF5
    refine wro 3 2 [] 10 11 [7] [(10, (.agg ⟨[(.string ⟨⟨(infV op).name.b⟩⟩), (.int .i64 ((infV op).form)), (.bool ((infV op).ra)), (.bool ((infV op).wa)), (.bool ((infV op).rb)), (.bool ((infV op).mt)), (.int .i64 ((infV op).words))]⟩)), (11, (.bool (infO op)))] trivial (by kernel_rfl) rfl fun gg6 => ?_
    refine wo_rs (rs_new hs5 rfl) rfl rfl ?_
    rintro _ H8 _ ⟨b7, rfl, hs8, _⟩
    have hs8 : HS _ _ _ [[(b7, .cells [(.string ⟨⟨[]⟩⟩), (.int .i64 0), (.bool false), (.bool false), (.bool false), (.bool false), (.int .i64 0)] none false)]] _ := hs8
    refine wo_rk (rs_rec (q := 0) hs8 rfl rfl rfl rfl rfl rfl rfl rfl rfl) rfl ?_
    rintro _ H9 _ ⟨hs9, _⟩
    have hs9 : HS _ _ _ [[(b7, .cells [(.string ⟨⟨(infV op).name.b⟩⟩), (.int .i64 ((infV op).form)), (.bool ((infV op).ra)), (.bool ((infV op).wa)), (.bool ((infV op).rb)), (.bool ((infV op).mt)), (.int .i64 ((infV op).words))] none false)]] _ := hs9
    refine wa (.bool (infO op)) rfl rfl rfl ?_
    refine wo_end 2 rfl ?_
    refine wr 1 [(1, .o (.int .i64 ((infV op).form)))] 12 13 [2] [(2, (.int .i64 ((infV op).form)))] (vA (ql 3 1 (HS.hc hs9 (i := 0) rfl) rfl rfl) trivial) (by kernel_rfl) rfl fun gg10 => ?_
    refine wk_ret ⟨.inr rfl, _, rfl, (infV op).form, _, (hF5), (HS.forget hs9), rfl, (by unfold vformV; split <;> first | rfl | omega)⟩

theorem rinfo_c (ex : FuncId) (op : Int) {F : Fz} {H : Heap} {R : List Fp} (hs : HS (.of H []) F H [] R) (hop : in64 op) (hT : TB 37 tabC F) : C Tryd.prog 1 (KT 60 ex 37 tabC) 65 [(.int .i64 op)] H fun v H' => ∃ (x : InfT) (F' : Fz), Fz.le F F' ∧ HS (.of H []) F' H' [] R ∧ v = .agg ⟨[.string ⟨⟨x.name.b⟩⟩, .int .i64 x.form, .bool x.ra, .bool x.wa, .bool x.rb, .bool x.mt, .int .i64 x.words]⟩ ∧ in64 x.form ∧ in64 x.words ∧ x = vinfV op := by
  refine c_enter Tryd.func65 rfl rfl ?_
  refine wk_foc 1 rfl ?_
  refine wk_region ?_
  refine wo_rs (rs_new hs rfl) rfl rfl ?_
  rintro _ H2 _ ⟨b1, rfl, hs2, _⟩
  have hs2 : HS _ _ _ [[(b1, .cells [(.string ⟨⟨[]⟩⟩), (.int .i64 0), (.bool false), (.bool false), (.bool false), (.bool false), (.int .i64 0)] none false)]] _ := hs2
  refine wo_end 3 rfl ?_
  refine wr 1 [] 5 6 [] [(6, (.bool (op == 38)))] trivial (by kernel_rfl) rfl fun gg3 => ?_
  refine wk_if 1 2 (v := (op == 38)) rfl rfl rfl rfl (fun c4b => ?_) (fun c4b => ?_)
  · have c4 := c4b
    try simp only [BS] at c4
    refine wk_region ?_
    refine wro 1 0 [] 7 7 [] [(7, (.agg ⟨[(.string ⟨⟨[]⟩⟩), (.int .i64 5), (.bool false), (.bool true), (.bool false), (.bool false), (.int .i64 0)]⟩))] trivial (by kernel_rfl) rfl fun gg5 => ?_
    refine wo_rk (rs_rec (q := 0) hs2 rfl rfl rfl rfl rfl rfl rfl rfl rfl) rfl ?_
    rintro _ H6 _ ⟨hs6, _⟩
    have hs6 : HS _ _ _ [[(b1, .cells [(.string ⟨⟨[]⟩⟩), (.int .i64 5), (.bool false), (.bool true), (.bool false), (.bool false), (.int .i64 0)] none false)]] _ := hs6
    refine wo_end 1 rfl ?_
    refine wk_ret ⟨.inr rfl, _, (rC rfl (ldVN rfl rfl (HS.hc hs6 (i := 0) rfl) rfl) rN), (⟨⟨[]⟩, 5, false, true, false, false, 0⟩ : InfT), _, (Fz.le_refl _), (HS.forget hs6), rfl, (by first | omega | (dsimp only; omega)), (by first | omega | (dsimp only; omega)), (by unfold vinfV; split <;> first | rfl | omega)⟩
  · have c4 := c4b
    try simp only [BS] at c4
    refine wk_region ?_
    refine wm (.int .i64 op) rfl rfl rfl ?_
    refine wo_call (ap_call rfl rfl rfl) rfl rfl (m1.rInfo_c ex op (HS.call hs2) (by first | omega | (dsimp only; omega)) hT) ?_
    rintro _ H7 ⟨x7, o7, F7, hF7, hs7, rfl, hgx7_1, hgx7_6, rfl, rfl⟩
    replace hs7 := HS.back hs2 rfl hs7
    have hs7 : HS _ _ _ [_] _ := hs7
    replace hT := hT.mono hF7
    refine wro 3 2 [] 11 12 [8] [(11, (.agg ⟨[(.string ⟨⟨(infV op).name.b⟩⟩), (.int .i64 ((infV op).form)), (.bool ((infV op).ra)), (.bool ((infV op).wa)), (.bool ((infV op).rb)), (.bool ((infV op).mt)), (.int .i64 ((infV op).words))]⟩)), (12, (.bool (infO op)))] trivial (by kernel_rfl) rfl fun gg8 => ?_
    refine wo_rs (rs_new hs7 rfl) rfl rfl ?_
    rintro _ H10 _ ⟨b9, rfl, hs10, _⟩
    have hs10 : HS _ _ _ [_, [(b9, .cells [(.string ⟨⟨[]⟩⟩), (.int .i64 0), (.bool false), (.bool false), (.bool false), (.bool false), (.int .i64 0)] none false)]] _ := hs10
    refine wo_rk (rs_rec (q := 1) hs10 rfl rfl rfl rfl rfl rfl rfl rfl rfl) rfl ?_
    rintro _ H11 _ ⟨hs11, _⟩
    have hs11 : HS _ _ _ [_, [(b9, .cells [(.string ⟨⟨(infV op).name.b⟩⟩), (.int .i64 ((infV op).form)), (.bool ((infV op).ra)), (.bool ((infV op).wa)), (.bool ((infV op).rb)), (.bool ((infV op).mt)), (.int .i64 ((infV op).words))] none false)]] _ := hs11
    refine wa (.bool (infO op)) rfl rfl rfl ?_
    refine wo_end 2 rfl ?_
    refine wk_region ?_
    refine wro 1 0 [(0, .o (.agg ⟨[(.string ⟨⟨(infV op).name.b⟩⟩), (.int .i64 ((infV op).form)), (.bool ((infV op).ra)), (.bool ((infV op).wa)), (.bool ((infV op).rb)), (.bool ((infV op).mt)), (.int .i64 ((infV op).words))]⟩))] 13 13 [] [(13, (.agg ⟨[(.string ⟨⟨(infV op).name.b⟩⟩), (.int .i64 ((infV op).form)), (.bool ((infV op).ra)), (.bool ((infV op).wa)), (.bool ((infV op).rb)), (.bool ((infV op).mt)), (.int .i64 ((infV op).words))]⟩))] (vA (qn 96 0 7 (HS.hc hs11 (i := 1) rfl) rfl rfl rfl rfl) trivial) (by kernel_rfl) rfl fun gg12 => ?_
    refine wo_rk (rs_rec (q := 0) hs11 rfl rfl rfl rfl rfl rfl rfl rfl rfl) rfl ?_
    rintro _ H13 _ ⟨hs13, _⟩
    have hs13 : HS _ _ _ [[(b1, .cells [(.string ⟨⟨(infV op).name.b⟩⟩), (.int .i64 ((infV op).form)), (.bool ((infV op).ra)), (.bool ((infV op).wa)), (.bool ((infV op).rb)), (.bool ((infV op).mt)), (.int .i64 ((infV op).words))] none false)], _] _ := hs13
    refine wo_end 1 rfl ?_
    refine wk_ret ⟨.inr rfl, _, (rC rfl (ldVN rfl rfl (HS.hc hs13 (i := 0) rfl) rfl) rN), (⟨⟨(infV op).name.b⟩, (infV op).form, (infV op).ra, (infV op).wa, (infV op).rb, (infV op).mt, (infV op).words⟩ : InfT), _, (hF7), (HS.forget hs13), rfl, (by first | omega | (dsimp only; omega)), (by first | omega | (dsimp only; omega)), (by unfold vinfV; split <;> first | rfl | omega)⟩

theorem rOperand_c (ex : FuncId) (has : Bool) (n : Int) (regs : Int) (H : Heap) (hn : in64 n) (hregs : in64 regs) : C Tryd.prog 1 (KT 60 ex 37 tabC) 84 [(.bool has), (.int .i64 n), (.int .i64 regs)] H fun v H' => ∃ (r : Bool), H' = H ∧ v = .bool r ∧ r = opOK has n regs := by
  refine c_enter Tryd.func84 rfl rfl ?_
  refine wk_foc 1 rfl ?_
  refine wr 3 [] 6 6 [] [(6, (.bool false))] trivial (by kernel_rfl) rfl fun gg1 => ?_
  refine wr 1 [] 7 7 [] [(7, (.bool has))] trivial (by kernel_rfl) rfl fun gg2 => ?_
  refine wk_if 1 2 (v := has) rfl rfl rfl rfl (fun c3b => ?_) (fun c3b => ?_)
  · have c3 := c3b
    try simp only [BS] at c3
    refine wr 1 [] 8 14 [6] [(6, (.bool ((decide ((0 : Int) ≤ n)) && (decide (n < regs)))))] trivial (by kernel_rfl) rfl fun gg4 => ?_
    refine wk_ret ⟨.inr rfl, _, rfl, ((decide ((0 : Int) ≤ n)) && (decide (n < regs))), rfl, rfl, (by rw [Bool.eq_iff_iff]; unfold opOK; simp [regOK_iff, c3b])⟩
  · have c3 := c3b
    try simp only [BS] at c3
    refine wr 1 [] 15 16 [6] [(6, (.bool (n == 0)))] trivial (by kernel_rfl) rfl fun gg5 => ?_
    refine wk_ret ⟨.inr rfl, _, rfl, (n == 0), rfl, rfl, (by rw [Bool.eq_iff_iff]; unfold opOK; simp [regOK_iff, c3b])⟩

theorem rOperand_c_q (ex : FuncId) (has : Bool) (n : Int) (regs : Int) (H : Heap) (hn : in64 n) (hregs : in64 regs) : C Tryd.prog 1 (KT 60 ex 37 tabC) 84 [(.bool has), (.int .i64 n), (.int .i64 regs)] H fun v H' => v = (.bool (opOK has n regs)) ∧ H' = H :=
  cq (rOperand_c ex has n regs H hn hregs) (by rintro _ _ ⟨_, rfl, rfl, rfl⟩; exact ⟨rfl, rfl⟩)

set_option maxHeartbeats 1000000 in
theorem vinstr_c (ex : FuncId) {ac_2 : Option Addr} {kc_2 : Nat} (c : VFnT) {aiv_5 : Option Addr} {kiv_5 : Nat} (iv : VInT) {F : Fz} {H : Heap} {R : List Fp} (hs : HS (.of H []) F H [] R) (hc_0 : in64 c.params) (hc_1 : in64 c.regs) (hc_2 : SR F (.slice ac_2 c.blocks.length kc_2) c.blocks) (hiv_0 : in64 iv.i.op) (hiv_1 : in64 iv.i.a) (hiv_2 : in64 iv.i.b) (hiv_3 : in64 iv.i.c) (hiv_4 : in64 iv.i.n) (hiv_5 : SR F (.slice aiv_5 iv.args.length kiv_5) iv.args) (hT : TB 37 tabC F) : C Tryd.prog 1 (KT 60 ex 37 tabC) 69 [(.agg ⟨[(.int .i64 c.params), (.int .i64 c.regs), (.slice ac_2 c.blocks.length kc_2)]⟩), (.agg ⟨[(.int .i64 iv.i.op), (.int .i64 iv.i.a), (.int .i64 iv.i.b), (.int .i64 iv.i.c), (.int .i64 iv.i.n), (.slice aiv_5 iv.args.length kiv_5)]⟩)] H fun v H' => ∃ (r : Bool) (F' : Fz), Fz.le F F' ∧ HS (.of H []) F' H' [] R ∧ v = .bool r ∧ r = vinV c.params c.regs iv := by
  refine c_enter Tryd.func69 rfl rfl ?_
  refine wk_foc 1 rfl ?_
  refine wk_region ?_
  refine wo_rs (rs_box hs rfl rfl) rfl rfl ?_
  rintro _ H2 _ ⟨b1, rfl, hs2, _⟩
  have hs2 : HS _ _ _ [[(b1, .cells [(.int .i64 c.params), (.int .i64 c.regs), (.slice ac_2 c.blocks.length kc_2)] none false)]] _ := hs2
  refine wo_rs (rs_box hs2 rfl rfl) rfl rfl ?_
  rintro _ H4 _ ⟨b3, rfl, hs4, _⟩
  have hs4 : HS _ _ _ [_, [(b3, .cells [(.int .i64 iv.i.op), (.int .i64 iv.i.a), (.int .i64 iv.i.b), (.int .i64 iv.i.c), (.int .i64 iv.i.n), (.slice aiv_5 iv.args.length kiv_5)] none false)]] _ := hs4
  refine wa (.bool false) rfl rfl rfl ?_
  refine wo_end 2 rfl ?_
  refine wk_region ?_
  refine wro 2 0 [(1, .o (.agg ⟨[(.int .i64 iv.i.op), (.int .i64 iv.i.a), (.int .i64 iv.i.b), (.int .i64 iv.i.c), (.int .i64 iv.i.n)]⟩))] 13 14 [] [(14, (.agg ⟨[(.int .i64 iv.i.op), (.int .i64 iv.i.a), (.int .i64 iv.i.b), (.int .i64 iv.i.c), (.int .i64 iv.i.n)]⟩))] (vA (qn 45 0 5 (HS.hc hs4 (i := 1) rfl) rfl rfl rfl rfl) trivial) (by kernel_rfl) rfl fun gg5 => ?_
  refine wo_rs (rs_new hs4 rfl) rfl rfl ?_
  rintro _ H7 _ ⟨b6, rfl, hs7, _⟩
  have hs7 : HS _ _ _ [_, _, [(b6, .cells [(.int .i64 0), (.int .i64 0), (.int .i64 0), (.int .i64 0), (.int .i64 0)] none false)]] _ := hs7
  refine wo_rk (rs_rec (q := 2) hs7 rfl rfl rfl rfl rfl rfl rfl rfl rfl) rfl ?_
  rintro _ H8 _ ⟨hs8, _⟩
  have hs8 : HS _ _ _ [_, _, [(b6, .cells [(.int .i64 iv.i.op), (.int .i64 iv.i.a), (.int .i64 iv.i.b), (.int .i64 iv.i.c), (.int .i64 iv.i.n)] none false)]] _ := hs8
  refine wo_end 3 rfl ?_
  refine wr 1 [(1, .o (.int .i64 iv.i.op)), (2, .o (.bool (alV iv.i.op))), (6, .o (.slice aiv_5 iv.args.length kiv_5)), (12, .o (.int .i64 iv.i.op)), (16, .o (.slice aiv_5 iv.args.length kiv_5))] 15 35 [] [(35, (.bool (((!(alV iv.i.op)) || (decide ((6 : Int) < (iv.args.length : Int)))) || ((iv.i.op != 6) && (decide ((0 : Int) < (iv.args.length : Int)))))))] (vA (ql 3 0 (HS.hc hs8 (i := 2) rfl) rfl rfl) (vA (m1.valw_c_q ex iv.i.op H8) (vA (fun (g1 : (!(alV iv.i.op)) = false) => (ql 25 5 (HS.hc hs8 (i := 1) rfl) rfl rfl)) (vA (fun (g1 : ((!(alV iv.i.op)) || (decide ((6 : Int) < (iv.args.length : Int)))) = false) => (ql 3 0 (HS.hc hs8 (i := 2) rfl) rfl rfl)) (vA (fun (g1 : (iv.i.op != 6) = true) (g2 : ((!(alV iv.i.op)) || (decide ((6 : Int) < (iv.args.length : Int)))) = false) => (ql 25 5 (HS.hc hs8 (i := 1) rfl) rfl rfl)) trivial))))) (by kernel_rfl) rfl fun gg9 => ?_
  refine wk_if 1 2 (v := (((!(alV iv.i.op)) || (decide ((6 : Int) < (iv.args.length : Int)))) || ((iv.i.op != 6) && (decide ((0 : Int) < (iv.args.length : Int)))))) rfl rfl rfl rfl (fun c10b => ?_) (fun c10b => ?_)
  · have c10 := c10b
    try simp only [BS] at c10
    have hbad := c10
    refine wr 1 [] 4 4 [] [(4, (.bool false))] trivial (by kernel_rfl) rfl fun gg11 => ?_
    refine wk_ret ⟨.inr rfl, _, rfl, false, _, (Fz.le_refl _), (HS.forget hs8), rfl, (by exact vin_bad hbad)⟩
  · have c10 := c10b
    try simp only [BS] at c10
    have hal : alV iv.i.op = true := (c10).1.1
    have h6 : iv.i.op = 6 ∨ iv.args.length = 0 := by omega
    have hl6 : iv.args.length ≤ 6 := by omega
    refine wr 3 [] 36 36 [6] [(6, (.func (.func 82) #[] #[(.pointer (some ⟨b1, 0, none⟩))]))] trivial (by kernel_rfl) rfl fun gg12 => ?_
    refine wr 2 [(1, .o (.slice aiv_5 iv.args.length kiv_5))] 37 40 [] [(38, (.slice aiv_5 iv.args.length kiv_5)), (39, (.int .i64 (iv.args.length : Int))), (40, (.int .i64 0))] (vA (ql 25 5 (HS.hc hs8 (i := 1) rfl) rfl rfl) trivial) (by kernel_rfl) rfl fun gg13 => ?_
    refine wk_loop_inv (fun (mm : Nat) f H' => ∃ (k : Nat) (F' : Fz), Fz.le F F' ∧ HS (Base.of H []) F' H' [[(b1, .cells [(.int .i64 c.params), (.int .i64 c.regs), (.slice ac_2 c.blocks.length kc_2)] none false)], [(b3, .cells [(.int .i64 iv.i.op), (.int .i64 iv.i.a), (.int .i64 iv.i.b), (.int .i64 iv.i.c), (.int .i64 iv.i.n), (.slice aiv_5 iv.args.length kiv_5)] none false)], [(b6, .cells [(.int .i64 iv.i.op), (.int .i64 iv.i.a), (.int .i64 iv.i.b), (.int .i64 iv.i.c), (.int .i64 iv.i.n)] none false)]] R ∧ agrees f [(2, (.pointer (some ⟨b1, 0, none⟩))), (5, (.pointer (some ⟨b6, 0, none⟩))), (6, (.func (.func 82) #[] #[(.pointer (some ⟨b1, 0, none⟩))])), (38, (.slice aiv_5 iv.args.length kiv_5)), (39, (.int .i64 (iv.args.length : Int))), (40, (.int .i64 (k : Int)))] ∧ mm = iv.args.length - k ∧ (k ≤ iv.args.length) ∧ (∀ j, j < k → regOK c.regs (iv.args.getD j default) = true)) _ ⟨0, _, (Fz.le_refl _), hs8, (agC rfl (agC rfl (agC rfl (agC rfl (agC rfl (agC rfl agN)))))), rfl, (by first | assumption | omega | (simp at *; omega)), (by exact upto_zero)⟩ ?_
    rintro mm14 f14 H14 ⟨k, F14, hF14, hs14, hf14, rfl, hk, ha⟩ ih14
    refine wk_canon _ hf14 (fun gg14 => ?_)
    clear hf14
    replace hT := hT.mono hF14
    replace hc_2 := hc_2.mono hF14
    replace hiv_5 := hiv_5.mono hF14
    refine wk_foc 1 rfl ?_
    refine wr 2 [] 41 41 [] [(41, (.bool (decide ((k : Int) < (iv.args.length : Int)))))] trivial (by kernel_rfl) rfl fun gg15 => ?_
    refine wk_if 4 5 (v := (decide ((k : Int) < (iv.args.length : Int)))) rfl rfl rfl rfl (fun c16b => ?_) (fun c16b => ?_)
    · have c16 := c16b
      try simp only [BS] at c16
      obtain ⟨cf17, hv17⟩ := Sv.view (SR.sv hiv_5 hs14)
      have g18 := fI (hv17 k)
      refine wr 2 [(1, .o (.int .i64 (iv.args.getD k 0)))] 42 43 [8] [(8, (.int .i64 (iv.args.getD k 0)))] (vA (Sv.ix (j := (k : Int)) (SR.sv hiv_5 hs14) (by omega) (by omega)) (vA (ql 3 0 (vI (hv17 k) (by omega)) rfl rfl) trivial)) (by kernel_rfl) rfl fun gg19 => ?_
      refine wr 1 [(2, .o (.bool (regOK (⟨c.params, c.regs, c.blocks⟩ : VFnT).regs (iv.args.getD k 0))))] 44 47 [] [(47, (.bool (!(regOK (⟨c.params, c.regs, c.blocks⟩ : VFnT).regs (iv.args.getD k 0)))))] (vA (cRegI_c_q ex (iv.args.getD k 0) (⟨c.params, c.regs, c.blocks⟩ : VFnT) H14 (by omega) (HS.hc hs14 (i := 0) rfl) (by omega) (by omega)) trivial) (by kernel_rfl) rfl fun gg20 => ?_
      refine wk_if 1 2 (v := (!(regOK (⟨c.params, c.regs, c.blocks⟩ : VFnT).regs (iv.args.getD k 0)))) rfl rfl rfl rfl (fun c21b => ?_) (fun c21b => ?_)
      · have c21 := c21b
        try simp only [BS] at c21
        have hb2 := c21
        refine wr 1 [] 4 4 [] [(4, (.bool false))] trivial (by kernel_rfl) rfl fun gg22 => ?_
        refine wk_ret ⟨.inr rfl, _, rfl, false, _, (hF14), (HS.forget hs14), rfl, (by exact vin_no (all_not (by omega) hb2))⟩
      · have c21 := c21b
        try simp only [BS] at c21
        refine wr 1 [] 40 40 [48] [(40, (.int .i64 ((k : Int) + 1)))] (vA (vi (n := (k : Int) + 1) (by omega)) trivial) (by kernel_rfl) rfl fun gg23 => ?_
        refine ih14 _ _ _ ?_ ⟨k + 1, _, (hF14), hs14, (agC rfl (agC rfl (agC rfl (agC rfl (agC rfl (agC rfl agN)))))), rfl, (by first | assumption | omega | (simp at *; omega)), (by exact upto_succ ha (by assumption))⟩
        omega
    · have c16 := c16b
      try simp only [BS] at c16
      have hall := upto_all ha (by omega)
      refine wr 3 [] 1 0 [9, 10, 11, 12] [(9, (.bool false)), (10, (.bool false)), (11, (.bool false)), (12, (.bool false))] trivial (by kernel_rfl) rfl fun gg24 => ?_
      refine wk_region ?_
      refine wro 2 0 [(1, .o (.int .i64 iv.i.op))] 49 50 [] [(50, (.int .i64 iv.i.op))] (vA (ql 3 0 (HS.hc hs14 (i := 2) rfl) rfl rfl) trivial) (by kernel_rfl) rfl fun gg25 => ?_
      refine wo_call (ap_call rfl rfl rfl) rfl rfl (vform_c ex iv.i.op (HS.call hs14) (by omega) hT) ?_
      rintro _ H26 ⟨r26, F26, hF26, hs26, rfl, rfl⟩
      replace hs26 := HS.back hs14 rfl hs26
      have hs26 : HS _ _ _ [_, _, _] _ := hs26
      replace hT := hT.mono hF26
      replace hc_2 := hc_2.mono hF26
      replace hiv_5 := hiv_5.mono hF26
      refine wo_end 3 rfl ?_
      refine wr 1 [] 52 53 [] [(52, (.bool (vformV iv.i.op == 2)))] trivial (by kernel_rfl) rfl fun gg27 => ?_
      refine wk_join (fun f H' => ∃ (av : Bool) (bv : Bool) (dv : Bool) (nv : Bool), H' = H26 ∧ agrees f [(2, (.pointer (some ⟨b1, 0, none⟩))), (5, (.pointer (some ⟨b6, 0, none⟩))), (6, (.func (.func 82) #[] #[(.pointer (some ⟨b1, 0, none⟩))])), (9, (.bool av)), (10, (.bool bv)), (11, (.bool dv)), (12, (.bool nv))] ∧ (av = decide (vformV iv.i.op ≠ 1)) ∧ (bv = decide (vformV iv.i.op = 3 ∨ vformV iv.i.op = 4 ∨ vformV iv.i.op = 7)) ∧ (dv = decide (vformV iv.i.op = 4)) ∧ (nv = decide (vformV iv.i.op = 5 ∨ vformV iv.i.op = 7))) (fun jn28 => ?_) ?_
      · skip
        refine wk_if 0 1 (v := (vformV iv.i.op == 2)) rfl rfl rfl rfl (fun c29b => ?_) (fun c29b => ?_)
        · have c29 := c29b
          try simp only [BS] at c29
          refine wr 0 [] 1 0 [9] [(9, (.bool true))] trivial (by kernel_rfl) rfl fun gg30 => ?_
          exact jn28 _ _ ⟨true, false, false, false, rfl, (agC rfl (agC rfl (agC rfl (agC rfl (agC rfl (agC rfl (agC rfl agN))))))), (by first | (symm; apply decide_eq_true; omega) | (symm; apply decide_eq_false; have hf := vform_cases hal; omega)), (by first | (symm; apply decide_eq_true; omega) | (symm; apply decide_eq_false; have hf := vform_cases hal; omega)), (by first | (symm; apply decide_eq_true; omega) | (symm; apply decide_eq_false; have hf := vform_cases hal; omega)), (by first | (symm; apply decide_eq_true; omega) | (symm; apply decide_eq_false; have hf := vform_cases hal; omega))⟩
        · have c29 := c29b
          try simp only [BS] at c29
          refine wr 1 [] 54 55 [] [(54, (.bool (vformV iv.i.op == 3)))] trivial (by kernel_rfl) rfl fun gg31 => ?_
          refine wk_if 0 1 (v := (vformV iv.i.op == 3)) rfl rfl rfl rfl (fun c32b => ?_) (fun c32b => ?_)
          · have c32 := c32b
            try simp only [BS] at c32
            refine wr 0 [] 1 0 [9, 10] [(9, (.bool true)), (10, (.bool true))] trivial (by kernel_rfl) rfl fun gg33 => ?_
            exact jn28 _ _ ⟨true, true, false, false, rfl, (agC rfl (agC rfl (agC rfl (agC rfl (agC rfl (agC rfl (agC rfl agN))))))), (by first | (symm; apply decide_eq_true; omega) | (symm; apply decide_eq_false; have hf := vform_cases hal; omega)), (by first | (symm; apply decide_eq_true; omega) | (symm; apply decide_eq_false; have hf := vform_cases hal; omega)), (by first | (symm; apply decide_eq_true; omega) | (symm; apply decide_eq_false; have hf := vform_cases hal; omega)), (by first | (symm; apply decide_eq_true; omega) | (symm; apply decide_eq_false; have hf := vform_cases hal; omega))⟩
          · have c32 := c32b
            try simp only [BS] at c32
            refine wr 1 [] 56 57 [] [(56, (.bool (vformV iv.i.op == 4)))] trivial (by kernel_rfl) rfl fun gg34 => ?_
            refine wk_if 0 1 (v := (vformV iv.i.op == 4)) rfl rfl rfl rfl (fun c35b => ?_) (fun c35b => ?_)
            · have c35 := c35b
              try simp only [BS] at c35
              refine wr 0 [] 1 0 [9, 10, 11] [(9, (.bool true)), (10, (.bool true)), (11, (.bool true))] trivial (by kernel_rfl) rfl fun gg36 => ?_
              exact jn28 _ _ ⟨true, true, true, false, rfl, (agC rfl (agC rfl (agC rfl (agC rfl (agC rfl (agC rfl (agC rfl agN))))))), (by first | (symm; apply decide_eq_true; omega) | (symm; apply decide_eq_false; have hf := vform_cases hal; omega)), (by first | (symm; apply decide_eq_true; omega) | (symm; apply decide_eq_false; have hf := vform_cases hal; omega)), (by first | (symm; apply decide_eq_true; omega) | (symm; apply decide_eq_false; have hf := vform_cases hal; omega)), (by first | (symm; apply decide_eq_true; omega) | (symm; apply decide_eq_false; have hf := vform_cases hal; omega))⟩
            · have c35 := c35b
              try simp only [BS] at c35
              refine wr 1 [] 58 59 [] [(58, (.bool (vformV iv.i.op == 5)))] trivial (by kernel_rfl) rfl fun gg37 => ?_
              refine wk_if 0 1 (v := (vformV iv.i.op == 5)) rfl rfl rfl rfl (fun c38b => ?_) (fun c38b => ?_)
              · have c38 := c38b
                try simp only [BS] at c38
                refine wr 0 [] 1 0 [9, 12] [(9, (.bool true)), (12, (.bool true))] trivial (by kernel_rfl) rfl fun gg39 => ?_
                exact jn28 _ _ ⟨true, false, false, true, rfl, (agC rfl (agC rfl (agC rfl (agC rfl (agC rfl (agC rfl (agC rfl agN))))))), (by first | (symm; apply decide_eq_true; omega) | (symm; apply decide_eq_false; have hf := vform_cases hal; omega)), (by first | (symm; apply decide_eq_true; omega) | (symm; apply decide_eq_false; have hf := vform_cases hal; omega)), (by first | (symm; apply decide_eq_true; omega) | (symm; apply decide_eq_false; have hf := vform_cases hal; omega)), (by first | (symm; apply decide_eq_true; omega) | (symm; apply decide_eq_false; have hf := vform_cases hal; omega))⟩
              · have c38 := c38b
                try simp only [BS] at c38
                refine wr 1 [] 60 61 [] [(60, (.bool (vformV iv.i.op == 7)))] trivial (by kernel_rfl) rfl fun gg40 => ?_
                refine wk_if 0 0 (v := (vformV iv.i.op == 7)) rfl rfl rfl rfl (fun c41b => ?_) (fun c41b => ?_)
                · have c41 := c41b
                  try simp only [BS] at c41
                  refine wr 0 [] 1 0 [9, 10, 12] [(9, (.bool true)), (10, (.bool true)), (12, (.bool true))] trivial (by kernel_rfl) rfl fun gg42 => ?_
                  exact jn28 _ _ ⟨true, true, false, true, rfl, (agC rfl (agC rfl (agC rfl (agC rfl (agC rfl (agC rfl (agC rfl agN))))))), (by first | (symm; apply decide_eq_true; omega) | (symm; apply decide_eq_false; have hf := vform_cases hal; omega)), (by first | (symm; apply decide_eq_true; omega) | (symm; apply decide_eq_false; have hf := vform_cases hal; omega)), (by first | (symm; apply decide_eq_true; omega) | (symm; apply decide_eq_false; have hf := vform_cases hal; omega)), (by first | (symm; apply decide_eq_true; omega) | (symm; apply decide_eq_false; have hf := vform_cases hal; omega))⟩
                · have c41 := c41b
                  try simp only [BS] at c41
                  exact jn28 _ _ ⟨false, false, false, false, rfl, (agC rfl (agC rfl (agC rfl (agC rfl (agC rfl (agC rfl (agC rfl agN))))))), (by first | (symm; apply decide_eq_true; omega) | (symm; apply decide_eq_false; have hf := vform_cases hal; omega)), (by first | (symm; apply decide_eq_true; omega) | (symm; apply decide_eq_false; have hf := vform_cases hal; omega)), (by first | (symm; apply decide_eq_true; omega) | (symm; apply decide_eq_false; have hf := vform_cases hal; omega)), (by first | (symm; apply decide_eq_true; omega) | (symm; apply decide_eq_false; have hf := vform_cases hal; omega))⟩
      · skip
        rintro f28 H26 ⟨av, bv, dv, nv, rfl, hf28, hav, hbv, hdv, hnv⟩
        refine wk_canon _ hf28 (fun gg28 => ?_)
        clear hf28
        refine wk_foc 4 rfl ?_
        refine wr 1 [(4, .o (.int .i64 iv.i.a)), (5, .o (.bool (regOK (⟨c.params, c.regs, c.blocks⟩ : VFnT).regs iv.i.a))), (13, .o (.int .i64 iv.i.b)), (14, .o (.bool (regOK (⟨c.params, c.regs, c.blocks⟩ : VFnT).regs iv.i.b))), (23, .o (.int .i64 iv.i.c)), (24, .o (.bool (regOK (⟨c.params, c.regs, c.blocks⟩ : VFnT).regs iv.i.c))), (33, .o (.int .i64 iv.i.a)), (42, .o (.int .i64 iv.i.b)), (51, .o (.int .i64 iv.i.c)), (60, .o (.int .i64 iv.i.n))] 62 125 [] [(125, (.bool (((((((av && (!(regOK (⟨c.params, c.regs, c.blocks⟩ : VFnT).regs iv.i.a))) || (bv && (!(regOK (⟨c.params, c.regs, c.blocks⟩ : VFnT).regs iv.i.b)))) || (dv && (!(regOK (⟨c.params, c.regs, c.blocks⟩ : VFnT).regs iv.i.c)))) || ((!av) && (iv.i.a != 0))) || ((!bv) && (iv.i.b != 0))) || ((!dv) && (iv.i.c != 0))) || ((!nv) && (iv.i.n != 0)))))] (vA (fun (g1 : av = true) => (ql 3 1 (HS.hc hs26 (i := 2) rfl) rfl rfl)) (vA (fun (g1 : av = true) => (cRegI_c_q ex iv.i.a (⟨c.params, c.regs, c.blocks⟩ : VFnT) H26 (by (try simp only [BS] at g1); omega) (HS.hc hs26 (i := 0) rfl) (by (try simp only [BS] at g1); omega) (by (try simp only [BS] at g1); omega))) (vA (fun (g1 : bv = true) (g2 : (av && (!(regOK (⟨c.params, c.regs, c.blocks⟩ : VFnT).regs iv.i.a))) = false) => (ql 3 2 (HS.hc hs26 (i := 2) rfl) rfl rfl)) (vA (fun (g1 : bv = true) (g2 : (av && (!(regOK (⟨c.params, c.regs, c.blocks⟩ : VFnT).regs iv.i.a))) = false) => (cRegI_c_q ex iv.i.b (⟨c.params, c.regs, c.blocks⟩ : VFnT) H26 (by (try simp only [BS] at g1 g2); omega) (HS.hc hs26 (i := 0) rfl) (by (try simp only [BS] at g1 g2); omega) (by (try simp only [BS] at g1 g2); omega))) (vA (fun (g1 : dv = true) (g2 : ((av && (!(regOK (⟨c.params, c.regs, c.blocks⟩ : VFnT).regs iv.i.a))) || (bv && (!(regOK (⟨c.params, c.regs, c.blocks⟩ : VFnT).regs iv.i.b)))) = false) => (ql 3 3 (HS.hc hs26 (i := 2) rfl) rfl rfl)) (vA (fun (g1 : dv = true) (g2 : ((av && (!(regOK (⟨c.params, c.regs, c.blocks⟩ : VFnT).regs iv.i.a))) || (bv && (!(regOK (⟨c.params, c.regs, c.blocks⟩ : VFnT).regs iv.i.b)))) = false) => (cRegI_c_q ex iv.i.c (⟨c.params, c.regs, c.blocks⟩ : VFnT) H26 (by (try simp only [BS] at g1 g2); omega) (HS.hc hs26 (i := 0) rfl) (by (try simp only [BS] at g1 g2); omega) (by (try simp only [BS] at g1 g2); omega))) (vA (fun (g1 : (!av) = true) (g2 : (((av && (!(regOK (⟨c.params, c.regs, c.blocks⟩ : VFnT).regs iv.i.a))) || (bv && (!(regOK (⟨c.params, c.regs, c.blocks⟩ : VFnT).regs iv.i.b)))) || (dv && (!(regOK (⟨c.params, c.regs, c.blocks⟩ : VFnT).regs iv.i.c)))) = false) => (ql 3 1 (HS.hc hs26 (i := 2) rfl) rfl rfl)) (vA (fun (g1 : (!bv) = true) (g2 : ((((av && (!(regOK (⟨c.params, c.regs, c.blocks⟩ : VFnT).regs iv.i.a))) || (bv && (!(regOK (⟨c.params, c.regs, c.blocks⟩ : VFnT).regs iv.i.b)))) || (dv && (!(regOK (⟨c.params, c.regs, c.blocks⟩ : VFnT).regs iv.i.c)))) || ((!av) && (iv.i.a != 0))) = false) => (ql 3 2 (HS.hc hs26 (i := 2) rfl) rfl rfl)) (vA (fun (g1 : (!dv) = true) (g2 : (((((av && (!(regOK (⟨c.params, c.regs, c.blocks⟩ : VFnT).regs iv.i.a))) || (bv && (!(regOK (⟨c.params, c.regs, c.blocks⟩ : VFnT).regs iv.i.b)))) || (dv && (!(regOK (⟨c.params, c.regs, c.blocks⟩ : VFnT).regs iv.i.c)))) || ((!av) && (iv.i.a != 0))) || ((!bv) && (iv.i.b != 0))) = false) => (ql 3 3 (HS.hc hs26 (i := 2) rfl) rfl rfl)) (vA (fun (g1 : (!nv) = true) (g2 : ((((((av && (!(regOK (⟨c.params, c.regs, c.blocks⟩ : VFnT).regs iv.i.a))) || (bv && (!(regOK (⟨c.params, c.regs, c.blocks⟩ : VFnT).regs iv.i.b)))) || (dv && (!(regOK (⟨c.params, c.regs, c.blocks⟩ : VFnT).regs iv.i.c)))) || ((!av) && (iv.i.a != 0))) || ((!bv) && (iv.i.b != 0))) || ((!dv) && (iv.i.c != 0))) = false) => (ql 2 4 (HS.hc hs26 (i := 2) rfl) rfl rfl)) trivial)))))))))) (by kernel_rfl) rfl fun gg43 => ?_
        refine wk_if 1 3 (v := (((((((av && (!(regOK (⟨c.params, c.regs, c.blocks⟩ : VFnT).regs iv.i.a))) || (bv && (!(regOK (⟨c.params, c.regs, c.blocks⟩ : VFnT).regs iv.i.b)))) || (dv && (!(regOK (⟨c.params, c.regs, c.blocks⟩ : VFnT).regs iv.i.c)))) || ((!av) && (iv.i.a != 0))) || ((!bv) && (iv.i.b != 0))) || ((!dv) && (iv.i.c != 0))) || ((!nv) && (iv.i.n != 0)))) rfl rfl rfl rfl (fun c44b => ?_) (fun c44b => ?_)
        · have c44 := c44b
          try simp only [BS] at c44
          have hb8 := c44b
          refine wr 1 [] 4 4 [] [(4, (.bool false))] trivial (by kernel_rfl) rfl fun gg45 => ?_
          refine wk_ret ⟨.inr rfl, _, rfl, false, _, (Fz.le_trans (hF14) hF26), (HS.forget hs26), rfl, (by exact vin_bad3v hal h6 hl6 hall hav hbv hdv hnv hb8)⟩
        · have c44 := c44b
          try simp only [BS] at c44
          have hgood := vin_good3v (params := c.params) hal h6 hl6 hall hav hbv hdv hnv c44b
          refine wr 3 [(1, .o (.int .i64 iv.i.op))] 126 127 [] [(127, (.int .i64 iv.i.op))] (vA (ql 3 0 (HS.hc hs26 (i := 2) rfl) rfl rfl) trivial) (by kernel_rfl) rfl fun gg46 => ?_
          refine wr 1 [] 128 129 [] [(128, (.bool (iv.i.op == 33)))] trivial (by kernel_rfl) rfl fun gg47 => ?_
          refine wk_if 1 1 (v := (iv.i.op == 33)) rfl rfl rfl rfl (fun c48b => ?_) (fun c48b => ?_)
          · have c48 := c48b
            try simp only [BS] at c48
            refine wr 1 [(1, .o (.int .i64 iv.i.n)), (5, .o (.int .i64 iv.i.n))] 130 137 [4] [(4, (.bool ((decide ((-4194304 : Int) ≤ iv.i.n)) && (decide (iv.i.n < 4194304)))))] (vA (ql 2 4 (HS.hc hs26 (i := 2) rfl) rfl rfl) (vA (fun (g1 : (decide ((-4194304 : Int) ≤ iv.i.n)) = true) => (ql 2 4 (HS.hc hs26 (i := 2) rfl) rfl rfl)) trivial)) (by kernel_rfl) rfl fun gg49 => ?_
            refine wk_ret ⟨.inr rfl, _, rfl, ((decide ((-4194304 : Int) ≤ iv.i.n)) && (decide (iv.i.n < 4194304))), _, (Fz.le_trans (hF14) hF26), (HS.forget hs26), rfl, (by rw [hgood.1]; first | exact (imm_end hal hgood.2 (by omega) (by omega) (by omega) (by omega)).symm | (unfold immV; (repeat' split) <;> first | omega | rfl | (rw [Bool.eq_iff_iff] <;> simp)))⟩
          · have c48 := c48b
            try simp only [BS] at c48
            refine wr 1 [] 138 139 [] [(138, (.bool (iv.i.op == 6)))] trivial (by kernel_rfl) rfl fun gg50 => ?_
            refine wk_if 1 2 (v := (iv.i.op == 6)) rfl rfl rfl rfl (fun c51b => ?_) (fun c51b => ?_)
            · have c51 := c51b
              try simp only [BS] at c51
              refine wr 1 [(1, .o (.int .i64 iv.i.n)), (5, .o (.int .i64 iv.i.n))] 140 147 [4] [(4, (.bool ((decide ((0 : Int) ≤ iv.i.n)) && (decide (iv.i.n < 8)))))] (vA (ql 2 4 (HS.hc hs26 (i := 2) rfl) rfl rfl) (vA (fun (g1 : (decide ((0 : Int) ≤ iv.i.n)) = true) => (ql 2 4 (HS.hc hs26 (i := 2) rfl) rfl rfl)) trivial)) (by kernel_rfl) rfl fun gg52 => ?_
              refine wk_ret ⟨.inr rfl, _, rfl, ((decide ((0 : Int) ≤ iv.i.n)) && (decide (iv.i.n < 8))), _, (Fz.le_trans (hF14) hF26), (HS.forget hs26), rfl, (by rw [hgood.1]; first | exact (imm_end hal hgood.2 (by omega) (by omega) (by omega) (by omega)).symm | (unfold immV; (repeat' split) <;> first | omega | rfl | (rw [Bool.eq_iff_iff] <;> simp)))⟩
            · have c51 := c51b
              try simp only [BS] at c51
              refine wr 1 [] 148 149 [] [(148, (.bool (iv.i.op == 34)))] trivial (by kernel_rfl) rfl fun gg53 => ?_
              refine wk_if 1 0 (v := (iv.i.op == 34)) rfl rfl rfl rfl (fun c54b => ?_) (fun c54b => ?_)
              · have c54 := c54b
                try simp only [BS] at c54
                refine wk_ift 1 (v := (iv.i.op == 34)) rfl c54b rfl rfl ?_
                refine wr 1 [(1, .o (.int .i64 iv.i.n)), (5, .o (.int .i64 iv.i.n))] 151 158 [4] [(4, (.bool ((decide ((0 : Int) ≤ iv.i.n)) && (decide (iv.i.n < 4)))))] (vA (ql 2 4 (HS.hc hs26 (i := 2) rfl) rfl rfl) (vA (fun (g1 : (decide ((0 : Int) ≤ iv.i.n)) = true) => (ql 2 4 (HS.hc hs26 (i := 2) rfl) rfl rfl)) trivial)) (by kernel_rfl) rfl fun gg55 => ?_
                refine wk_ret ⟨.inr rfl, _, rfl, ((decide ((0 : Int) ≤ iv.i.n)) && (decide (iv.i.n < 4))), _, (Fz.le_trans (hF14) hF26), (HS.forget hs26), rfl, (by rw [hgood.1]; first | exact (imm_end hal hgood.2 (by omega) (by omega) (by omega) (by omega)).symm | (unfold immV; (repeat' split) <;> first | omega | rfl | (rw [Bool.eq_iff_iff] <;> simp)))⟩
              · have c54 := c54b
                try simp only [BS] at c54
                refine wr 1 [] 148 150 [] [(148, (.bool (iv.i.op == 35)))] trivial (by kernel_rfl) rfl fun gg56 => ?_
                refine wk_if 1 1 (v := (iv.i.op == 35)) rfl rfl rfl rfl (fun c57b => ?_) (fun c57b => ?_)
                · have c57 := c57b
                  try simp only [BS] at c57
                  refine wr 1 [(1, .o (.int .i64 iv.i.n)), (5, .o (.int .i64 iv.i.n))] 151 158 [4] [(4, (.bool ((decide ((0 : Int) ≤ iv.i.n)) && (decide (iv.i.n < 4)))))] (vA (ql 2 4 (HS.hc hs26 (i := 2) rfl) rfl rfl) (vA (fun (g1 : (decide ((0 : Int) ≤ iv.i.n)) = true) => (ql 2 4 (HS.hc hs26 (i := 2) rfl) rfl rfl)) trivial)) (by kernel_rfl) rfl fun gg58 => ?_
                  refine wk_ret ⟨.inr rfl, _, rfl, ((decide ((0 : Int) ≤ iv.i.n)) && (decide (iv.i.n < 4))), _, (Fz.le_trans (hF14) hF26), (HS.forget hs26), rfl, (by rw [hgood.1]; first | exact (imm_end hal hgood.2 (by omega) (by omega) (by omega) (by omega)).symm | (unfold immV; (repeat' split) <;> first | omega | rfl | (rw [Bool.eq_iff_iff] <;> simp)))⟩
                · have c57 := c57b
                  try simp only [BS] at c57
                  refine wr 1 [] 159 160 [] [(159, (.bool (iv.i.op == 38)))] trivial (by kernel_rfl) rfl fun gg59 => ?_
                  refine wk_if 1 3 (v := (iv.i.op == 38)) rfl rfl rfl rfl (fun c60b => ?_) (fun c60b => ?_)
                  · have c60 := c60b
                    try simp only [BS] at c60
                    refine wr 1 [(1, .o (.int .i64 iv.i.n)), (5, .o (.int .i64 iv.i.n)), (7, .o (.int .i64 c.params))] 161 170 [4] [(4, (.bool ((decide ((0 : Int) ≤ iv.i.n)) && (decide (iv.i.n < c.params)))))] (vA (ql 2 4 (HS.hc hs26 (i := 2) rfl) rfl rfl) (vA (fun (g1 : (decide ((0 : Int) ≤ iv.i.n)) = true) => (ql 2 4 (HS.hc hs26 (i := 2) rfl) rfl rfl)) (vA (fun (g1 : (decide ((0 : Int) ≤ iv.i.n)) = true) => (ql 3 0 (HS.hc hs26 (i := 0) rfl) rfl rfl)) trivial))) (by kernel_rfl) rfl fun gg61 => ?_
                    refine wk_ret ⟨.inr rfl, _, rfl, ((decide ((0 : Int) ≤ iv.i.n)) && (decide (iv.i.n < c.params))), _, (Fz.le_trans (hF14) hF26), (HS.forget hs26), rfl, (by rw [hgood.1]; first | exact (imm_end hal hgood.2 (by omega) (by omega) (by omega) (by omega)).symm | (unfold immV; (repeat' split) <;> first | omega | rfl | (rw [Bool.eq_iff_iff] <;> simp)))⟩
                  · have c60 := c60b
                    try simp only [BS] at c60
                    refine wr 1 [] 4 4 [] [(4, (.bool true))] trivial (by kernel_rfl) rfl fun gg62 => ?_
                    refine wk_ret ⟨.inr rfl, _, rfl, true, _, (Fz.le_trans (hF14) hF26), (HS.forget hs26), rfl, (by rw [hgood.1]; first | exact (imm_end hal hgood.2 (by omega) (by omega) (by omega) (by omega)).symm | (unfold immV; (repeat' split) <;> first | omega | rfl | (rw [Bool.eq_iff_iff] <;> simp)))⟩

set_option maxHeartbeats 1000000 in
theorem rinstr_c (ex : FuncId) {aiv_5 : Option Addr} {kiv_5 : Nat} (iv : VInT) {ac_2 : Option Addr} {kc_2 : Nat} (c : VFnT) {F : Fz} {H : Heap} {R : List Fp} (hs : HS (.of H []) F H [] R) (hiv_0 : in64 iv.i.op) (hiv_1 : in64 iv.i.a) (hiv_2 : in64 iv.i.b) (hiv_3 : in64 iv.i.c) (hiv_4 : in64 iv.i.n) (hiv_5 : SR F (.slice aiv_5 iv.args.length kiv_5) iv.args) (hc_0 : in64 c.params) (hc_1 : in64 c.regs) (hc_2 : SR F (.slice ac_2 c.blocks.length kc_2) c.blocks) (hT : TB 37 tabC F) : C Tryd.prog 1 (KT 60 ex 37 tabC) 71 [(.agg ⟨[(.int .i64 iv.i.op), (.int .i64 iv.i.a), (.int .i64 iv.i.b), (.int .i64 iv.i.c), (.int .i64 iv.i.n), (.slice aiv_5 iv.args.length kiv_5)]⟩), (.agg ⟨[(.int .i64 c.params), (.int .i64 c.regs), (.slice ac_2 c.blocks.length kc_2)]⟩)] H fun v H' => ∃ (r : Bool) (F' : Fz), Fz.le F F' ∧ HS (.of H []) F' H' [] R ∧ v = .bool r ∧ r = vinV c.params c.regs iv := by
  refine c_enter Tryd.func71 rfl rfl ?_
  refine wk_foc 1 rfl ?_
  refine wk_region ?_
  refine wo_rs (rs_box hs rfl rfl) rfl rfl ?_
  rintro _ H2 _ ⟨b1, rfl, hs2, _⟩
  have hs2 : HS _ _ _ [[(b1, .cells [(.int .i64 iv.i.op), (.int .i64 iv.i.a), (.int .i64 iv.i.b), (.int .i64 iv.i.c), (.int .i64 iv.i.n), (.slice aiv_5 iv.args.length kiv_5)] none false)]] _ := hs2
  refine wo_rs (rs_box hs2 rfl rfl) rfl rfl ?_
  rintro _ H4 _ ⟨b3, rfl, hs4, _⟩
  have hs4 : HS _ _ _ [_, [(b3, .cells [(.int .i64 c.params), (.int .i64 c.regs), (.slice ac_2 c.blocks.length kc_2)] none false)]] _ := hs4
  refine wa (.bool false) rfl rfl rfl ?_
  refine wo_end 2 rfl ?_
  refine wk_region ?_
  refine wro 2 0 [(1, .o (.agg ⟨[(.int .i64 iv.i.op), (.int .i64 iv.i.a), (.int .i64 iv.i.b), (.int .i64 iv.i.c), (.int .i64 iv.i.n)]⟩))] 10 11 [] [(11, (.agg ⟨[(.int .i64 iv.i.op), (.int .i64 iv.i.a), (.int .i64 iv.i.b), (.int .i64 iv.i.c), (.int .i64 iv.i.n)]⟩))] (vA (qn 45 0 5 (HS.hc hs4 (i := 0) rfl) rfl rfl rfl rfl) trivial) (by kernel_rfl) rfl fun gg5 => ?_
  refine wo_rs (rs_new hs4 rfl) rfl rfl ?_
  rintro _ H7 _ ⟨b6, rfl, hs7, _⟩
  have hs7 : HS _ _ _ [_, _, [(b6, .cells [(.int .i64 0), (.int .i64 0), (.int .i64 0), (.int .i64 0), (.int .i64 0)] none false)]] _ := hs7
  refine wo_rk (rs_rec (q := 2) hs7 rfl rfl rfl rfl rfl rfl rfl rfl rfl) rfl ?_
  rintro _ H8 _ ⟨hs8, _⟩
  have hs8 : HS _ _ _ [_, _, [(b6, .cells [(.int .i64 iv.i.op), (.int .i64 iv.i.a), (.int .i64 iv.i.b), (.int .i64 iv.i.c), (.int .i64 iv.i.n)] none false)]] _ := hs8
  refine wo_end 3 rfl ?_
  refine wr 1 [(1, .o (.int .i64 iv.i.op)), (2, .o (.bool (alV iv.i.op))), (6, .o (.int .i64 iv.i.op)), (10, .o (.slice aiv_5 iv.args.length kiv_5)), (17, .o (.slice aiv_5 iv.args.length kiv_5))] 12 32 [] [(32, (.bool (((!(alV iv.i.op)) || ((iv.i.op != 6) && (decide ((0 : Int) < (iv.args.length : Int))))) || (decide ((6 : Int) < (iv.args.length : Int))))))] (vA (ql 3 0 (HS.hc hs8 (i := 2) rfl) rfl rfl) (vA (m1.ralw_c_q ex iv.i.op H8) (vA (fun (g1 : (!(alV iv.i.op)) = false) => (ql 3 0 (HS.hc hs8 (i := 2) rfl) rfl rfl)) (vA (fun (g1 : (iv.i.op != 6) = true) (g2 : (!(alV iv.i.op)) = false) => (ql 25 5 (HS.hc hs8 (i := 0) rfl) rfl rfl)) (vA (fun (g1 : ((!(alV iv.i.op)) || ((iv.i.op != 6) && (decide ((0 : Int) < (iv.args.length : Int))))) = false) => (ql 25 5 (HS.hc hs8 (i := 0) rfl) rfl rfl)) trivial))))) (by kernel_rfl) rfl fun gg9 => ?_
  refine wk_if 1 3 (v := (((!(alV iv.i.op)) || ((iv.i.op != 6) && (decide ((0 : Int) < (iv.args.length : Int))))) || (decide ((6 : Int) < (iv.args.length : Int))))) rfl rfl rfl rfl (fun c10b => ?_) (fun c10b => ?_)
  · have c10 := c10b
    try simp only [BS] at c10
    have hbad := c10
    refine wr 1 [] 4 4 [] [(4, (.bool false))] trivial (by kernel_rfl) rfl fun gg11 => ?_
    refine wk_ret ⟨.inr rfl, _, rfl, false, _, (Fz.le_refl _), (HS.forget hs8), rfl, (by exact vin_bad2 hbad)⟩
  · have c10 := c10b
    try simp only [BS] at c10
    have hal : alV iv.i.op = true := (c10).1.1
    have h6 : iv.i.op = 6 ∨ iv.args.length = 0 := by omega
    have hl6 : iv.args.length ≤ 6 := by omega
    refine wr 2 [] 1 0 [6] [(6, (.int .i64 0))] trivial (by kernel_rfl) rfl fun gg12 => ?_
    refine wk_loop_inv (fun (mm : Nat) f H' => ∃ (k : Nat) (F' : Fz), Fz.le F F' ∧ HS (Base.of H []) F' H' [[(b1, .cells [(.int .i64 iv.i.op), (.int .i64 iv.i.a), (.int .i64 iv.i.b), (.int .i64 iv.i.c), (.int .i64 iv.i.n), (.slice aiv_5 iv.args.length kiv_5)] none false)], [(b3, .cells [(.int .i64 c.params), (.int .i64 c.regs), (.slice ac_2 c.blocks.length kc_2)] none false)], [(b6, .cells [(.int .i64 iv.i.op), (.int .i64 iv.i.a), (.int .i64 iv.i.b), (.int .i64 iv.i.c), (.int .i64 iv.i.n)] none false)]] R ∧ agrees f [(2, (.pointer (some ⟨b1, 0, none⟩))), (3, (.pointer (some ⟨b3, 0, none⟩))), (5, (.pointer (some ⟨b6, 0, none⟩))), (6, (.int .i64 (k : Int)))] ∧ mm = iv.args.length - k ∧ (k ≤ iv.args.length) ∧ (∀ j, j < k → regOK c.regs (iv.args.getD j default) = true)) _ ⟨0, _, (Fz.le_refl _), hs8, (agC rfl (agC rfl (agC rfl (agC rfl agN)))), rfl, (by first | assumption | omega | (simp at *; omega)), (by exact upto_zero)⟩ ?_
    rintro mm13 f13 H13 ⟨k, F13, hF13, hs13, hf13, rfl, hk, ha⟩ ih13
    refine wk_canon _ hf13 (fun gg13 => ?_)
    clear hf13
    replace hT := hT.mono hF13
    replace hc_2 := hc_2.mono hF13
    replace hiv_5 := hiv_5.mono hF13
    refine wk_foc 2 rfl ?_
    refine wr 1 [(2, .o (.slice aiv_5 iv.args.length kiv_5))] 33 37 [] [(37, (.bool (decide ((k : Int) < (iv.args.length : Int)))))] (vA (ql 25 5 (HS.hc hs13 (i := 0) rfl) rfl rfl) trivial) (by kernel_rfl) rfl fun gg14 => ?_
    refine wk_if 4 5 (v := (decide ((k : Int) < (iv.args.length : Int)))) rfl rfl rfl rfl (fun c15b => ?_) (fun c15b => ?_)
    · have c15 := c15b
      try simp only [BS] at c15
      obtain ⟨cf16, hv16⟩ := Sv.view (SR.sv hiv_5 hs13)
      have g17 := fI (hv16 k)
      refine wrD 1 [(1, .o (.slice aiv_5 iv.args.length kiv_5)), (4, .o (.int .i64 (iv.args.getD k 0))), (8, .o (.slice aiv_5 iv.args.length kiv_5)), (11, .o (.int .i64 (iv.args.getD k 0))), (13, .o (.int .i64 c.regs))] 40 55 [] [(55, (.bool ((decide ((iv.args.getD k 0) < 0)) || (decide (c.regs ≤ (iv.args.getD k 0))))))] (vA (ql 25 5 (hc0 (HS.hc hs13 (i := 0) rfl)) rfl rfl) (vA (Sv.ix (j := (k : Int)) (SR.sv hiv_5 hs13) (by omega) (by omega)) (vA (ql 3 0 (hc0 (vI (hv16 k) (by omega))) rfl rfl) (vA (fun (g1 : (decide ((iv.args.getD k 0) < 0)) = false) => (ql 25 5 (hc0 (HS.hc hs13 (i := 0) rfl)) rfl rfl)) (vA (fun (g1 : (decide ((iv.args.getD k 0) < 0)) = false) => (Sv.ix (j := (k : Int)) (SR.sv hiv_5 hs13) (by (try simp only [BS] at g1); omega) (by (try simp only [BS] at g1); omega))) (vA (fun (g1 : (decide ((iv.args.getD k 0) < 0)) = false) => (ql 3 0 (hc0 (vI (hv16 k) (by (try simp only [BS] at g1); omega))) rfl rfl)) (vA (fun (g1 : (decide ((iv.args.getD k 0) < 0)) = false) => (ql 3 1 (hc0 (HS.hc hs13 (i := 1) rfl)) rfl rfl)) trivial))))))) rfl (by kernel_rfl) rfl fun gg18 => ?_
      refine wk_if 1 2 (v := ((decide ((iv.args.getD k 0) < 0)) || (decide (c.regs ≤ (iv.args.getD k 0))))) rfl rfl rfl rfl (fun c19b => ?_) (fun c19b => ?_)
      · have c19 := c19b
        try simp only [BS] at c19
        refine wr 1 [] 4 4 [] [(4, (.bool false))] trivial (by kernel_rfl) rfl fun gg20 => ?_
        refine wk_ret ⟨.inr rfl, _, rfl, false, _, (hF13), (HS.forget hs13), rfl, (by exact vin_no (all_not (k := k) (by omega) (regOK_not.2 (show ¬ (0 ≤ iv.args.getD k 0 ∧ iv.args.getD k 0 < c.regs) by omega))))⟩
      · have c19 := c19b
        try simp only [BS] at c19
        refine wr 1 [] 38 39 [6] [(6, (.int .i64 ((k : Int) + 1)))] (vA (vi (n := (k : Int) + 1) (by omega)) trivial) (by kernel_rfl) rfl fun gg21 => ?_
        refine ih13 _ _ _ ?_ ⟨k + 1, _, (hF13), hs13, (agC rfl (agC rfl (agC rfl (agC rfl agN)))), rfl, (by first | assumption | omega | (simp at *; omega)), (by exact upto_succ ha (regOK_iff.2 (show 0 ≤ iv.args.getD k 0 ∧ iv.args.getD k 0 < c.regs by omega)))⟩
        omega
    · have c15 := c15b
      try simp only [BS] at c15
      have hall := upto_all ha (by omega)
      refine wk_region ?_
      refine wro 2 0 [(1, .o (.int .i64 iv.i.op))] 56 57 [] [(57, (.int .i64 iv.i.op))] (vA (ql 3 0 (HS.hc hs13 (i := 2) rfl) rfl rfl) trivial) (by kernel_rfl) rfl fun gg22 => ?_
      refine wo_call (ap_call rfl rfl rfl) rfl rfl (rinfo_c ex iv.i.op (HS.call hs13) (by omega) hT) ?_
      rintro _ H23 ⟨x23, F23, hF23, hs23, rfl, hgx23_1, hgx23_6, rfl⟩
      replace hs23 := HS.back hs13 rfl hs23
      have hs23 : HS _ _ _ [_, _, _] _ := hs23
      replace hT := hT.mono hF23
      replace hc_2 := hc_2.mono hF23
      replace hiv_5 := hiv_5.mono hF23
      refine wro 2 3 [] 59 59 [7] [(7, (.int .i64 ((vinfV iv.i.op).form)))] trivial (by kernel_rfl) rfl fun gg24 => ?_
      refine wo_end 2 rfl ?_
      refine wr 2 [] 60 61 [8] [(8, (.bool ((vinfV iv.i.op).form != 1)))] trivial (by kernel_rfl) rfl fun gg25 => ?_
      refine wr 3 [] 62 71 [9] [(9, (.bool ((((vinfV iv.i.op).form == 3) || ((vinfV iv.i.op).form == 4)) || ((vinfV iv.i.op).form == 7))))] trivial (by kernel_rfl) rfl fun gg26 => ?_
      refine wr 1 [(2, .o (.int .i64 iv.i.a)), (4, .o (.int .i64 c.regs)), (5, .o (.bool (opOK ((vinfV iv.i.op).form != 1) iv.i.a c.regs))), (10, .o (.int .i64 iv.i.b)), (12, .o (.int .i64 c.regs)), (13, .o (.bool (opOK ((((vinfV iv.i.op).form == 3) || ((vinfV iv.i.op).form == 4)) || ((vinfV iv.i.op).form == 7)) iv.i.b c.regs))), (20, .o (.int .i64 iv.i.c)), (22, .o (.int .i64 c.regs)), (23, .o (.bool (opOK ((vinfV iv.i.op).form == 4) iv.i.c c.regs)))] 72 97 [] [(97, (.bool (((!(opOK ((vinfV iv.i.op).form != 1) iv.i.a c.regs)) || (!(opOK ((((vinfV iv.i.op).form == 3) || ((vinfV iv.i.op).form == 4)) || ((vinfV iv.i.op).form == 7)) iv.i.b c.regs))) || (!(opOK ((vinfV iv.i.op).form == 4) iv.i.c c.regs)))))] (vA (ql 3 1 (HS.hc hs23 (i := 2) rfl) rfl rfl) (vA (ql 3 1 (HS.hc hs23 (i := 1) rfl) rfl rfl) (vA (rOperand_c_q ex ((vinfV iv.i.op).form != 1) iv.i.a c.regs H23 (by omega) (by omega)) (vA (fun (g1 : (!(opOK ((vinfV iv.i.op).form != 1) iv.i.a c.regs)) = false) => (ql 3 2 (HS.hc hs23 (i := 2) rfl) rfl rfl)) (vA (fun (g1 : (!(opOK ((vinfV iv.i.op).form != 1) iv.i.a c.regs)) = false) => (ql 3 1 (HS.hc hs23 (i := 1) rfl) rfl rfl)) (vA (fun (g1 : (!(opOK ((vinfV iv.i.op).form != 1) iv.i.a c.regs)) = false) => (rOperand_c_q ex ((((vinfV iv.i.op).form == 3) || ((vinfV iv.i.op).form == 4)) || ((vinfV iv.i.op).form == 7)) iv.i.b c.regs H23 (by (try simp only [BS] at g1); omega) (by (try simp only [BS] at g1); omega))) (vA (fun (g1 : ((!(opOK ((vinfV iv.i.op).form != 1) iv.i.a c.regs)) || (!(opOK ((((vinfV iv.i.op).form == 3) || ((vinfV iv.i.op).form == 4)) || ((vinfV iv.i.op).form == 7)) iv.i.b c.regs))) = false) => (ql 3 3 (HS.hc hs23 (i := 2) rfl) rfl rfl)) (vA (fun (g1 : ((!(opOK ((vinfV iv.i.op).form != 1) iv.i.a c.regs)) || (!(opOK ((((vinfV iv.i.op).form == 3) || ((vinfV iv.i.op).form == 4)) || ((vinfV iv.i.op).form == 7)) iv.i.b c.regs))) = false) => (ql 3 1 (HS.hc hs23 (i := 1) rfl) rfl rfl)) (vA (fun (g1 : ((!(opOK ((vinfV iv.i.op).form != 1) iv.i.a c.regs)) || (!(opOK ((((vinfV iv.i.op).form == 3) || ((vinfV iv.i.op).form == 4)) || ((vinfV iv.i.op).form == 7)) iv.i.b c.regs))) = false) => (rOperand_c_q ex ((vinfV iv.i.op).form == 4) iv.i.c c.regs H23 (by (try simp only [BS] at g1); omega) (by (try simp only [BS] at g1); omega))) trivial))))))))) (by kernel_rfl) rfl fun gg27 => ?_
      refine wk_if 1 3 (v := (((!(opOK ((vinfV iv.i.op).form != 1) iv.i.a c.regs)) || (!(opOK ((((vinfV iv.i.op).form == 3) || ((vinfV iv.i.op).form == 4)) || ((vinfV iv.i.op).form == 7)) iv.i.b c.regs))) || (!(opOK ((vinfV iv.i.op).form == 4) iv.i.c c.regs)))) rfl rfl rfl rfl (fun c28b => ?_) (fun c28b => ?_)
      · have c28 := c28b
        try simp only [BS] at c28
        have hb3 := c28b
        refine wr 1 [] 4 4 [] [(4, (.bool false))] trivial (by kernel_rfl) rfl fun gg29 => ?_
        refine wk_ret ⟨.inr rfl, _, rfl, false, _, (Fz.le_trans (hF13) hF23), (HS.forget hs23), rfl, (by exact vin_rbad hal h6 hl6 hall hb3)⟩
      · have c28 := c28b
        try simp only [BS] at c28
        have hgood := vin_rgood (params := c.params) hal h6 hl6 hall c28b
        refine wr 3 [(1, .o (.int .i64 iv.i.op))] 98 99 [] [(99, (.int .i64 iv.i.op))] (vA (ql 3 0 (HS.hc hs23 (i := 2) rfl) rfl rfl) trivial) (by kernel_rfl) rfl fun gg30 => ?_
        refine wr 1 [] 100 101 [] [(100, (.bool (iv.i.op == 13)))] trivial (by kernel_rfl) rfl fun gg31 => ?_
        refine wk_if 1 1 (v := (iv.i.op == 13)) rfl rfl rfl rfl (fun c32b => ?_) (fun c32b => ?_)
        · have c32 := c32b
          try simp only [BS] at c32
          refine wr 1 [] 4 4 [] [(4, (.bool true))] trivial (by kernel_rfl) rfl fun gg33 => ?_
          refine wk_ret ⟨.inr rfl, _, rfl, true, _, (Fz.le_trans (hF13) hF23), (HS.forget hs23), rfl, (by rw [hgood] <;> (first | exact (imm_end hal hgood.2 (by omega) (by omega) (by omega) (by omega)).symm | (unfold immV; (repeat' split) <;> first | omega | rfl | (rw [Bool.eq_iff_iff] <;> simp))))⟩
        · have c32 := c32b
          try simp only [BS] at c32
          refine wr 1 [] 102 103 [] [(102, (.bool (iv.i.op == 33)))] trivial (by kernel_rfl) rfl fun gg34 => ?_
          refine wk_if 1 1 (v := (iv.i.op == 33)) rfl rfl rfl rfl (fun c35b => ?_) (fun c35b => ?_)
          · have c35 := c35b
            try simp only [BS] at c35
            refine wr 1 [(1, .o (.int .i64 iv.i.n)), (5, .o (.int .i64 iv.i.n))] 104 111 [4] [(4, (.bool ((decide ((-4194304 : Int) ≤ iv.i.n)) && (decide (iv.i.n < 4194304)))))] (vA (ql 2 4 (HS.hc hs23 (i := 2) rfl) rfl rfl) (vA (fun (g1 : (decide ((-4194304 : Int) ≤ iv.i.n)) = true) => (ql 2 4 (HS.hc hs23 (i := 2) rfl) rfl rfl)) trivial)) (by kernel_rfl) rfl fun gg36 => ?_
            refine wk_ret ⟨.inr rfl, _, rfl, ((decide ((-4194304 : Int) ≤ iv.i.n)) && (decide (iv.i.n < 4194304))), _, (Fz.le_trans (hF13) hF23), (HS.forget hs23), rfl, (by rw [hgood] <;> (first | exact (imm_end hal hgood.2 (by omega) (by omega) (by omega) (by omega)).symm | (unfold immV; (repeat' split) <;> first | omega | rfl | (rw [Bool.eq_iff_iff] <;> simp))))⟩
          · have c35 := c35b
            try simp only [BS] at c35
            refine wr 1 [] 112 113 [] [(112, (.bool (iv.i.op == 6)))] trivial (by kernel_rfl) rfl fun gg37 => ?_
            refine wk_if 1 2 (v := (iv.i.op == 6)) rfl rfl rfl rfl (fun c38b => ?_) (fun c38b => ?_)
            · have c38 := c38b
              try simp only [BS] at c38
              refine wr 1 [(1, .o (.int .i64 iv.i.n)), (5, .o (.int .i64 iv.i.n))] 114 121 [4] [(4, (.bool ((decide ((0 : Int) ≤ iv.i.n)) && (decide (iv.i.n < 8)))))] (vA (ql 2 4 (HS.hc hs23 (i := 2) rfl) rfl rfl) (vA (fun (g1 : (decide ((0 : Int) ≤ iv.i.n)) = true) => (ql 2 4 (HS.hc hs23 (i := 2) rfl) rfl rfl)) trivial)) (by kernel_rfl) rfl fun gg39 => ?_
              refine wk_ret ⟨.inr rfl, _, rfl, ((decide ((0 : Int) ≤ iv.i.n)) && (decide (iv.i.n < 8))), _, (Fz.le_trans (hF13) hF23), (HS.forget hs23), rfl, (by rw [hgood] <;> (first | exact (imm_end hal hgood.2 (by omega) (by omega) (by omega) (by omega)).symm | (unfold immV; (repeat' split) <;> first | omega | rfl | (rw [Bool.eq_iff_iff] <;> simp))))⟩
            · have c38 := c38b
              try simp only [BS] at c38
              refine wr 1 [] 122 123 [] [(122, (.bool (iv.i.op == 34)))] trivial (by kernel_rfl) rfl fun gg40 => ?_
              refine wk_if 1 0 (v := (iv.i.op == 34)) rfl rfl rfl rfl (fun c41b => ?_) (fun c41b => ?_)
              · have c41 := c41b
                try simp only [BS] at c41
                refine wk_ift 1 (v := (iv.i.op == 34)) rfl c41b rfl rfl ?_
                refine wr 1 [(1, .o (.int .i64 iv.i.n)), (5, .o (.int .i64 iv.i.n))] 125 132 [4] [(4, (.bool ((decide ((0 : Int) ≤ iv.i.n)) && (decide (iv.i.n < 4)))))] (vA (ql 2 4 (HS.hc hs23 (i := 2) rfl) rfl rfl) (vA (fun (g1 : (decide ((0 : Int) ≤ iv.i.n)) = true) => (ql 2 4 (HS.hc hs23 (i := 2) rfl) rfl rfl)) trivial)) (by kernel_rfl) rfl fun gg42 => ?_
                refine wk_ret ⟨.inr rfl, _, rfl, ((decide ((0 : Int) ≤ iv.i.n)) && (decide (iv.i.n < 4))), _, (Fz.le_trans (hF13) hF23), (HS.forget hs23), rfl, (by rw [hgood] <;> (first | exact (imm_end hal hgood.2 (by omega) (by omega) (by omega) (by omega)).symm | (unfold immV; (repeat' split) <;> first | omega | rfl | (rw [Bool.eq_iff_iff] <;> simp))))⟩
              · have c41 := c41b
                try simp only [BS] at c41
                refine wr 1 [] 122 124 [] [(122, (.bool (iv.i.op == 35)))] trivial (by kernel_rfl) rfl fun gg43 => ?_
                refine wk_if 1 1 (v := (iv.i.op == 35)) rfl rfl rfl rfl (fun c44b => ?_) (fun c44b => ?_)
                · have c44 := c44b
                  try simp only [BS] at c44
                  refine wr 1 [(1, .o (.int .i64 iv.i.n)), (5, .o (.int .i64 iv.i.n))] 125 132 [4] [(4, (.bool ((decide ((0 : Int) ≤ iv.i.n)) && (decide (iv.i.n < 4)))))] (vA (ql 2 4 (HS.hc hs23 (i := 2) rfl) rfl rfl) (vA (fun (g1 : (decide ((0 : Int) ≤ iv.i.n)) = true) => (ql 2 4 (HS.hc hs23 (i := 2) rfl) rfl rfl)) trivial)) (by kernel_rfl) rfl fun gg45 => ?_
                  refine wk_ret ⟨.inr rfl, _, rfl, ((decide ((0 : Int) ≤ iv.i.n)) && (decide (iv.i.n < 4))), _, (Fz.le_trans (hF13) hF23), (HS.forget hs23), rfl, (by rw [hgood] <;> (first | exact (imm_end hal hgood.2 (by omega) (by omega) (by omega) (by omega)).symm | (unfold immV; (repeat' split) <;> first | omega | rfl | (rw [Bool.eq_iff_iff] <;> simp))))⟩
                · have c44 := c44b
                  try simp only [BS] at c44
                  refine wr 1 [] 133 134 [] [(133, (.bool (iv.i.op == 38)))] trivial (by kernel_rfl) rfl fun gg46 => ?_
                  refine wk_if 1 3 (v := (iv.i.op == 38)) rfl rfl rfl rfl (fun c47b => ?_) (fun c47b => ?_)
                  · have c47 := c47b
                    try simp only [BS] at c47
                    refine wr 1 [(1, .o (.int .i64 iv.i.n)), (5, .o (.int .i64 iv.i.n)), (7, .o (.int .i64 c.params))] 135 144 [4] [(4, (.bool ((decide ((0 : Int) ≤ iv.i.n)) && (decide (iv.i.n < c.params)))))] (vA (ql 2 4 (HS.hc hs23 (i := 2) rfl) rfl rfl) (vA (fun (g1 : (decide ((0 : Int) ≤ iv.i.n)) = true) => (ql 2 4 (HS.hc hs23 (i := 2) rfl) rfl rfl)) (vA (fun (g1 : (decide ((0 : Int) ≤ iv.i.n)) = true) => (ql 3 0 (HS.hc hs23 (i := 1) rfl) rfl rfl)) trivial))) (by kernel_rfl) rfl fun gg48 => ?_
                    refine wk_ret ⟨.inr rfl, _, rfl, ((decide ((0 : Int) ≤ iv.i.n)) && (decide (iv.i.n < c.params))), _, (Fz.le_trans (hF13) hF23), (HS.forget hs23), rfl, (by rw [hgood] <;> (first | exact (imm_end hal hgood.2 (by omega) (by omega) (by omega) (by omega)).symm | (unfold immV; (repeat' split) <;> first | omega | rfl | (rw [Bool.eq_iff_iff] <;> simp))))⟩
                  · have c47 := c47b
                    try simp only [BS] at c47
                    refine wr 1 [(1, .o (.int .i64 iv.i.n))] 145 147 [4] [(4, (.bool (iv.i.n == 0)))] (vA (ql 2 4 (HS.hc hs23 (i := 2) rfl) rfl rfl) trivial) (by kernel_rfl) rfl fun gg49 => ?_
                    refine wk_ret ⟨.inr rfl, _, rfl, (iv.i.n == 0), _, (Fz.le_trans (hF13) hF23), (HS.forget hs23), rfl, (by rw [hgood] <;> (first | exact (imm_end hal hgood.2 (by omega) (by omega) (by omega) (by omega)).symm | (unfold immV; (repeat' split) <;> first | omega | rfl | (rw [Bool.eq_iff_iff] <;> simp))))⟩

theorem rEnd_c (ex : FuncId) {ab_0 : Option Addr} {kb_0 : Nat} (b : BlkT) {ac_2 : Option Addr} {kc_2 : Nat} (c : VFnT) {F : Fz} {H : Heap} {R : List Fp} (hs : HS (.of H []) F H [] R) (hb_0 : SR F (.slice ab_0 b.ins.length kb_0) b.ins) (hb_1 : in64 b.fin) (hb_2 : in64 b.reg) (hb_3 : in64 b.tgt) (hb_4 : in64 b.els) (hc_0 : in64 c.params) (hc_1 : in64 c.regs) (hc_2 : SR F (.slice ac_2 c.blocks.length kc_2) c.blocks) (hT : TB 37 tabC F) : C Tryd.prog 1 (KT 60 ex 37 tabC) 70 [(.agg ⟨[(.slice ab_0 b.ins.length kb_0), (.int .i64 b.fin), (.int .i64 b.reg), (.int .i64 b.tgt), (.int .i64 b.els)]⟩), (.agg ⟨[(.int .i64 c.params), (.int .i64 c.regs), (.slice ac_2 c.blocks.length kc_2)]⟩)] H fun v H' => ∃ (r : Bool) (F' : Fz), Fz.le F F' ∧ HS (.of H []) F' H' [] R ∧ v = .bool r ∧ r = vendV (c.blocks.length : Int) c.regs b := by
  refine c_enter Tryd.func70 rfl rfl ?_
  refine wk_foc 1 rfl ?_
  refine wk_region ?_
  refine wo_rs (rs_box hs rfl rfl) rfl rfl ?_
  rintro _ H2 _ ⟨b1, rfl, hs2, _⟩
  have hs2 : HS _ _ _ [[(b1, .cells [(.slice ab_0 b.ins.length kb_0), (.int .i64 b.fin), (.int .i64 b.reg), (.int .i64 b.tgt), (.int .i64 b.els)] none false)]] _ := hs2
  refine wo_rs (rs_box hs2 rfl rfl) rfl rfl ?_
  rintro _ H4 _ ⟨b3, rfl, hs4, _⟩
  have hs4 : HS _ _ _ [_, [(b3, .cells [(.int .i64 c.params), (.int .i64 c.regs), (.slice ac_2 c.blocks.length kc_2)] none false)]] _ := hs4
  refine wa (.bool false) rfl rfl rfl ?_
  refine wo_end 2 rfl ?_
  refine wr 2 [(1, .o (.slice ac_2 c.blocks.length kc_2))] 9 11 [5] [(5, (.int .i64 (c.blocks.length : Int)))] (vA (ql 22 2 (HS.hc hs4 (i := 1) rfl) rfl rfl) trivial) (by kernel_rfl) rfl fun gg5 => ?_
  refine wrD 3 [(1, .o (.int .i64 b.tgt)), (5, .o (.int .i64 b.tgt)), (10, .o (.int .i64 b.els)), (14, .o (.int .i64 b.els)), (19, .o (.int .i64 b.reg)), (23, .o (.int .i64 b.reg)), (25, .o (.int .i64 c.regs))] 12 39 [6, 7, 8] [(6, (.bool ((decide ((0 : Int) ≤ b.tgt)) && (decide (b.tgt < (c.blocks.length : Int)))))), (7, (.bool ((decide ((0 : Int) ≤ b.els)) && (decide (b.els < (c.blocks.length : Int)))))), (8, (.bool ((decide ((0 : Int) ≤ b.reg)) && (decide (b.reg < c.regs)))))] (vA (ql 3 3 (hc0 (HS.hc hs4 (i := 0) rfl)) rfl rfl) (vA (fun (g1 : (decide ((0 : Int) ≤ b.tgt)) = true) => (ql 3 3 (hc0 (HS.hc hs4 (i := 0) rfl)) rfl rfl)) (vA (ql 3 4 (hc0 (HS.hc hs4 (i := 0) rfl)) rfl rfl) (vA (fun (g1 : (decide ((0 : Int) ≤ b.els)) = true) => (ql 3 4 (hc0 (HS.hc hs4 (i := 0) rfl)) rfl rfl)) (vA (ql 3 2 (hc0 (HS.hc hs4 (i := 0) rfl)) rfl rfl) (vA (fun (g1 : (decide ((0 : Int) ≤ b.reg)) = true) => (ql 3 2 (hc0 (HS.hc hs4 (i := 0) rfl)) rfl rfl)) (vA (fun (g1 : (decide ((0 : Int) ≤ b.reg)) = true) => (ql 3 1 (hc0 (HS.hc hs4 (i := 1) rfl)) rfl rfl)) trivial))))))) rfl (by kernel_rfl) rfl fun gg6 => ?_
  refine wr 3 [(1, .o (.int .i64 b.fin))] 40 41 [] [(41, (.int .i64 b.fin))] (vA (ql 3 1 (HS.hc hs4 (i := 0) rfl) rfl rfl) trivial) (by kernel_rfl) rfl fun gg7 => ?_
  refine wr 1 [] 42 43 [] [(42, (.bool (b.fin == 1)))] trivial (by kernel_rfl) rfl fun gg8 => ?_
  refine wk_if 1 1 (v := (b.fin == 1)) rfl rfl rfl rfl (fun c9b => ?_) (fun c9b => ?_)
  · have c9 := c9b
    try simp only [BS] at c9
    refine wr 1 [(3, .o (.int .i64 b.els)), (8, .o (.int .i64 b.reg))] 44 54 [4] [(4, (.bool ((((decide ((0 : Int) ≤ b.tgt)) && (decide (b.tgt < (c.blocks.length : Int)))) && (b.els == 0)) && (b.reg == 0))))] (vA (fun (g1 : ((decide ((0 : Int) ≤ b.tgt)) && (decide (b.tgt < (c.blocks.length : Int)))) = true) => (ql 3 4 (HS.hc hs4 (i := 0) rfl) rfl rfl)) (vA (fun (g1 : (((decide ((0 : Int) ≤ b.tgt)) && (decide (b.tgt < (c.blocks.length : Int)))) && (b.els == 0)) = true) => (ql 3 2 (HS.hc hs4 (i := 0) rfl) rfl rfl)) trivial)) (by kernel_rfl) rfl fun gg10 => ?_
    refine wk_ret ⟨.inr rfl, _, rfl, ((((decide ((0 : Int) ≤ b.tgt)) && (decide (b.tgt < (c.blocks.length : Int)))) && (b.els == 0)) && (b.reg == 0)), _, (Fz.le_refl _), (HS.forget hs4), rfl, (by refine Bool.eq_iff_iff.2 (Iff.trans ?_ vend_iff.symm); first | omega | (simp [regOK_iff] <;> omega))⟩
  · have c9 := c9b
    try simp only [BS] at c9
    refine wr 1 [] 55 56 [] [(55, (.bool (b.fin == 2)))] trivial (by kernel_rfl) rfl fun gg11 => ?_
    refine wk_if 1 1 (v := (b.fin == 2)) rfl rfl rfl rfl (fun c12b => ?_) (fun c12b => ?_)
    · have c12 := c12b
      try simp only [BS] at c12
      refine wr 1 [] 57 63 [4] [(4, (.bool ((((decide ((0 : Int) ≤ b.tgt)) && (decide (b.tgt < (c.blocks.length : Int)))) && ((decide ((0 : Int) ≤ b.els)) && (decide (b.els < (c.blocks.length : Int))))) && ((decide ((0 : Int) ≤ b.reg)) && (decide (b.reg < c.regs))))))] trivial (by kernel_rfl) rfl fun gg13 => ?_
      refine wk_ret ⟨.inr rfl, _, rfl, ((((decide ((0 : Int) ≤ b.tgt)) && (decide (b.tgt < (c.blocks.length : Int)))) && ((decide ((0 : Int) ≤ b.els)) && (decide (b.els < (c.blocks.length : Int))))) && ((decide ((0 : Int) ≤ b.reg)) && (decide (b.reg < c.regs)))), _, (Fz.le_refl _), (HS.forget hs4), rfl, (by refine Bool.eq_iff_iff.2 (Iff.trans ?_ vend_iff.symm); first | omega | (simp [regOK_iff] <;> omega))⟩
    · have c12 := c12b
      try simp only [BS] at c12
      refine wr 1 [] 64 65 [] [(64, (.bool (b.fin == 3)))] trivial (by kernel_rfl) rfl fun gg14 => ?_
      refine wk_if 1 1 (v := (b.fin == 3)) rfl rfl rfl rfl (fun c15b => ?_) (fun c15b => ?_)
      · have c15 := c15b
        try simp only [BS] at c15
        refine wr 1 [(3, .o (.int .i64 b.tgt)), (8, .o (.int .i64 b.els))] 66 76 [4] [(4, (.bool ((((decide ((0 : Int) ≤ b.reg)) && (decide (b.reg < c.regs))) && (b.tgt == 0)) && (b.els == 0))))] (vA (fun (g1 : ((decide ((0 : Int) ≤ b.reg)) && (decide (b.reg < c.regs))) = true) => (ql 3 3 (HS.hc hs4 (i := 0) rfl) rfl rfl)) (vA (fun (g1 : (((decide ((0 : Int) ≤ b.reg)) && (decide (b.reg < c.regs))) && (b.tgt == 0)) = true) => (ql 3 4 (HS.hc hs4 (i := 0) rfl) rfl rfl)) trivial)) (by kernel_rfl) rfl fun gg16 => ?_
        refine wk_ret ⟨.inr rfl, _, rfl, ((((decide ((0 : Int) ≤ b.reg)) && (decide (b.reg < c.regs))) && (b.tgt == 0)) && (b.els == 0)), _, (Fz.le_refl _), (HS.forget hs4), rfl, (by refine Bool.eq_iff_iff.2 (Iff.trans ?_ vend_iff.symm); first | omega | (simp [regOK_iff] <;> omega))⟩
      · have c15 := c15b
        try simp only [BS] at c15
        refine wr 1 [] 77 78 [] [(77, (.bool (b.fin == 4)))] trivial (by kernel_rfl) rfl fun gg17 => ?_
        refine wk_if 1 3 (v := (b.fin == 4)) rfl rfl rfl rfl (fun c18b => ?_) (fun c18b => ?_)
        · have c18 := c18b
          try simp only [BS] at c18
          refine wr 1 [(1, .o (.int .i64 b.tgt)), (5, .o (.int .i64 b.tgt)), (10, .o (.int .i64 b.els)), (15, .o (.int .i64 b.reg))] 79 96 [4] [(4, (.bool ((((decide ((1 : Int) ≤ b.tgt)) && (decide (b.tgt < 33554432))) && (b.els == 0)) && (b.reg == 0))))] (vA (ql 3 3 (HS.hc hs4 (i := 0) rfl) rfl rfl) (vA (fun (g1 : (decide ((1 : Int) ≤ b.tgt)) = true) => (ql 3 3 (HS.hc hs4 (i := 0) rfl) rfl rfl)) (vA (fun (g1 : ((decide ((1 : Int) ≤ b.tgt)) && (decide (b.tgt < 33554432))) = true) => (ql 3 4 (HS.hc hs4 (i := 0) rfl) rfl rfl)) (vA (fun (g1 : (((decide ((1 : Int) ≤ b.tgt)) && (decide (b.tgt < 33554432))) && (b.els == 0)) = true) => (ql 3 2 (HS.hc hs4 (i := 0) rfl) rfl rfl)) trivial)))) (by kernel_rfl) rfl fun gg19 => ?_
          refine wk_ret ⟨.inr rfl, _, rfl, ((((decide ((1 : Int) ≤ b.tgt)) && (decide (b.tgt < 33554432))) && (b.els == 0)) && (b.reg == 0)), _, (Fz.le_refl _), (HS.forget hs4), rfl, (by refine Bool.eq_iff_iff.2 (Iff.trans ?_ vend_iff.symm); first | omega | (simp [regOK_iff] <;> omega))⟩
        · have c18 := c18b
          try simp only [BS] at c18
          refine wr 1 [] 4 4 [] [(4, (.bool false))] trivial (by kernel_rfl) rfl fun gg20 => ?_
          refine wk_ret ⟨.inr rfl, _, rfl, false, _, (Fz.le_refl _), (HS.forget hs4), rfl, (by refine Bool.eq_iff_iff.2 (Iff.trans ?_ vend_iff.symm); first | omega | (simp [regOK_iff] <;> omega))⟩

set_option maxHeartbeats 1000000 in
theorem valid_c (ex : FuncId) {ac_2 : Option Addr} {kc_2 : Nat} (c : VFnT) {F : Fz} {H : Heap} {R : List Fp} (hs : HS (.of H []) F H [] R) (hc_0 : in64 c.params) (hc_1 : in64 c.regs) (hc_2 : SR F (.slice ac_2 c.blocks.length kc_2) c.blocks) (hT : TB 37 tabC F) (hv : ∀ j, (c.blocks.getD j default).ins.length ≤ 9223372036854775807) : C Tryd.prog 1 (KT 60 ex 37 tabC) 39 [(.agg ⟨[(.int .i64 c.params), (.int .i64 c.regs), (.slice ac_2 c.blocks.length kc_2)]⟩)] H fun v H' => ∃ (r : Bool) (F' : Fz), Fz.le F F' ∧ HS (.of H []) F' H' [] R ∧ v = .bool r ∧ r = valV c := by
  refine c_enter Tryd.func39 rfl rfl ?_
  refine wk_foc 1 rfl ?_
  refine wk_region ?_
  refine wo_rs (rs_box hs rfl rfl) rfl rfl ?_
  rintro _ H2 _ ⟨b1, rfl, hs2, _⟩
  have hs2 : HS _ _ _ [[(b1, .cells [(.int .i64 c.params), (.int .i64 c.regs), (.slice ac_2 c.blocks.length kc_2)] none false)]] _ := hs2
  refine wa (.bool false) rfl rfl rfl ?_
  refine wo_end 3 rfl ?_
  refine wr 1 [(1, .o (.int .i64 c.params)), (5, .o (.int .i64 c.params)), (10, .o (.int .i64 c.regs)), (15, .o (.int .i64 c.regs)), (20, .o (.slice ac_2 c.blocks.length kc_2)), (26, .o (.slice ac_2 c.blocks.length kc_2))] 10 39 [] [(39, (.bool ((((((decide (c.params < 0)) || (decide ((6 : Int) < c.params))) || (decide (c.regs < 0))) || (decide ((3000 : Int) < c.regs))) || (decide ((c.blocks.length : Int) < 1))) || (decide ((1000 : Int) < (c.blocks.length : Int))))))] (vA (ql 3 0 (HS.hc hs2 (i := 0) rfl) rfl rfl) (vA (fun (g1 : (decide (c.params < 0)) = false) => (ql 3 0 (HS.hc hs2 (i := 0) rfl) rfl rfl)) (vA (fun (g1 : ((decide (c.params < 0)) || (decide ((6 : Int) < c.params))) = false) => (ql 3 1 (HS.hc hs2 (i := 0) rfl) rfl rfl)) (vA (fun (g1 : (((decide (c.params < 0)) || (decide ((6 : Int) < c.params))) || (decide (c.regs < 0))) = false) => (ql 3 1 (HS.hc hs2 (i := 0) rfl) rfl rfl)) (vA (fun (g1 : ((((decide (c.params < 0)) || (decide ((6 : Int) < c.params))) || (decide (c.regs < 0))) || (decide ((3000 : Int) < c.regs))) = false) => (ql 22 2 (HS.hc hs2 (i := 0) rfl) rfl rfl)) (vA (fun (g1 : (((((decide (c.params < 0)) || (decide ((6 : Int) < c.params))) || (decide (c.regs < 0))) || (decide ((3000 : Int) < c.regs))) || (decide ((c.blocks.length : Int) < 1))) = false) => (ql 22 2 (HS.hc hs2 (i := 0) rfl) rfl rfl)) trivial)))))) (by kernel_rfl) rfl fun gg3 => ?_
  refine wk_if 1 2 (v := ((((((decide (c.params < 0)) || (decide ((6 : Int) < c.params))) || (decide (c.regs < 0))) || (decide ((3000 : Int) < c.regs))) || (decide ((c.blocks.length : Int) < 1))) || (decide ((1000 : Int) < (c.blocks.length : Int))))) rfl rfl rfl rfl (fun c4b => ?_) (fun c4b => ?_)
  · have c4 := c4b
    try simp only [BS] at c4
    refine wr 1 [] 2 2 [] [(2, (.bool false))] trivial (by kernel_rfl) rfl fun gg5 => ?_
    refine wk_ret ⟨.inr rfl, _, rfl, false, _, (Fz.le_refl _), (HS.forget hs2), rfl, (by exact val_lim (by omega))⟩
  · have c4 := c4b
    try simp only [BS] at c4
    have hlim : 0 ≤ c.params ∧ c.params ≤ 6 ∧ 0 ≤ c.regs ∧ c.regs ≤ 3000 ∧ 1 ≤ c.blocks.length ∧ c.blocks.length ≤ 1000 := by omega
    refine wr 2 [] 40 40 [3] [(3, (.func (.func 67) #[] #[(.pointer (some ⟨b1, 0, none⟩))]))] trivial (by kernel_rfl) rfl fun gg6 => ?_
    refine wr 3 [] 41 41 [4] [(4, (.func (.func 68) #[] #[(.pointer (some ⟨b1, 0, none⟩))]))] trivial (by kernel_rfl) rfl fun gg7 => ?_
    refine wr 2 [(1, .o (.slice ac_2 c.blocks.length kc_2))] 42 45 [] [(43, (.slice ac_2 c.blocks.length kc_2)), (44, (.int .i64 (c.blocks.length : Int))), (45, (.int .i64 0))] (vA (ql 22 2 (HS.hc hs2 (i := 0) rfl) rfl rfl) trivial) (by kernel_rfl) rfl fun gg8 => ?_
    refine wk_loop_inv (fun (mm : Nat) f H' => ∃ (k : Nat) (F' : Fz), Fz.le F F' ∧ HS (Base.of H []) F' H' [[(b1, .cells [(.int .i64 c.params), (.int .i64 c.regs), (.slice ac_2 c.blocks.length kc_2)] none false)]] R ∧ agrees f [(1, (.pointer (some ⟨b1, 0, none⟩))), (3, (.func (.func 67) #[] #[(.pointer (some ⟨b1, 0, none⟩))])), (4, (.func (.func 68) #[] #[(.pointer (some ⟨b1, 0, none⟩))])), (43, (.slice ac_2 c.blocks.length kc_2)), (44, (.int .i64 (c.blocks.length : Int))), (45, (.int .i64 (k : Int)))] ∧ mm = c.blocks.length - k ∧ (k ≤ c.blocks.length) ∧ (∀ j, j < k → blkV c.params c.regs (c.blocks.length : Int) (c.blocks.getD j default) = true)) _ ⟨0, _, (Fz.le_refl _), hs2, (agC rfl (agC rfl (agC rfl (agC rfl (agC rfl (agC rfl agN)))))), rfl, (by first | assumption | omega | (simp at *; omega)), (by exact upto_zero)⟩ ?_
    rintro mm9 f9 H9 ⟨k, F9, hF9, hs9, hf9, rfl, hk, ha⟩ ih9
    refine wk_canon _ hf9 (fun gg9 => ?_)
    clear hf9
    replace hT := hT.mono hF9
    replace hc_2 := hc_2.mono hF9
    have hvk := hv k
    refine wk_foc 1 rfl ?_
    refine wr 2 [] 46 46 [] [(46, (.bool (decide ((k : Int) < (c.blocks.length : Int)))))] trivial (by kernel_rfl) rfl fun gg10 => ?_
    refine wk_if 4 5 (v := (decide ((k : Int) < (c.blocks.length : Int)))) rfl rfl rfl rfl (fun c11b => ?_) (fun c11b => ?_)
    · have c11 := c11b
      try simp only [BS] at c11
      refine wk_region ?_
      obtain ⟨cf12, hv12⟩ := Sv.view (SR.sv hc_2 hs9)
      obtain ⟨g13_1, g13_2, g13_3, g13_4, s13_0⟩ := BlkT.fx (hv12 k)
      refine wro 2 0 [(1, .o (.agg ⟨[(.slice (cA (cf12 k) 0) ((c.blocks.getD k default).ins).length (cK (cf12 k) 0)), (.int .i64 ((c.blocks.getD k default).fin)), (.int .i64 ((c.blocks.getD k default).reg)), (.int .i64 ((c.blocks.getD k default).tgt)), (.int .i64 ((c.blocks.getD k default).els))]⟩))] 47 48 [] [(48, (.agg ⟨[(.slice (cA (cf12 k) 0) ((c.blocks.getD k default).ins).length (cK (cf12 k) 0)), (.int .i64 ((c.blocks.getD k default).fin)), (.int .i64 ((c.blocks.getD k default).reg)), (.int .i64 ((c.blocks.getD k default).tgt)), (.int .i64 ((c.blocks.getD k default).els))]⟩))] (vA (Sv.ix (j := (k : Int)) (SR.sv hc_2 hs9) (by omega) (by omega)) (vA (qn 42 0 5 (BlkT.vw (hv12 k) (by omega)) rfl rfl rfl rfl) trivial)) (by kernel_rfl) rfl fun gg14 => ?_
      refine wo_rs (rs_new hs9 rfl) rfl rfl ?_
      rintro _ H16 _ ⟨b15, rfl, hs16, _⟩
      have hs16 : HS _ _ _ [_, [(b15, .cells [(.slice none 0 0), (.int .i64 0), (.int .i64 0), (.int .i64 0), (.int .i64 0)] none false)]] _ := hs16
      refine wo_rk (rs_rec (q := 1) hs16 rfl rfl rfl rfl rfl rfl rfl rfl rfl) rfl ?_
      rintro _ H17 _ ⟨hs17, _⟩
      have hs17 : HS _ _ _ [_, [(b15, .cells [(.slice (cA (cf12 k) 0) ((c.blocks.getD k default).ins).length (cK (cf12 k) 0)), (.int .i64 ((c.blocks.getD k default).fin)), (.int .i64 ((c.blocks.getD k default).reg)), (.int .i64 ((c.blocks.getD k default).tgt)), (.int .i64 ((c.blocks.getD k default).els))] none false)]] _ := hs17
      refine wo_end 3 rfl ?_
      refine wr 2 [(1, .o (.slice (cA (cf12 k) 0) ((c.blocks.getD k default).ins).length (cK (cf12 k) 0)))] 49 52 [] [(50, (.slice (cA (cf12 k) 0) ((c.blocks.getD k default).ins).length (cK (cf12 k) 0))), (51, (.int .i64 (((c.blocks.getD k default).ins).length : Int))), (52, (.int .i64 0))] (vA (ql 40 0 (HS.hc hs17 (i := 1) rfl) rfl rfl) trivial) (by kernel_rfl) rfl fun gg18 => ?_
      refine wk_loop_inv (fun (mm : Nat) f H' => ∃ (i : Nat) (F' : Fz), Fz.le F9 F' ∧ HS (Base.of H []) F' H' [[(b1, .cells [(.int .i64 c.params), (.int .i64 c.regs), (.slice ac_2 c.blocks.length kc_2)] none false)], [(b15, .cells [(.slice (cA (cf12 k) 0) ((c.blocks.getD k default).ins).length (cK (cf12 k) 0)), (.int .i64 ((c.blocks.getD k default).fin)), (.int .i64 ((c.blocks.getD k default).reg)), (.int .i64 ((c.blocks.getD k default).tgt)), (.int .i64 ((c.blocks.getD k default).els))] none false)]] R ∧ agrees f [(1, (.pointer (some ⟨b1, 0, none⟩))), (3, (.func (.func 67) #[] #[(.pointer (some ⟨b1, 0, none⟩))])), (4, (.func (.func 68) #[] #[(.pointer (some ⟨b1, 0, none⟩))])), (6, (.pointer (some ⟨b15, 0, none⟩))), (43, (.slice ac_2 c.blocks.length kc_2)), (44, (.int .i64 (c.blocks.length : Int))), (45, (.int .i64 (k : Int))), (46, (.bool (decide ((k : Int) < (c.blocks.length : Int))))), (48, (.agg ⟨[(.slice (cA (cf12 k) 0) ((c.blocks.getD k default).ins).length (cK (cf12 k) 0)), (.int .i64 ((c.blocks.getD k default).fin)), (.int .i64 ((c.blocks.getD k default).reg)), (.int .i64 ((c.blocks.getD k default).tgt)), (.int .i64 ((c.blocks.getD k default).els))]⟩)), (50, (.slice (cA (cf12 k) 0) ((c.blocks.getD k default).ins).length (cK (cf12 k) 0))), (51, (.int .i64 (((c.blocks.getD k default).ins).length : Int))), (52, (.int .i64 (i : Int)))] ∧ mm = (c.blocks.getD k default).ins.length - i ∧ (i ≤ (c.blocks.getD k default).ins.length) ∧ (∀ j, j < i → vinV c.params c.regs ((c.blocks.getD k default).ins.getD j default) = true)) _ ⟨0, _, (Fz.le_refl _), hs17, (agC rfl (agC rfl (agC rfl (agC rfl (agC rfl (agC rfl (agC rfl (agC rfl (agC rfl (agC rfl (agC rfl (agC rfl agN)))))))))))), rfl, (by first | assumption | omega | (simp at *; omega)), (by exact upto_zero)⟩ ?_
      rintro mm19 f19 H19 ⟨i, F19, hF19, hs19, hf19, rfl, hi, hb⟩ ih19
      refine wk_canon _ hf19 (fun gg19 => ?_)
      clear hf19
      replace hT := hT.mono hF19
      replace hc_2 := hc_2.mono hF19
      replace s13_0 := s13_0.mono hF19
      refine wk_foc 1 rfl ?_
      refine wr 2 [] 53 53 [] [(53, (.bool (decide ((i : Int) < (((c.blocks.getD k default).ins).length : Int)))))] trivial (by kernel_rfl) rfl fun gg20 => ?_
      refine wk_if 4 5 (v := (decide ((i : Int) < (((c.blocks.getD k default).ins).length : Int)))) rfl rfl rfl rfl (fun c21b => ?_) (fun c21b => ?_)
      · have c21 := c21b
        try simp only [BS] at c21
        refine wk_region ?_
        obtain ⟨cf22, hv22⟩ := Sv.view (SR.sv s13_0 hs19)
        obtain ⟨g23_0, g23_1, g23_2, g23_3, g23_4, s23_5⟩ := VInT.fx (hv22 i)
        refine wro 2 0 [(1, .o (.agg ⟨[(.int .i64 ((((c.blocks.getD k default).ins).getD i default).i.op)), (.int .i64 ((((c.blocks.getD k default).ins).getD i default).i.a)), (.int .i64 ((((c.blocks.getD k default).ins).getD i default).i.b)), (.int .i64 ((((c.blocks.getD k default).ins).getD i default).i.c)), (.int .i64 ((((c.blocks.getD k default).ins).getD i default).i.n)), (.slice (cA (cf22 i) 5) ((((c.blocks.getD k default).ins).getD i default).args).length (cK (cf22 i) 5))]⟩))] 54 55 [] [(55, (.agg ⟨[(.int .i64 ((((c.blocks.getD k default).ins).getD i default).i.op)), (.int .i64 ((((c.blocks.getD k default).ins).getD i default).i.a)), (.int .i64 ((((c.blocks.getD k default).ins).getD i default).i.b)), (.int .i64 ((((c.blocks.getD k default).ins).getD i default).i.c)), (.int .i64 ((((c.blocks.getD k default).ins).getD i default).i.n)), (.slice (cA (cf22 i) 5) ((((c.blocks.getD k default).ins).getD i default).args).length (cK (cf22 i) 5))]⟩))] (vA (Sv.ix (j := (i : Int)) (SR.sv s13_0 hs19) (by omega) (by omega)) (vA (qn 47 0 6 (VInT.vw (hv22 i) (by omega)) rfl rfl rfl rfl) trivial)) (by kernel_rfl) rfl fun gg24 => ?_
        refine wo_rs (rs_new hs19 rfl) rfl rfl ?_
        rintro _ H26 _ ⟨b25, rfl, hs26, _⟩
        have hs26 : HS _ _ _ [_, _, [(b25, .cells [(.int .i64 0), (.int .i64 0), (.int .i64 0), (.int .i64 0), (.int .i64 0), (.slice none 0 0)] none false)]] _ := hs26
        refine wo_rk (rs_rec (q := 2) hs26 rfl rfl rfl rfl rfl rfl rfl rfl rfl) rfl ?_
        rintro _ H27 _ ⟨hs27, _⟩
        have hs27 : HS _ _ _ [_, _, [(b25, .cells [(.int .i64 ((((c.blocks.getD k default).ins).getD i default).i.op)), (.int .i64 ((((c.blocks.getD k default).ins).getD i default).i.a)), (.int .i64 ((((c.blocks.getD k default).ins).getD i default).i.b)), (.int .i64 ((((c.blocks.getD k default).ins).getD i default).i.c)), (.int .i64 ((((c.blocks.getD k default).ins).getD i default).i.n)), (.slice (cA (cf22 i) 5) ((((c.blocks.getD k default).ins).getD i default).args).length (cK (cf22 i) 5))] none false)]] _ := hs27
        refine wo_end 2 rfl ?_
        refine wk_region ?_
        refine wro 2 0 [(0, .o (.agg ⟨[(.int .i64 c.params), (.int .i64 c.regs), (.slice ac_2 c.blocks.length kc_2)]⟩)), (1, .o (.agg ⟨[(.int .i64 ((((c.blocks.getD k default).ins).getD i default).i.op)), (.int .i64 ((((c.blocks.getD k default).ins).getD i default).i.a)), (.int .i64 ((((c.blocks.getD k default).ins).getD i default).i.b)), (.int .i64 ((((c.blocks.getD k default).ins).getD i default).i.c)), (.int .i64 ((((c.blocks.getD k default).ins).getD i default).i.n)), (.slice (cA (cf22 i) 5) ((((c.blocks.getD k default).ins).getD i default).args).length (cK (cf22 i) 5))]⟩))] 56 57 [] [(56, (.agg ⟨[(.int .i64 c.params), (.int .i64 c.regs), (.slice ac_2 c.blocks.length kc_2)]⟩)), (57, (.agg ⟨[(.int .i64 ((((c.blocks.getD k default).ins).getD i default).i.op)), (.int .i64 ((((c.blocks.getD k default).ins).getD i default).i.a)), (.int .i64 ((((c.blocks.getD k default).ins).getD i default).i.b)), (.int .i64 ((((c.blocks.getD k default).ins).getD i default).i.c)), (.int .i64 ((((c.blocks.getD k default).ins).getD i default).i.n)), (.slice (cA (cf22 i) 5) ((((c.blocks.getD k default).ins).getD i default).args).length (cK (cf22 i) 5))]⟩))] (vA (qn 24 0 3 (HS.hc hs27 (i := 0) rfl) rfl rfl rfl rfl) (vA (qn 47 0 6 (HS.hc hs27 (i := 2) rfl) rfl rfl rfl rfl) trivial)) (by kernel_rfl) rfl fun gg28 => ?_
        refine wo_call (ap_call rfl rfl rfl) rfl rfl (vinstr_c ex (⟨c.params, c.regs, c.blocks⟩ : VFnT) (⟨(⟨(((c.blocks.getD k default).ins).getD i default).i.op, (((c.blocks.getD k default).ins).getD i default).i.a, (((c.blocks.getD k default).ins).getD i default).i.b, (((c.blocks.getD k default).ins).getD i default).i.c, (((c.blocks.getD k default).ins).getD i default).i.n⟩ : InsT), (((c.blocks.getD k default).ins).getD i default).args⟩ : VInT) (HS.call hs27) (by omega) (by omega) hc_2 (by omega) (by omega) (by omega) (by omega) (by omega) s23_5 hT) ?_
        rintro _ H29 ⟨r29, F29, hF29, hs29, rfl, rfl⟩
        replace hs29 := HS.back hs27 rfl hs29
        have hs29 : HS _ _ _ [_, _, _] _ := hs29
        replace hT := hT.mono hF29
        replace hc_2 := hc_2.mono hF29
        replace s13_0 := s13_0.mono hF29
        replace s23_5 := s23_5.mono hF29
        refine wro 1 3 [] 59 59 [] [(59, (.bool (!(vinV (⟨c.params, c.regs, c.blocks⟩ : VFnT).params (⟨c.params, c.regs, c.blocks⟩ : VFnT).regs (⟨(⟨(((c.blocks.getD k default).ins).getD i default).i.op, (((c.blocks.getD k default).ins).getD i default).i.a, (((c.blocks.getD k default).ins).getD i default).i.b, (((c.blocks.getD k default).ins).getD i default).i.c, (((c.blocks.getD k default).ins).getD i default).i.n⟩ : InsT), (((c.blocks.getD k default).ins).getD i default).args⟩ : VInT)))))] trivial (by kernel_rfl) rfl fun gg30 => ?_
        refine wo_end 1 rfl ?_
        refine wk_if 1 2 (v := (!(vinV (⟨c.params, c.regs, c.blocks⟩ : VFnT).params (⟨c.params, c.regs, c.blocks⟩ : VFnT).regs (⟨(⟨(((c.blocks.getD k default).ins).getD i default).i.op, (((c.blocks.getD k default).ins).getD i default).i.a, (((c.blocks.getD k default).ins).getD i default).i.b, (((c.blocks.getD k default).ins).getD i default).i.c, (((c.blocks.getD k default).ins).getD i default).i.n⟩ : InsT), (((c.blocks.getD k default).ins).getD i default).args⟩ : VInT)))) rfl rfl rfl rfl (fun c31b => ?_) (fun c31b => ?_)
        · have c31 := c31b
          try simp only [BS] at c31
          have h3 := c31
          refine wr 1 [] 2 2 [] [(2, (.bool false))] trivial (by kernel_rfl) rfl fun gg32 => ?_
          refine wk_ret ⟨.inr rfl, _, rfl, false, _, (Fz.le_trans (Fz.le_trans (hF9) hF19) hF29), (HS.forget hs29), rfl, (by exact val_no (all_not (by omega) (blk_no (all_not (by omega) h3))))⟩
        · have c31 := c31b
          try simp only [BS] at c31
          refine wr 1 [] 52 52 [60] [(52, (.int .i64 ((i : Int) + 1)))] (vA (vi (n := (i : Int) + 1) (by omega)) trivial) (by kernel_rfl) rfl fun gg33 => ?_
          refine ih19 _ _ _ ?_ ⟨i + 1, _, (Fz.le_trans (hF19) hF29), (HS.sub hs29 (List.sublist_append_left _ _)), (agC rfl (agC rfl (agC rfl (agC rfl (agC rfl (agC rfl (agC rfl (agC rfl (agC rfl (agC rfl (agC rfl (agC rfl agN)))))))))))), rfl, (by first | assumption | omega | (simp at *; omega)), (by exact upto_succ hb (by assumption))⟩
          omega
      · have c21 := c21b
        try simp only [BS] at c21
        have hal := upto_all hb (by omega)
        refine wr 3 [] 1 0 [9] [(9, (.bool false))] trivial (by kernel_rfl) rfl fun gg34 => ?_
        refine wr 3 [(1, .o (.int .i64 ((c.blocks.getD k default).fin)))] 61 62 [] [(62, (.int .i64 ((c.blocks.getD k default).fin)))] (vA (ql 3 1 (HS.hc hs19 (i := 1) rfl) rfl rfl) trivial) (by kernel_rfl) rfl fun gg35 => ?_
        refine wr 1 [] 63 64 [] [(63, (.bool ((c.blocks.getD k default).fin == 1)))] trivial (by kernel_rfl) rfl fun gg36 => ?_
        refine wk_if 0 1 (v := ((c.blocks.getD k default).fin == 1)) rfl rfl rfl rfl (fun c37b => ?_) (fun c37b => ?_)
        · have c37 := c37b
          try simp only [BS] at c37
          refine wr 3 [(2, .o (.int .i64 ((c.blocks.getD k default).tgt))), (3, .o (.bool (regOK ((⟨c.params, c.regs, c.blocks⟩ : VFnT).blocks.length : Int) ((c.blocks.getD k default).tgt)))), (6, .o (.int .i64 ((c.blocks.getD k default).reg))), (11, .o (.int .i64 ((c.blocks.getD k default).els)))] 65 78 [9] [(9, (.bool ((regOK ((⟨c.params, c.regs, c.blocks⟩ : VFnT).blocks.length : Int) ((c.blocks.getD k default).tgt) && ((c.blocks.getD k default).reg == 0)) && ((c.blocks.getD k default).els == 0))))] (vA (ql 3 3 (HS.hc hs19 (i := 1) rfl) rfl rfl) (vA (cBlk_c_q ex ((c.blocks.getD k default).tgt) (⟨c.params, c.regs, c.blocks⟩ : VFnT) H19 (by omega) (HS.hc hs19 (i := 0) rfl) (by omega) (by omega)) (vA (fun (g1 : (regOK ((⟨c.params, c.regs, c.blocks⟩ : VFnT).blocks.length : Int) ((c.blocks.getD k default).tgt)) = true) => (ql 3 2 (HS.hc hs19 (i := 1) rfl) rfl rfl)) (vA (fun (g1 : (regOK ((⟨c.params, c.regs, c.blocks⟩ : VFnT).blocks.length : Int) ((c.blocks.getD k default).tgt) && ((c.blocks.getD k default).reg == 0)) = true) => (ql 3 4 (HS.hc hs19 (i := 1) rfl) rfl rfl)) trivial)))) (by kernel_rfl) rfl fun gg38 => ?_
          refine wr 1 [] 133 134 [] [(134, (.bool (!((regOK ((⟨c.params, c.regs, c.blocks⟩ : VFnT).blocks.length : Int) ((c.blocks.getD k default).tgt) && ((c.blocks.getD k default).reg == 0)) && ((c.blocks.getD k default).els == 0)))))] trivial (by kernel_rfl) rfl fun gg39 => ?_
          refine wk_if 1 2 (v := (!((regOK ((⟨c.params, c.regs, c.blocks⟩ : VFnT).blocks.length : Int) ((c.blocks.getD k default).tgt) && ((c.blocks.getD k default).reg == 0)) && ((c.blocks.getD k default).els == 0)))) rfl rfl rfl rfl (fun c40b => ?_) (fun c40b => ?_)
          · have c40 := c40b
            try simp only [BS] at c40
            have h8 := c40
            try simp only [regOK_not, regOK_iff] at h8
            refine wr 1 [] 2 2 [] [(2, (.bool false))] trivial (by kernel_rfl) rfl fun gg41 => ?_
            refine wk_ret ⟨.inr rfl, _, rfl, false, _, (Fz.le_trans (hF9) hF19), (HS.forget hs19), rfl, (by exact val_no (all_not (k := k) (by omega) (blk_end (Bool.eq_false_iff.2 fun hv => by rw [vend_iff] at hv; omega))))⟩
          · have c40 := c40b
            try simp only [BS] at c40
            have h8 := c40
            try simp only [regOK_not, regOK_iff] at h8
            refine wr 1 [] 45 45 [135] [(45, (.int .i64 ((k : Int) + 1)))] (vA (vi (n := (k : Int) + 1) (by omega)) trivial) (by kernel_rfl) rfl fun gg42 => ?_
            refine ih9 _ _ _ ?_ ⟨k + 1, _, (Fz.le_trans (hF9) hF19), (HS.sub hs19 (List.sublist_append_left _ _)), (agC rfl (agC rfl (agC rfl (agC rfl (agC rfl (agC rfl agN)))))), rfl, (by first | assumption | omega | (simp at *; omega)), (by exact upto_succ ha (blk_yes hal (by first | assumption | (rw [vend_iff]; omega))))⟩
            omega
        · have c37 := c37b
          try simp only [BS] at c37
          refine wr 1 [] 79 80 [] [(79, (.bool ((c.blocks.getD k default).fin == 2)))] trivial (by kernel_rfl) rfl fun gg43 => ?_
          refine wk_if 0 1 (v := ((c.blocks.getD k default).fin == 2)) rfl rfl rfl rfl (fun c44b => ?_) (fun c44b => ?_)
          · have c44 := c44b
            try simp only [BS] at c44
            refine wr 3 [(2, .o (.int .i64 ((c.blocks.getD k default).tgt))), (3, .o (.bool (regOK ((⟨c.params, c.regs, c.blocks⟩ : VFnT).blocks.length : Int) ((c.blocks.getD k default).tgt)))), (7, .o (.int .i64 ((c.blocks.getD k default).els))), (8, .o (.bool (regOK ((⟨c.params, c.regs, c.blocks⟩ : VFnT).blocks.length : Int) ((c.blocks.getD k default).els)))), (13, .o (.int .i64 ((c.blocks.getD k default).reg))), (14, .o (.bool (regOK (⟨c.params, c.regs, c.blocks⟩ : VFnT).regs ((c.blocks.getD k default).reg))))] 81 96 [9] [(9, (.bool ((regOK ((⟨c.params, c.regs, c.blocks⟩ : VFnT).blocks.length : Int) ((c.blocks.getD k default).tgt) && regOK ((⟨c.params, c.regs, c.blocks⟩ : VFnT).blocks.length : Int) ((c.blocks.getD k default).els)) && regOK (⟨c.params, c.regs, c.blocks⟩ : VFnT).regs ((c.blocks.getD k default).reg))))] (vA (ql 3 3 (HS.hc hs19 (i := 1) rfl) rfl rfl) (vA (cBlk_c_q ex ((c.blocks.getD k default).tgt) (⟨c.params, c.regs, c.blocks⟩ : VFnT) H19 (by omega) (HS.hc hs19 (i := 0) rfl) (by omega) (by omega)) (vA (fun (g1 : (regOK ((⟨c.params, c.regs, c.blocks⟩ : VFnT).blocks.length : Int) ((c.blocks.getD k default).tgt)) = true) => (ql 3 4 (HS.hc hs19 (i := 1) rfl) rfl rfl)) (vA (fun (g1 : (regOK ((⟨c.params, c.regs, c.blocks⟩ : VFnT).blocks.length : Int) ((c.blocks.getD k default).tgt)) = true) => (cBlk_c_q ex ((c.blocks.getD k default).els) (⟨c.params, c.regs, c.blocks⟩ : VFnT) H19 (by (try simp only [BS] at g1); omega) (HS.hc hs19 (i := 0) rfl) (by (try simp only [BS] at g1); omega) (by (try simp only [BS] at g1); omega))) (vA (fun (g1 : (regOK ((⟨c.params, c.regs, c.blocks⟩ : VFnT).blocks.length : Int) ((c.blocks.getD k default).tgt) && regOK ((⟨c.params, c.regs, c.blocks⟩ : VFnT).blocks.length : Int) ((c.blocks.getD k default).els)) = true) => (ql 3 2 (HS.hc hs19 (i := 1) rfl) rfl rfl)) (vA (fun (g1 : (regOK ((⟨c.params, c.regs, c.blocks⟩ : VFnT).blocks.length : Int) ((c.blocks.getD k default).tgt) && regOK ((⟨c.params, c.regs, c.blocks⟩ : VFnT).blocks.length : Int) ((c.blocks.getD k default).els)) = true) => (cReg_c_q ex ((c.blocks.getD k default).reg) (⟨c.params, c.regs, c.blocks⟩ : VFnT) H19 (by (try simp only [BS] at g1); omega) (HS.hc hs19 (i := 0) rfl) (by (try simp only [BS] at g1); omega) (by (try simp only [BS] at g1); omega))) trivial)))))) (by kernel_rfl) rfl fun gg45 => ?_
            refine wr 1 [] 133 134 [] [(134, (.bool (!((regOK ((⟨c.params, c.regs, c.blocks⟩ : VFnT).blocks.length : Int) ((c.blocks.getD k default).tgt) && regOK ((⟨c.params, c.regs, c.blocks⟩ : VFnT).blocks.length : Int) ((c.blocks.getD k default).els)) && regOK (⟨c.params, c.regs, c.blocks⟩ : VFnT).regs ((c.blocks.getD k default).reg)))))] trivial (by kernel_rfl) rfl fun gg46 => ?_
            refine wk_if 1 2 (v := (!((regOK ((⟨c.params, c.regs, c.blocks⟩ : VFnT).blocks.length : Int) ((c.blocks.getD k default).tgt) && regOK ((⟨c.params, c.regs, c.blocks⟩ : VFnT).blocks.length : Int) ((c.blocks.getD k default).els)) && regOK (⟨c.params, c.regs, c.blocks⟩ : VFnT).regs ((c.blocks.getD k default).reg)))) rfl rfl rfl rfl (fun c47b => ?_) (fun c47b => ?_)
            · have c47 := c47b
              try simp only [BS] at c47
              have h8 := c47
              try simp only [regOK_not, regOK_iff] at h8
              refine wr 1 [] 2 2 [] [(2, (.bool false))] trivial (by kernel_rfl) rfl fun gg48 => ?_
              refine wk_ret ⟨.inr rfl, _, rfl, false, _, (Fz.le_trans (hF9) hF19), (HS.forget hs19), rfl, (by exact val_no (all_not (k := k) (by omega) (blk_end (Bool.eq_false_iff.2 fun hv => by rw [vend_iff] at hv; omega))))⟩
            · have c47 := c47b
              try simp only [BS] at c47
              have h8 := c47
              try simp only [regOK_not, regOK_iff] at h8
              refine wr 1 [] 45 45 [135] [(45, (.int .i64 ((k : Int) + 1)))] (vA (vi (n := (k : Int) + 1) (by omega)) trivial) (by kernel_rfl) rfl fun gg49 => ?_
              refine ih9 _ _ _ ?_ ⟨k + 1, _, (Fz.le_trans (hF9) hF19), (HS.sub hs19 (List.sublist_append_left _ _)), (agC rfl (agC rfl (agC rfl (agC rfl (agC rfl (agC rfl agN)))))), rfl, (by first | assumption | omega | (simp at *; omega)), (by exact upto_succ ha (blk_yes hal (by first | assumption | (rw [vend_iff]; omega))))⟩
              omega
          · have c44 := c44b
            try simp only [BS] at c44
            refine wr 1 [] 97 98 [] [(97, (.bool ((c.blocks.getD k default).fin == 3)))] trivial (by kernel_rfl) rfl fun gg50 => ?_
            refine wk_if 0 1 (v := ((c.blocks.getD k default).fin == 3)) rfl rfl rfl rfl (fun c51b => ?_) (fun c51b => ?_)
            · have c51 := c51b
              try simp only [BS] at c51
              refine wr 3 [(2, .o (.int .i64 ((c.blocks.getD k default).reg))), (3, .o (.bool (regOK (⟨c.params, c.regs, c.blocks⟩ : VFnT).regs ((c.blocks.getD k default).reg)))), (6, .o (.int .i64 ((c.blocks.getD k default).tgt))), (11, .o (.int .i64 ((c.blocks.getD k default).els)))] 99 112 [9] [(9, (.bool ((regOK (⟨c.params, c.regs, c.blocks⟩ : VFnT).regs ((c.blocks.getD k default).reg) && ((c.blocks.getD k default).tgt == 0)) && ((c.blocks.getD k default).els == 0))))] (vA (ql 3 2 (HS.hc hs19 (i := 1) rfl) rfl rfl) (vA (cReg_c_q ex ((c.blocks.getD k default).reg) (⟨c.params, c.regs, c.blocks⟩ : VFnT) H19 (by omega) (HS.hc hs19 (i := 0) rfl) (by omega) (by omega)) (vA (fun (g1 : (regOK (⟨c.params, c.regs, c.blocks⟩ : VFnT).regs ((c.blocks.getD k default).reg)) = true) => (ql 3 3 (HS.hc hs19 (i := 1) rfl) rfl rfl)) (vA (fun (g1 : (regOK (⟨c.params, c.regs, c.blocks⟩ : VFnT).regs ((c.blocks.getD k default).reg) && ((c.blocks.getD k default).tgt == 0)) = true) => (ql 3 4 (HS.hc hs19 (i := 1) rfl) rfl rfl)) trivial)))) (by kernel_rfl) rfl fun gg52 => ?_
              refine wr 1 [] 133 134 [] [(134, (.bool (!((regOK (⟨c.params, c.regs, c.blocks⟩ : VFnT).regs ((c.blocks.getD k default).reg) && ((c.blocks.getD k default).tgt == 0)) && ((c.blocks.getD k default).els == 0)))))] trivial (by kernel_rfl) rfl fun gg53 => ?_
              refine wk_if 1 2 (v := (!((regOK (⟨c.params, c.regs, c.blocks⟩ : VFnT).regs ((c.blocks.getD k default).reg) && ((c.blocks.getD k default).tgt == 0)) && ((c.blocks.getD k default).els == 0)))) rfl rfl rfl rfl (fun c54b => ?_) (fun c54b => ?_)
              · have c54 := c54b
                try simp only [BS] at c54
                have h8 := c54
                try simp only [regOK_not, regOK_iff] at h8
                refine wr 1 [] 2 2 [] [(2, (.bool false))] trivial (by kernel_rfl) rfl fun gg55 => ?_
                refine wk_ret ⟨.inr rfl, _, rfl, false, _, (Fz.le_trans (hF9) hF19), (HS.forget hs19), rfl, (by exact val_no (all_not (k := k) (by omega) (blk_end (Bool.eq_false_iff.2 fun hv => by rw [vend_iff] at hv; omega))))⟩
              · have c54 := c54b
                try simp only [BS] at c54
                have h8 := c54
                try simp only [regOK_not, regOK_iff] at h8
                refine wr 1 [] 45 45 [135] [(45, (.int .i64 ((k : Int) + 1)))] (vA (vi (n := (k : Int) + 1) (by omega)) trivial) (by kernel_rfl) rfl fun gg56 => ?_
                refine ih9 _ _ _ ?_ ⟨k + 1, _, (Fz.le_trans (hF9) hF19), (HS.sub hs19 (List.sublist_append_left _ _)), (agC rfl (agC rfl (agC rfl (agC rfl (agC rfl (agC rfl agN)))))), rfl, (by first | assumption | omega | (simp at *; omega)), (by exact upto_succ ha (blk_yes hal (by first | assumption | (rw [vend_iff]; omega))))⟩
                omega
            · have c51 := c51b
              try simp only [BS] at c51
              refine wr 1 [] 113 114 [] [(113, (.bool ((c.blocks.getD k default).fin == 4)))] trivial (by kernel_rfl) rfl fun gg57 => ?_
              refine wk_if 0 3 (v := ((c.blocks.getD k default).fin == 4)) rfl rfl rfl rfl (fun c58b => ?_) (fun c58b => ?_)
              · have c58 := c58b
                try simp only [BS] at c58
                refine wr 3 [(1, .o (.int .i64 ((c.blocks.getD k default).tgt))), (5, .o (.int .i64 ((c.blocks.getD k default).tgt))), (10, .o (.int .i64 ((c.blocks.getD k default).reg))), (15, .o (.int .i64 ((c.blocks.getD k default).els)))] 115 132 [9] [(9, (.bool ((((decide ((1 : Int) ≤ (c.blocks.getD k default).tgt)) && (decide ((c.blocks.getD k default).tgt < 33554432))) && ((c.blocks.getD k default).reg == 0)) && ((c.blocks.getD k default).els == 0))))] (vA (ql 3 3 (HS.hc hs19 (i := 1) rfl) rfl rfl) (vA (fun (g1 : (decide ((1 : Int) ≤ (c.blocks.getD k default).tgt)) = true) => (ql 3 3 (HS.hc hs19 (i := 1) rfl) rfl rfl)) (vA (fun (g1 : ((decide ((1 : Int) ≤ (c.blocks.getD k default).tgt)) && (decide ((c.blocks.getD k default).tgt < 33554432))) = true) => (ql 3 2 (HS.hc hs19 (i := 1) rfl) rfl rfl)) (vA (fun (g1 : (((decide ((1 : Int) ≤ (c.blocks.getD k default).tgt)) && (decide ((c.blocks.getD k default).tgt < 33554432))) && ((c.blocks.getD k default).reg == 0)) = true) => (ql 3 4 (HS.hc hs19 (i := 1) rfl) rfl rfl)) trivial)))) (by kernel_rfl) rfl fun gg59 => ?_
                refine wr 1 [] 133 134 [] [(134, (.bool (!((((decide ((1 : Int) ≤ (c.blocks.getD k default).tgt)) && (decide ((c.blocks.getD k default).tgt < 33554432))) && ((c.blocks.getD k default).reg == 0)) && ((c.blocks.getD k default).els == 0)))))] trivial (by kernel_rfl) rfl fun gg60 => ?_
                refine wk_if 1 2 (v := (!((((decide ((1 : Int) ≤ (c.blocks.getD k default).tgt)) && (decide ((c.blocks.getD k default).tgt < 33554432))) && ((c.blocks.getD k default).reg == 0)) && ((c.blocks.getD k default).els == 0)))) rfl rfl rfl rfl (fun c61b => ?_) (fun c61b => ?_)
                · have c61 := c61b
                  try simp only [BS] at c61
                  have h8 := c61
                  try simp only [regOK_not, regOK_iff] at h8
                  refine wr 1 [] 2 2 [] [(2, (.bool false))] trivial (by kernel_rfl) rfl fun gg62 => ?_
                  refine wk_ret ⟨.inr rfl, _, rfl, false, _, (Fz.le_trans (hF9) hF19), (HS.forget hs19), rfl, (by exact val_no (all_not (k := k) (by omega) (blk_end (Bool.eq_false_iff.2 fun hv => by rw [vend_iff] at hv; omega))))⟩
                · have c61 := c61b
                  try simp only [BS] at c61
                  have h8 := c61
                  try simp only [regOK_not, regOK_iff] at h8
                  refine wr 1 [] 45 45 [135] [(45, (.int .i64 ((k : Int) + 1)))] (vA (vi (n := (k : Int) + 1) (by omega)) trivial) (by kernel_rfl) rfl fun gg63 => ?_
                  refine ih9 _ _ _ ?_ ⟨k + 1, _, (Fz.le_trans (hF9) hF19), (HS.sub hs19 (List.sublist_append_left _ _)), (agC rfl (agC rfl (agC rfl (agC rfl (agC rfl (agC rfl agN)))))), rfl, (by first | assumption | omega | (simp at *; omega)), (by exact upto_succ ha (blk_yes hal (by first | assumption | (rw [vend_iff]; omega))))⟩
                  omega
              · have c58 := c58b
                try simp only [BS] at c58
                refine wr 1 [] 133 134 [] [(134, (.bool true))] trivial (by kernel_rfl) rfl fun gg64 => ?_
                refine wk_ift 1 (v := true) rfl rfl rfl rfl ?_
                refine wr 1 [] 2 2 [] [(2, (.bool false))] trivial (by kernel_rfl) rfl fun gg65 => ?_
                refine wk_ret ⟨.inr rfl, _, rfl, false, _, (Fz.le_trans (hF9) hF19), (HS.forget hs19), rfl, (by exact val_no (all_not (k := k) (by omega) (blk_end (Bool.eq_false_iff.2 fun hv => by rw [vend_iff] at hv; omega))))⟩
    · have c11 := c11b
      try simp only [BS] at c11
      refine wr 1 [] 2 2 [] [(2, (.bool true))] trivial (by kernel_rfl) rfl fun gg66 => ?_
      refine wk_ret ⟨.inr rfl, _, rfl, true, _, (hF9), (HS.forget hs9), rfl, (by exact val_yes hlim (upto_all ha (by omega)))⟩

set_option maxHeartbeats 1000000 in
theorem rvalid_c (ex : FuncId) {ac_2 : Option Addr} {kc_2 : Nat} (c : VFnT) {F : Fz} {H : Heap} {R : List Fp} (hs : HS (.of H []) F H [] R) (hc_0 : in64 c.params) (hc_1 : in64 c.regs) (hc_2 : SR F (.slice ac_2 c.blocks.length kc_2) c.blocks) (hT : TB 37 tabC F) (hv : ∀ j, (c.blocks.getD j default).ins.length ≤ 9223372036854775807) : C Tryd.prog 1 (KT 60 ex 37 tabC) 40 [(.agg ⟨[(.int .i64 c.params), (.int .i64 c.regs), (.slice ac_2 c.blocks.length kc_2)]⟩)] H fun v H' => ∃ (r : Bool) (F' : Fz), Fz.le F F' ∧ HS (.of H []) F' H' [] R ∧ v = .bool r ∧ r = valV c := by
  refine c_enter Tryd.func40 rfl rfl ?_
  refine wk_foc 1 rfl ?_
  refine wk_region ?_
  refine wo_rs (rs_box hs rfl rfl) rfl rfl ?_
  rintro _ H2 _ ⟨b1, rfl, hs2, _⟩
  have hs2 : HS _ _ _ [[(b1, .cells [(.int .i64 c.params), (.int .i64 c.regs), (.slice ac_2 c.blocks.length kc_2)] none false)]] _ := hs2
  refine wa (.bool false) rfl rfl rfl ?_
  refine wo_end 3 rfl ?_
  refine wr 1 [(1, .o (.int .i64 c.params)), (5, .o (.int .i64 c.params)), (10, .o (.int .i64 c.regs)), (15, .o (.int .i64 c.regs)), (20, .o (.slice ac_2 c.blocks.length kc_2)), (26, .o (.slice ac_2 c.blocks.length kc_2))] 6 35 [] [(35, (.bool ((((((decide (c.params < 0)) || (decide ((6 : Int) < c.params))) || (decide (c.regs < 0))) || (decide ((3000 : Int) < c.regs))) || (decide ((c.blocks.length : Int) < 1))) || (decide ((1000 : Int) < (c.blocks.length : Int))))))] (vA (ql 3 0 (HS.hc hs2 (i := 0) rfl) rfl rfl) (vA (fun (g1 : (decide (c.params < 0)) = false) => (ql 3 0 (HS.hc hs2 (i := 0) rfl) rfl rfl)) (vA (fun (g1 : ((decide (c.params < 0)) || (decide ((6 : Int) < c.params))) = false) => (ql 3 1 (HS.hc hs2 (i := 0) rfl) rfl rfl)) (vA (fun (g1 : (((decide (c.params < 0)) || (decide ((6 : Int) < c.params))) || (decide (c.regs < 0))) = false) => (ql 3 1 (HS.hc hs2 (i := 0) rfl) rfl rfl)) (vA (fun (g1 : ((((decide (c.params < 0)) || (decide ((6 : Int) < c.params))) || (decide (c.regs < 0))) || (decide ((3000 : Int) < c.regs))) = false) => (ql 22 2 (HS.hc hs2 (i := 0) rfl) rfl rfl)) (vA (fun (g1 : (((((decide (c.params < 0)) || (decide ((6 : Int) < c.params))) || (decide (c.regs < 0))) || (decide ((3000 : Int) < c.regs))) || (decide ((c.blocks.length : Int) < 1))) = false) => (ql 22 2 (HS.hc hs2 (i := 0) rfl) rfl rfl)) trivial)))))) (by kernel_rfl) rfl fun gg3 => ?_
  refine wk_if 1 3 (v := ((((((decide (c.params < 0)) || (decide ((6 : Int) < c.params))) || (decide (c.regs < 0))) || (decide ((3000 : Int) < c.regs))) || (decide ((c.blocks.length : Int) < 1))) || (decide ((1000 : Int) < (c.blocks.length : Int))))) rfl rfl rfl rfl (fun c4b => ?_) (fun c4b => ?_)
  · have c4 := c4b
    try simp only [BS] at c4
    refine wr 1 [] 2 2 [] [(2, (.bool false))] trivial (by kernel_rfl) rfl fun gg5 => ?_
    refine wk_ret ⟨.inr rfl, _, rfl, false, _, (Fz.le_refl _), (HS.forget hs2), rfl, (by exact val_lim (by omega))⟩
  · have c4 := c4b
    try simp only [BS] at c4
    have hlim : 0 ≤ c.params ∧ c.params ≤ 6 ∧ 0 ≤ c.regs ∧ c.regs ≤ 3000 ∧ 1 ≤ c.blocks.length ∧ c.blocks.length ≤ 1000 := by omega
    refine wr 2 [] 1 0 [3] [(3, (.int .i64 0))] trivial (by kernel_rfl) rfl fun gg6 => ?_
    refine wk_loop_inv (fun (mm : Nat) f H' => ∃ (k : Nat) (F' : Fz), Fz.le F F' ∧ HS (Base.of H []) F' H' [[(b1, .cells [(.int .i64 c.params), (.int .i64 c.regs), (.slice ac_2 c.blocks.length kc_2)] none false)]] R ∧ agrees f [(1, (.pointer (some ⟨b1, 0, none⟩))), (3, (.int .i64 (k : Int)))] ∧ mm = c.blocks.length - k ∧ (k ≤ c.blocks.length) ∧ (∀ j, j < k → blkV c.params c.regs (c.blocks.length : Int) (c.blocks.getD j default) = true)) _ ⟨0, _, (Fz.le_refl _), hs2, (agC rfl (agC rfl agN)), rfl, (by first | assumption | omega | (simp at *; omega)), (by exact upto_zero)⟩ ?_
    rintro mm7 f7 H7 ⟨k, F7, hF7, hs7, hf7, rfl, hk, ha⟩ ih7
    refine wk_canon _ hf7 (fun gg7 => ?_)
    clear hf7
    replace hT := hT.mono hF7
    replace hc_2 := hc_2.mono hF7
    have hvk := hv k
    refine wk_foc 2 rfl ?_
    refine wr 1 [(2, .o (.slice ac_2 c.blocks.length kc_2))] 36 40 [] [(40, (.bool (decide ((k : Int) < (c.blocks.length : Int)))))] (vA (ql 22 2 (HS.hc hs7 (i := 0) rfl) rfl rfl) trivial) (by kernel_rfl) rfl fun gg8 => ?_
    refine wk_if 4 5 (v := (decide ((k : Int) < (c.blocks.length : Int)))) rfl rfl rfl rfl (fun c9b => ?_) (fun c9b => ?_)
    · have c9 := c9b
      try simp only [BS] at c9
      refine wk_region ?_
      obtain ⟨cf10, hv10⟩ := Sv.view (SR.sv hc_2 hs7)
      obtain ⟨g11_1, g11_2, g11_3, g11_4, s11_0⟩ := BlkT.fx (hv10 k)
      refine wro 5 0 [(1, .o (.slice ac_2 c.blocks.length kc_2)), (4, .o (.agg ⟨[(.slice (cA (cf10 k) 0) ((c.blocks.getD k default).ins).length (cK (cf10 k) 0)), (.int .i64 ((c.blocks.getD k default).fin)), (.int .i64 ((c.blocks.getD k default).reg)), (.int .i64 ((c.blocks.getD k default).tgt)), (.int .i64 ((c.blocks.getD k default).els))]⟩))] 43 47 [] [(47, (.agg ⟨[(.slice (cA (cf10 k) 0) ((c.blocks.getD k default).ins).length (cK (cf10 k) 0)), (.int .i64 ((c.blocks.getD k default).fin)), (.int .i64 ((c.blocks.getD k default).reg)), (.int .i64 ((c.blocks.getD k default).tgt)), (.int .i64 ((c.blocks.getD k default).els))]⟩))] (vA (ql 22 2 (HS.hc hs7 (i := 0) rfl) rfl rfl) (vA (Sv.ix (j := (k : Int)) (SR.sv hc_2 hs7) (by omega) (by omega)) (vA (qn 42 0 5 (BlkT.vw (hv10 k) (by omega)) rfl rfl rfl rfl) trivial))) (by kernel_rfl) rfl fun gg12 => ?_
      refine wo_rs (rs_new hs7 rfl) rfl rfl ?_
      rintro _ H14 _ ⟨b13, rfl, hs14, _⟩
      have hs14 : HS _ _ _ [_, [(b13, .cells [(.slice none 0 0), (.int .i64 0), (.int .i64 0), (.int .i64 0), (.int .i64 0)] none false)]] _ := hs14
      refine wo_rk (rs_rec (q := 1) hs14 rfl rfl rfl rfl rfl rfl rfl rfl rfl) rfl ?_
      rintro _ H15 _ ⟨hs15, _⟩
      have hs15 : HS _ _ _ [_, [(b13, .cells [(.slice (cA (cf10 k) 0) ((c.blocks.getD k default).ins).length (cK (cf10 k) 0)), (.int .i64 ((c.blocks.getD k default).fin)), (.int .i64 ((c.blocks.getD k default).reg)), (.int .i64 ((c.blocks.getD k default).tgt)), (.int .i64 ((c.blocks.getD k default).els))] none false)]] _ := hs15
      refine wo_end 3 rfl ?_
      refine wk_region ?_
      refine wro 2 0 [(0, .o (.agg ⟨[(.slice (cA (cf10 k) 0) ((c.blocks.getD k default).ins).length (cK (cf10 k) 0)), (.int .i64 ((c.blocks.getD k default).fin)), (.int .i64 ((c.blocks.getD k default).reg)), (.int .i64 ((c.blocks.getD k default).tgt)), (.int .i64 ((c.blocks.getD k default).els))]⟩)), (1, .o (.agg ⟨[(.int .i64 c.params), (.int .i64 c.regs), (.slice ac_2 c.blocks.length kc_2)]⟩))] 48 49 [] [(48, (.agg ⟨[(.slice (cA (cf10 k) 0) ((c.blocks.getD k default).ins).length (cK (cf10 k) 0)), (.int .i64 ((c.blocks.getD k default).fin)), (.int .i64 ((c.blocks.getD k default).reg)), (.int .i64 ((c.blocks.getD k default).tgt)), (.int .i64 ((c.blocks.getD k default).els))]⟩)), (49, (.agg ⟨[(.int .i64 c.params), (.int .i64 c.regs), (.slice ac_2 c.blocks.length kc_2)]⟩))] (vA (qn 42 0 5 (HS.hc hs15 (i := 1) rfl) rfl rfl rfl rfl) (vA (qn 24 0 3 (HS.hc hs15 (i := 0) rfl) rfl rfl rfl rfl) trivial)) (by kernel_rfl) rfl fun gg16 => ?_
      refine wo_call (ap_call rfl rfl rfl) rfl rfl (rEnd_c ex (⟨(c.blocks.getD k default).ins, (c.blocks.getD k default).fin, (c.blocks.getD k default).reg, (c.blocks.getD k default).tgt, (c.blocks.getD k default).els⟩ : BlkT) (⟨c.params, c.regs, c.blocks⟩ : VFnT) (HS.call hs15) s11_0 (by omega) (by omega) (by omega) (by omega) (by omega) (by omega) hc_2 hT) ?_
      rintro _ H17 ⟨r17, F17, hF17, hs17, rfl, rfl⟩
      replace hs17 := HS.back hs15 rfl hs17
      have hs17 : HS _ _ _ [_, _] _ := hs17
      replace hT := hT.mono hF17
      replace hc_2 := hc_2.mono hF17
      replace s11_0 := s11_0.mono hF17
      refine wro 1 3 [] 51 51 [] [(51, (.bool (!(vendV ((⟨c.params, c.regs, c.blocks⟩ : VFnT).blocks.length : Int) (⟨c.params, c.regs, c.blocks⟩ : VFnT).regs (⟨(c.blocks.getD k default).ins, (c.blocks.getD k default).fin, (c.blocks.getD k default).reg, (c.blocks.getD k default).tgt, (c.blocks.getD k default).els⟩ : BlkT)))))] trivial (by kernel_rfl) rfl fun gg18 => ?_
      refine wo_end 1 rfl ?_
      refine wk_if 1 2 (v := (!(vendV ((⟨c.params, c.regs, c.blocks⟩ : VFnT).blocks.length : Int) (⟨c.params, c.regs, c.blocks⟩ : VFnT).regs (⟨(c.blocks.getD k default).ins, (c.blocks.getD k default).fin, (c.blocks.getD k default).reg, (c.blocks.getD k default).tgt, (c.blocks.getD k default).els⟩ : BlkT)))) rfl rfl rfl rfl (fun c19b => ?_) (fun c19b => ?_)
      · have c19 := c19b
        try simp only [BS] at c19
        have h2 := c19
        refine wr 1 [] 2 2 [] [(2, (.bool false))] trivial (by kernel_rfl) rfl fun gg20 => ?_
        refine wk_ret ⟨.inr rfl, _, rfl, false, _, (Fz.le_trans (hF7) hF17), (HS.forget hs17), rfl, (by exact val_no (all_not (by omega) (blk_end h2)))⟩
      · have c19 := c19b
        try simp only [BS] at c19
        have hend := c19
        refine wr 2 [] 1 0 [5] [(5, (.int .i64 0))] trivial (by kernel_rfl) rfl fun gg21 => ?_
        refine wk_loop_inv (fun (mm : Nat) f H' => ∃ (i : Nat) (F' : Fz), Fz.le F17 F' ∧ HS (Base.of H []) F' H' [[(b1, .cells [(.int .i64 c.params), (.int .i64 c.regs), (.slice ac_2 c.blocks.length kc_2)] none false)], [(b13, .cells [(.slice (cA (cf10 k) 0) ((c.blocks.getD k default).ins).length (cK (cf10 k) 0)), (.int .i64 ((c.blocks.getD k default).fin)), (.int .i64 ((c.blocks.getD k default).reg)), (.int .i64 ((c.blocks.getD k default).tgt)), (.int .i64 ((c.blocks.getD k default).els))] none false)]] R ∧ agrees f [(1, (.pointer (some ⟨b1, 0, none⟩))), (3, (.int .i64 (k : Int))), (4, (.pointer (some ⟨b13, 0, none⟩))), (5, (.int .i64 (i : Int))), (40, (.bool (decide ((k : Int) < (c.blocks.length : Int))))), (47, (.agg ⟨[(.slice (cA (cf10 k) 0) ((c.blocks.getD k default).ins).length (cK (cf10 k) 0)), (.int .i64 ((c.blocks.getD k default).fin)), (.int .i64 ((c.blocks.getD k default).reg)), (.int .i64 ((c.blocks.getD k default).tgt)), (.int .i64 ((c.blocks.getD k default).els))]⟩)), (48, (.agg ⟨[(.slice (cA (cf10 k) 0) ((c.blocks.getD k default).ins).length (cK (cf10 k) 0)), (.int .i64 ((c.blocks.getD k default).fin)), (.int .i64 ((c.blocks.getD k default).reg)), (.int .i64 ((c.blocks.getD k default).tgt)), (.int .i64 ((c.blocks.getD k default).els))]⟩)), (49, (.agg ⟨[(.int .i64 c.params), (.int .i64 c.regs), (.slice ac_2 c.blocks.length kc_2)]⟩)), (50, (.bool (vendV ((⟨c.params, c.regs, c.blocks⟩ : VFnT).blocks.length : Int) (⟨c.params, c.regs, c.blocks⟩ : VFnT).regs (⟨(c.blocks.getD k default).ins, (c.blocks.getD k default).fin, (c.blocks.getD k default).reg, (c.blocks.getD k default).tgt, (c.blocks.getD k default).els⟩ : BlkT)))), (51, (.bool (!(vendV ((⟨c.params, c.regs, c.blocks⟩ : VFnT).blocks.length : Int) (⟨c.params, c.regs, c.blocks⟩ : VFnT).regs (⟨(c.blocks.getD k default).ins, (c.blocks.getD k default).fin, (c.blocks.getD k default).reg, (c.blocks.getD k default).tgt, (c.blocks.getD k default).els⟩ : BlkT)))))] ∧ mm = (c.blocks.getD k default).ins.length - i ∧ (i ≤ (c.blocks.getD k default).ins.length) ∧ (∀ j, j < i → vinV c.params c.regs ((c.blocks.getD k default).ins.getD j default) = true)) _ ⟨0, _, (Fz.le_refl _), hs17, (agC rfl (agC rfl (agC rfl (agC rfl (agC rfl (agC rfl (agC rfl (agC rfl (agC rfl (agC rfl agN)))))))))), rfl, (by first | assumption | omega | (simp at *; omega)), (by exact upto_zero)⟩ ?_
        rintro mm22 f22 H22 ⟨i, F22, hF22, hs22, hf22, rfl, hi, hb⟩ ih22
        refine wk_canon _ hf22 (fun gg22 => ?_)
        clear hf22
        replace hT := hT.mono hF22
        replace hc_2 := hc_2.mono hF22
        replace s11_0 := s11_0.mono hF22
        refine wk_foc 2 rfl ?_
        refine wr 1 [(2, .o (.slice (cA (cf10 k) 0) ((c.blocks.getD k default).ins).length (cK (cf10 k) 0)))] 52 56 [] [(56, (.bool (decide ((i : Int) < (((c.blocks.getD k default).ins).length : Int)))))] (vA (ql 40 0 (HS.hc hs22 (i := 1) rfl) rfl rfl) trivial) (by kernel_rfl) rfl fun gg23 => ?_
        refine wk_if 4 5 (v := (decide ((i : Int) < (((c.blocks.getD k default).ins).length : Int)))) rfl rfl rfl rfl (fun c24b => ?_) (fun c24b => ?_)
        · have c24 := c24b
          try simp only [BS] at c24
          refine wf_region rfl ?_
          refine wf_pure (v := (.pointer (some ⟨b13, 0, none⟩))) (id := .v) (ap_fa rfl rfl) rfl rfl (did_v rfl) (okD_v _) ?_
          refine wf_pure (v := (.slice (cA (cf10 k) 0) ((c.blocks.getD k default).ins).length (cK (cf10 k) 0))) (id := .l b13) (ap_ld1 (i := 0) rfl rfl (HS.hc hs22.log0 (i := 1) rfl) rfl rfl) rfl rfl (did_l rfl) (⟨.inl rfl, trivial⟩) ?_
          refine fm (.int .i64 (i : Int)) rfl rfl rfl ?_
          refine wf_pure (v := (.pointer (some ⟨sB (.slice (cA (cf10 k) 0) ((c.blocks.getD k default).ins).length (cK (cf10 k) 0)), sO (.slice (cA (cf10 k) 0) ((c.blocks.getD k default).ins).length (cK (cf10 k) 0)) + i * Rp.sz VInT, none⟩))) (id := .v) (ap_idxV (α := VInT) (j := (i : Int)) rfl rfl rfl rfl (SR.sv s11_0 hs22.log0) (by omega) (by omega)) rfl rfl (did_v rfl) (okD_v _) ?_
          obtain ⟨cs25, hr25, hc25⟩ := Sv.at (SR.sv s11_0 hs22.log0) (getD_at (x := default) (show i < ((c.blocks.getD k default).ins).length from by omega))
          obtain ⟨a26_5, k26_5, rfl, g26_0, g26_1, g26_2, g26_3, g26_4, s26_5⟩ := hr25
          refine wf_pure (v := (.agg ⟨[(.int .i64 ((((c.blocks.getD k default).ins).getD i default).i.op)), (.int .i64 ((((c.blocks.getD k default).ins).getD i default).i.a)), (.int .i64 ((((c.blocks.getD k default).ins).getD i default).i.b)), (.int .i64 ((((c.blocks.getD k default).ins).getD i default).i.c)), (.int .i64 ((((c.blocks.getD k default).ins).getD i default).i.n)), (.slice a26_5 ((((c.blocks.getD k default).ins).getD i default).args).length k26_5)]⟩)) (id := .l (sB (.slice (cA (cf10 k) 0) ((c.blocks.getD k default).ins).length (cK (cf10 k) 0)))) (ap_ldN (i := 0) rfl rfl rfl hc25 rfl rfl rfl) rfl rfl (did_l rfl) (⟨.inl rfl, ⟨.inl rfl, ⟨.inl rfl, ⟨.inl rfl, trivial⟩⟩⟩⟩) ?_
          refine wf_pure (v := (.agg ⟨[(.int .i64 c.params), (.int .i64 c.regs), (.slice ac_2 c.blocks.length kc_2)]⟩)) (id := .l b1) (ap_ldN (i := 0) rfl rfl rfl (HS.hc hs22.log0 (i := 0) rfl) rfl rfl rfl) rfl rfl (did_l rfl) (⟨.inr trivial, ⟨.inr trivial, ⟨.inr trivial, ⟨.inr trivial, ⟨.inr trivial, trivial⟩⟩⟩⟩⟩) ?_
          refine wf_call (W := []) (ap_call rfl rfl rfl) rfl rfl rfl (rinstr_c ex (((c.blocks.getD k default).ins).getD i default) (⟨c.params, c.regs, c.blocks⟩ : VFnT) (HS.call hs22.log0) (by omega) (by omega) (by omega) (by omega) (by omega) s26_5 (by omega) (by omega) hc_2 hT) (⟨.inl rfl, ⟨.inl rfl, ⟨.inl rfl, ⟨.inl rfl, ⟨.inl rfl, ⟨.inl rfl, trivial⟩⟩⟩⟩⟩⟩) ?_
          rintro _ H27 ⟨r27, F27, hF27, hs27, rfl, rfl⟩
          refine ⟨Wr.did hs27.log, fun lg27 hlg27 => ?_⟩
          replace hs27 := HS.back hs22.log0 rfl hs27
          replace hs27 := HS.lg hs27 hs22 hlg27
          generalize ({ H27 with log := lg27 } : Heap) = H27g at hs27 ⊢
          have hs27 : HS _ _ _ [_, _] _ := hs27
          replace hT := hT.mono hF27
          replace hc_2 := hc_2.mono hF27
          replace s11_0 := s11_0.mono hF27
          replace s26_5 := s26_5.mono hF27
          refine wf_pure (v := (.bool (!(vinV (⟨c.params, c.regs, c.blocks⟩ : VFnT).params (⟨c.params, c.regs, c.blocks⟩ : VFnT).regs (((c.blocks.getD k default).ins).getD i default))))) (id := .v) (ap_not rfl) rfl rfl (did_v rfl) (okD_v _) ?_
          refine wf_nil ?_
          refine wk_foc 1 rfl ?_
          refine wk_if 1 2 (v := (!(vinV (⟨c.params, c.regs, c.blocks⟩ : VFnT).params (⟨c.params, c.regs, c.blocks⟩ : VFnT).regs (((c.blocks.getD k default).ins).getD i default)))) rfl rfl rfl rfl (fun c28b => ?_) (fun c28b => ?_)
          · have c28 := c28b
            try simp only [BS] at c28
            have h4 := c28
            refine wr 1 [] 2 2 [] [(2, (.bool false))] trivial (by kernel_rfl) rfl fun gg29 => ?_
            refine wk_ret ⟨.inr rfl, _, rfl, false, _, (Fz.le_trans (Fz.le_trans (Fz.le_trans (hF7) hF17) hF22) hF27), (HS.forget hs27), rfl, (by exact val_no (all_not (by omega) (blk_no (all_not (by omega) h4))))⟩
          · have c28 := c28b
            try simp only [BS] at c28
            refine wr 1 [] 57 58 [5] [(5, (.int .i64 ((i : Int) + 1)))] (vA (vi (n := (i : Int) + 1) (by omega)) trivial) (by kernel_rfl) rfl fun gg30 => ?_
            refine ih22 _ _ _ ?_ ⟨i + 1, _, (Fz.le_trans (hF22) hF27), hs27, (agC rfl (agC rfl (agC rfl (agC rfl (agC rfl (agC rfl (agC rfl (agC rfl (agC rfl (agC rfl agN)))))))))), rfl, (by first | assumption | omega | (simp at *; omega)), (by exact upto_succ hb (by assumption))⟩
            omega
        · have c24 := c24b
          try simp only [BS] at c24
          have hal := upto_all hb (by omega)
          refine wr 1 [] 41 42 [3] [(3, (.int .i64 ((k : Int) + 1)))] (vA (vi (n := (k : Int) + 1) (by omega)) trivial) (by kernel_rfl) rfl fun gg31 => ?_
          refine ih7 _ _ _ ?_ ⟨k + 1, _, (Fz.le_trans (Fz.le_trans (hF7) hF17) hF22), (HS.sub hs22 (List.sublist_append_left _ _)), (agC rfl (agC rfl agN)), rfl, (by first | assumption | omega | (simp at *; omega)), (by exact upto_succ ha (blk_yes hal hend))⟩
          omega
    · have c9 := c9b
      try simp only [BS] at c9
      refine wr 1 [] 2 2 [] [(2, (.bool true))] trivial (by kernel_rfl) rfl fun gg32 => ?_
      refine wk_ret ⟨.inr rfl, _, rfl, true, _, (hF7), (HS.forget hs7), rfl, (by exact val_yes hlim (upto_all ha (by omega)))⟩
end Go.Proofs.YtlabedbmgmfbaaaDoor.m3
