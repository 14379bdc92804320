/-
  Which virtual code is valid: the program and the reference, each by a symbolic run. No condition but that the table lies as laid.
-/
import Derived.Test.YtlabedbmgmfbaaaDoorZM2
noncomputable section
namespace Go.Proofs.YtlabedbmgmfbaaaDoor.m3
open Go.R
set_option maxRecDepth 10000
set_option linter.unusedVariables false
theorem ql {H : Heap} {b o : Nat} {cs : List Value} {w : Value} (t : TypeId) (i : Nat) (hc : HC H.get b o cs) (ha : aggOf Tryd.prog t = some false) (hv : cs[i]? = some w) : LDv Tryd.prog H t (.pointer (some ⟨b, o + i, none⟩)) w := ld1 hc ha hv
theorem qn {H : Heap} {b o : Nat} {cs l : List Value} (t : TypeId) (i n : Nat) (hc : HC H.get b o cs) (ha : aggOf Tryd.prog t = some true) (hs : szOf Tryd.prog t = some n) (hn : Nat.ble (i + n) cs.length = true) (hl : takeL (dropL cs i) n = l) : LDv Tryd.prog H t (.pointer (some ⟨b, o + i, none⟩)) (.agg ⟨l⟩) := ldN hc ha hs hn hl
open m1 m2

theorem vform_c (ex : FuncId) (op : Int) {F : Fz} {H : Heap} {R : List Fp} (hs : HS (.of H []) F H [] R) (hop : in64 op) (hT : TB 37 tabC F) : C Tryd.prog 1 (KT 60 ex 37 tabC) 83 [(.int .i64 op)] H fun v H' => ∃ (r : Int) (F' : Fz), Fz.le F F' ∧ HS (.of H []) F' H' [] R ∧ v = .int .i64 r ∧ r = vformV op := by
  refine c_enter Tryd.func83 rfl rfl ?_
  refine wk_foc 1 rfl ?_
  refine wr 3 [] 2 2 [] [(2, (.int .i64 0))] trivial (by kernel_rfl) rfl fun gg1 => ?_
  refine wr 1 [] 5 6 [] [(6, (.bool (op == 38)))] trivial (by kernel_rfl) rfl fun gg2 => ?_
  refine wk_if 1 2 (v := (op == 38)) rfl rfl rfl rfl (fun c3b => ?_) (fun c3b => ?_)
  · have c3 := c3b
    try simp only [BS] at c3
    refine wr 1 [] 2 2 [] [(2, (.int .i64 5))] trivial (by kernel_rfl) rfl fun gg4 => ?_
    refine wk_ret ⟨.inr rfl, _, rfl, 5, _, (Fz.le_refl _), (HS.forget hs), rfl, (by unfold vformV; split <;> first | rfl | omega)⟩
  · have c3 := c3b
    try simp only [BS] at c3
    refine wk_region ?_
    refine wm (.int .i64 op) rfl rfl rfl ?_
    refine wo_call (ap_call rfl rfl rfl) rfl rfl (m1.mInfo_c ex op (HS.call hs) (by omega) hT) ?_
    rintro _ H5 ⟨x5, o5, F5, hF5, hs5, rfl, hgx5_1, hgx5_6, rfl, rfl⟩
    replace hs5 := HS.back hs rfl hs5
    have hs5 : HS _ _ _ [] _ := hs5
    replace hT := hT.mono hF5
    refine wro 3 2 [] 10 11 [7] [(10, (.agg ⟨[(.string ⟨⟨(infV op).name.b⟩⟩), (.int .i64 ((infV op).form)), (.bool ((infV op).ra)), (.bool ((infV op).wa)), (.bool ((infV op).rb)), (.bool ((infV op).mt)), (.int .i64 ((infV op).words))]⟩)), (11, (.bool (infO op)))] trivial (by kernel_rfl) rfl fun gg6 => ?_
    refine wo_rs (rs_new hs5 rfl) rfl rfl ?_
    rintro _ H8 _ ⟨b7, rfl, hs8, _⟩
    have hs8 : HS _ _ _ [[(b7, .cells [(.string ⟨⟨[]⟩⟩), (.int .i64 0), (.bool false), (.bool false), (.bool false), (.bool false), (.int .i64 0)] none false)]] _ := hs8
    refine wo_rk (rs_rec (q := 0) hs8 rfl rfl rfl rfl rfl rfl rfl rfl rfl) rfl ?_
    rintro _ H9 _ ⟨hs9, _⟩
    have hs9 : HS _ _ _ [[(b7, .cells [(.string ⟨⟨(infV op).name.b⟩⟩), (.int .i64 ((infV op).form)), (.bool ((infV op).ra)), (.bool ((infV op).wa)), (.bool ((infV op).rb)), (.bool ((infV op).mt)), (.int .i64 ((infV op).words))] none false)]] _ := hs9
    refine wa (.bool (infO op)) rfl rfl rfl ?_
    refine wo_end 2 rfl ?_
    refine wr 1 [(1, .o (.int .i64 ((infV op).form)))] 12 13 [2] [(2, (.int .i64 ((infV op).form)))] (vA (ql 3 1 (HS.hc hs9 (i := 0) rfl) rfl rfl) trivial) (by kernel_rfl) rfl fun gg10 => ?_
    refine wk_ret ⟨.inr rfl, _, rfl, (infV op).form, _, (hF5), (HS.forget hs9), rfl, (by unfold vformV; split <;> first | rfl | omega)⟩

theorem rinfo_c (ex : FuncId) (op : Int) {F : Fz} {H : Heap} {R : List Fp} (hs : HS (.of H []) F H [] R) (hop : in64 op) (hT : TB 37 tabC F) : C Tryd.prog 1 (KT 60 ex 37 tabC) 65 [(.int .i64 op)] H fun v H' => ∃ (x : InfT) (F' : Fz), Fz.le F F' ∧ HS (.of H []) F' H' [] R ∧ v = .agg ⟨[.string ⟨⟨x.name.b⟩⟩, .int .i64 x.form, .bool x.ra, .bool x.wa, .bool x.rb, .bool x.mt, .int .i64 x.words]⟩ ∧ in64 x.form ∧ in64 x.words ∧ x = vinfV op := by
  refine c_enter Tryd.func65 rfl rfl ?_
  refine wk_foc 1 rfl ?_
  refine wk_region ?_
  refine wo_rs (rs_new hs rfl) rfl rfl ?_
  rintro _ H2 _ ⟨b1, rfl, hs2, _⟩
  have hs2 : HS _ _ _ [[(b1, .cells [(.string ⟨⟨[]⟩⟩), (.int .i64 0), (.bool false), (.bool false), (.bool false), (.bool false), (.int .i64 0)] none false)]] _ := hs2
  refine wo_end 3 rfl ?_
  refine wr 1 [] 5 6 [] [(6, (.bool (op == 38)))] trivial (by kernel_rfl) rfl fun gg3 => ?_
  refine wk_if 1 2 (v := (op == 38)) rfl rfl rfl rfl (fun c4b => ?_) (fun c4b => ?_)
  · have c4 := c4b
    try simp only [BS] at c4
    refine wk_region ?_
    refine wro 1 0 [] 7 7 [] [(7, (.agg ⟨[(.string ⟨⟨[]⟩⟩), (.int .i64 5), (.bool false), (.bool true), (.bool false), (.bool false), (.int .i64 0)]⟩))] trivial (by kernel_rfl) rfl fun gg5 => ?_
    refine wo_rk (rs_rec (q := 0) hs2 rfl rfl rfl rfl rfl rfl rfl rfl rfl) rfl ?_
    rintro _ H6 _ ⟨hs6, _⟩
    have hs6 : HS _ _ _ [[(b1, .cells [(.string ⟨⟨[]⟩⟩), (.int .i64 5), (.bool false), (.bool true), (.bool false), (.bool false), (.int .i64 0)] none false)]] _ := hs6
    refine wo_end 1 rfl ?_
    refine wk_ret ⟨.inr rfl, _, (rC rfl (ldVN rfl rfl (HS.hc hs6 (i := 0) rfl) rfl) rN), (⟨⟨[]⟩, 5, false, true, false, false, 0⟩ : InfT), _, (Fz.le_refl _), (HS.forget hs6), rfl, (by first | omega | (dsimp only; omega)), (by first | omega | (dsimp only; omega)), (by unfold vinfV; split <;> first | rfl | omega)⟩
  · have c4 := c4b
    try simp only [BS] at c4
    refine wk_region ?_
    refine wm (.int .i64 op) rfl rfl rfl ?_
    refine wo_call (ap_call rfl rfl rfl) rfl rfl (m1.rInfo_c ex op (HS.call hs2) (by first | omega | (dsimp only; omega)) hT) ?_
    rintro _ H7 ⟨x7, o7, F7, hF7, hs7, rfl, hgx7_1, hgx7_6, rfl, rfl⟩
    replace hs7 := HS.back hs2 rfl hs7
    have hs7 : HS _ _ _ [_] _ := hs7
    replace hT := hT.mono hF7
    refine wro 3 2 [] 11 12 [8] [(11, (.agg ⟨[(.string ⟨⟨(infV op).name.b⟩⟩), (.int .i64 ((infV op).form)), (.bool ((infV op).ra)), (.bool ((infV op).wa)), (.bool ((infV op).rb)), (.bool ((infV op).mt)), (.int .i64 ((infV op).words))]⟩)), (12, (.bool (infO op)))] trivial (by kernel_rfl) rfl fun gg8 => ?_
    refine wo_rs (rs_new hs7 rfl) rfl rfl ?_
    rintro _ H10 _ ⟨b9, rfl, hs10, _⟩
    have hs10 : HS _ _ _ [_, [(b9, .cells [(.string ⟨⟨[]⟩⟩), (.int .i64 0), (.bool false), (.bool false), (.bool false), (.bool false), (.int .i64 0)] none false)]] _ := hs10
    refine wo_rk (rs_rec (q := 1) hs10 rfl rfl rfl rfl rfl rfl rfl rfl rfl) rfl ?_
    rintro _ H11 _ ⟨hs11, _⟩
    have hs11 : HS _ _ _ [_, [(b9, .cells [(.string ⟨⟨(infV op).name.b⟩⟩), (.int .i64 ((infV op).form)), (.bool ((infV op).ra)), (.bool ((infV op).wa)), (.bool ((infV op).rb)), (.bool ((infV op).mt)), (.int .i64 ((infV op).words))] none false)]] _ := hs11
    refine wa (.bool (infO op)) rfl rfl rfl ?_
    refine wo_end 2 rfl ?_
    refine wk_region ?_
    refine wro 1 0 [(0, .o (.agg ⟨[(.string ⟨⟨(infV op).name.b⟩⟩), (.int .i64 ((infV op).form)), (.bool ((infV op).ra)), (.bool ((infV op).wa)), (.bool ((infV op).rb)), (.bool ((infV op).mt)), (.int .i64 ((infV op).words))]⟩))] 13 13 [] [(13, (.agg ⟨[(.string ⟨⟨(infV op).name.b⟩⟩), (.int .i64 ((infV op).form)), (.bool ((infV op).ra)), (.bool ((infV op).wa)), (.bool ((infV op).rb)), (.bool ((infV op).mt)), (.int .i64 ((infV op).words))]⟩))] (vA (qn 96 0 7 (HS.hc hs11 (i := 1) rfl) rfl rfl rfl rfl) trivial) (by kernel_rfl) rfl fun gg12 => ?_
    refine wo_rk (rs_rec (q := 0) hs11 rfl rfl rfl rfl rfl rfl rfl rfl rfl) rfl ?_
    rintro _ H13 _ ⟨hs13, _⟩
    have hs13 : HS _ _ _ [[(b1, .cells [(.string ⟨⟨(infV op).name.b⟩⟩), (.int .i64 ((infV op).form)), (.bool ((infV op).ra)), (.bool ((infV op).wa)), (.bool ((infV op).rb)), (.bool ((infV op).mt)), (.int .i64 ((infV op).words))] none false)], _] _ := hs13
    refine wo_end 1 rfl ?_
    refine wk_ret ⟨.inr rfl, _, (rC rfl (ldVN rfl rfl (HS.hc hs13 (i := 0) rfl) rfl) rN), (⟨⟨(infV op).name.b⟩, (infV op).form, (infV op).ra, (infV op).wa, (infV op).rb, (infV op).mt, (infV op).words⟩ : InfT), _, (hF7), (HS.forget hs13), rfl, (by first | omega | (dsimp only; omega)), (by first | omega | (dsimp only; omega)), (by unfold vinfV; split <;> first | rfl | omega)⟩

end Go.Proofs.YtlabedbmgmfbaaaDoor.m3
