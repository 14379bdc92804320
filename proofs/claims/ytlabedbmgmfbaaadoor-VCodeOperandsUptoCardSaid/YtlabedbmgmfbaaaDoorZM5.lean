/-
  The generator of virtual code, whole, by a symbolic run: what it makes is valid. No condition but that the table lies as laid.
-/
import Derived.Test.YtlabedbmgmfbaaaDoorZM4
noncomputable section
namespace Go.Proofs.YtlabedbmgmfbaaaDoor.m5
open Go.R
set_option maxRecDepth 10000
set_option linter.unusedVariables false
theorem ql {H : Heap} {b o : Nat} {cs : List Value} {w : Value} (t : TypeId) (i : Nat) (hc : HC H.get b o cs) (ha : aggOf Tryd.prog t = some false) (hv : cs[i]? = some w) : LDv Tryd.prog H t (.pointer (some ⟨b, o + i, none⟩)) w := ld1 hc ha hv
theorem qn {H : Heap} {b o : Nat} {cs l : List Value} (t : TypeId) (i n : Nat) (hc : HC H.get b o cs) (ha : aggOf Tryd.prog t = some true) (hs : szOf Tryd.prog t = some n) (hn : Nat.ble (i + n) cs.length = true) (hl : takeL (dropL cs i) n = l) : LDv Tryd.prog H t (.pointer (some ⟨b, o + i, none⟩)) (.agg ⟨l⟩) := ldN hc ha hs hn hl
open m1 m2 m3 m4
theorem vin_ldi {params regs r op : Int} (hr : 0 ≤ r ∧ r < regs) (ho : op = 13 ∨ op = 38 ∧ r < params) : vinV params regs ⟨⟨op, r, 0, 0, r⟩, []⟩ = true := by
  rcases ho with rfl | ⟨rfl, hp⟩
  · exact vin_mk (by decide) (.inr rfl) (by simp) rfl (opOK_t (by decide) hr) (opOK_f (by decide) rfl) (opOK_f (by decide) rfl) rfl
  · exact vin_mk (by decide) (.inr rfl) (by simp) rfl (opOK_t (by decide) hr) (opOK_f (by decide) rfl) (opOK_f (by decide) rfl) (decide_eq_true ⟨hr.1, hp⟩)
theorem all_snoc {α : Type} {p : α → Bool} {l : List α} {x : α} (h : l.all p = true) (hx : p x = true) : (l ++ [x]).all p = true := by rw [List.all_append, h]; simp [hx]
theorem blk_mk {params regs nb e g t f : Int} {l : List VInT} (h : l.all (vinV params regs) = true) (h2 : e = 1 ∧ 0 ≤ t ∧ t < nb ∧ f = 0 ∧ g = 0 ∨ e = 2 ∧ 0 ≤ t ∧ t < nb ∧ 0 ≤ f ∧ f < nb ∧ 0 ≤ g ∧ g < regs ∨ e = 3 ∧ 0 ≤ g ∧ g < regs ∧ t = 0 ∧ f = 0 ∨ e = 4 ∧ 1 ≤ t ∧ t < 33554432 ∧ f = 0 ∧ g = 0) : blkV params regs nb ⟨l, e, g, t, f⟩ = true := blk_yes h (vend_iff.2 h2)
theorem ins_snoc {l : List BlkT} {x : BlkT} (h : ∀ y ∈ l, y.ins.length ≤ 11) (hx : x.ins.length ≤ 11) : ∀ y ∈ l ++ [x], y.ins.length ≤ 11 := fun y hy => by
  rcases List.mem_append.1 hy with hy | hy
  · exact h y hy
  · rw [List.mem_singleton] at hy; rw [hy]; exact hx
theorem ins_at {l : List BlkT} (h : ∀ y ∈ l, y.ins.length ≤ 11) (j : Nat) : (l.getD j default).ins.length ≤ 11 := by
  rw [List.getD_eq_getElem?_getD]
  rcases hj : l[j]? with _ | y
  · exact Nat.zero_le _
  · exact h y (List.mem_of_getElem? hj)
def fstOK (fi : List VInT) : Prop := ∀ q : Nat, q < fi.length → (fi.getD q default).i.a = q ∧ ((fi.getD q default).i.op = 13 ∨ (fi.getD q default).i.op = 38)
theorem fst_snoc {fi : List VInT} {x : VInT} (h : fstOK fi) (hx : x.i.a = (fi.length : Int) ∧ (x.i.op = 13 ∨ x.i.op = 38)) : fstOK (fi ++ [x]) := fun q hq => by
  rw [List.length_append] at hq
  simp only [List.length_cons, List.length_nil] at hq
  rcases Nat.lt_or_ge q fi.length with h1 | h1
  · rw [List.getD_eq_getElem?_getD, List.getElem?_append_left h1, ← List.getD_eq_getElem?_getD]; exact h q h1
  · have : q = fi.length := by omega
    subst this
    rw [List.getD_eq_getElem?_getD, List.getElem?_append_right (Nat.le_refl _), Nat.sub_self]; exact hx
theorem first_snoc {l : List BlkT} {x y : BlkT} (h : l.getD 0 default = x) (hl : 0 < l.length) : (l ++ [y]).getD 0 default = x := by
  rw [List.getD_eq_getElem?_getD, List.getElem?_append_left hl, ← List.getD_eq_getElem?_getD]; exact h
theorem ck_ldi {v : VInT} (ho : v.i.op = 13 ∨ v.i.op = 38) : ckI v = true := decide_eq_true ⟨fun h => by omega, fun h => by omega⟩
/-- What the generator makes. -/
structure vfG (x : VFnT) (params : Int) : Prop where
  val : valV x = true
  par : x.params = params
  reg : x.regs = 9 + params
  nb : 2 ≤ x.blocks.length ∧ x.blocks.length ≤ 7
  ins : ∀ j, (x.blocks.getD j default).ins.length ≤ 11
  ck : x.blocks.all (fun y => y.ins.all ckI) = true
  fst : ∃ fi, x.blocks.getD 0 default = ⟨fi, 1, 0, 1, 0⟩ ∧ (fi.length : Int) = x.regs ∧ fstOK fi
theorem val_mk {p r : Int} {l : List BlkT} {n : Int} (h : 0 ≤ p ∧ p ≤ 6 ∧ 0 ≤ r ∧ r ≤ 3000 ∧ 1 ≤ l.length ∧ l.length ≤ 1000) (hn : (l.length : Int) = n) (h2 : l.all (blkV p r n) = true) : valV ⟨p, r, l⟩ = true := by subst hn; exact (val_yes (c := ⟨p, r, l⟩) h h2).symm

set_option maxHeartbeats 2000000 in
theorem vf_c (ex : FuncId) {a_l : Option Addr} {k_l : Nat} (l : List Int) (params : Int) {F : Fz} {H : Heap} {R : List Fp} (hs : HS (.of H []) F H [] R) (hl : SR F (.slice a_l l.length k_l) l) (hT : TB 37 tabC F) (hp : 0 ≤ params ∧ params ≤ 2) (hbl : l.length ≤ 1000) : C Tryd.prog 1 (KT 60 ex 37 tabC) 16 [(.slice a_l l.length k_l), (.int .i64 params)] H fun v H' => ∃ (x : VFnT) (ax_2 : Option Addr) (kx_2 : Nat) (F' : Fz), Fz.le F F' ∧ HS (.of H []) F' H' [] R ∧ v = .agg ⟨[.int .i64 x.params, .int .i64 x.regs, .slice ax_2 x.blocks.length kx_2]⟩ ∧ in64 x.params ∧ in64 x.regs ∧ SR F' (.slice ax_2 x.blocks.length kx_2) x.blocks ∧ (vfG x params) := by
  refine c_enter Tryd.func16 rfl rfl ?_
  refine wk_foc 1 rfl ?_
  refine wk_region ?_
  refine wo_rs (rs_new hs rfl) rfl rfl ?_
  rintro _ H2 _ ⟨b1, rfl, hs2, _⟩
  have hs2 : HS _ _ _ [[(b1, .cells [(.int .i64 0), (.int .i64 0), (.slice none 0 0)] none false)]] _ := hs2
  refine wo_end 2 rfl ?_
  refine wk_region ?_
  refine wro 2 0 [] 16 17 [] [(17, (.agg ⟨[(.int .i64 params), (.int .i64 9), (.slice none 0 0)]⟩))] trivial (by kernel_rfl) rfl fun gg3 => ?_
  refine wo_rs (rs_new hs2 rfl) rfl rfl ?_
  rintro _ H5 _ ⟨b4, rfl, hs5, _⟩
  have hs5 : HS _ _ _ [_, [(b4, .cells [(.int .i64 0), (.int .i64 0), (.slice none 0 0)] none false)]] _ := hs5
  refine wo_rk (rs_rec (q := 1) hs5 rfl rfl rfl rfl rfl rfl rfl rfl rfl) rfl ?_
  rintro _ H6 _ ⟨hs6, _⟩
  have hs6 : HS _ _ _ [_, [(b4, .cells [(.int .i64 params), (.int .i64 9), (.slice none 0 0)] none false)]] _ := hs6
  refine wo_end 2 rfl ?_
  refine wr 3 [] 18 22 [6] [(6, (.int .i64 (1 + (if (5 : Int) < ((l.length / 6 : Nat) : Int) then (5 : Int) else ((l.length / 6 : Nat) : Int)))))] (vA (vA (show (6 : Int) ≠ 0 from by decide) (vi (n := ((l.length / 6 : Nat) : Int)) (by first | omega | (dsimp only; omega)))) (vA (vi (n := 1 + (if (5 : Int) < ((l.length / 6 : Nat) : Int) then (5 : Int) else ((l.length / 6 : Nat) : Int))) (by first | omega | (dsimp only; omega))) trivial)) (by kernel_rfl) rfl fun gg7 => ?_
  have hM : 1 ≤ (1 + (if (5 : Int) < ((l.length / 6 : Nat) : Int) then (5 : Int) else ((l.length / 6 : Nat) : Int))) ∧ (1 + (if (5 : Int) < ((l.length / 6 : Nat) : Int) then (5 : Int) else ((l.length / 6 : Nat) : Int))) ≤ 6 := by omega
  refine wr 2 [] 1 0 [7] [(7, (.int .i64 0))] trivial (by kernel_rfl) rfl fun gg8 => ?_
  refine wk_loop_inv (fun (mm : Nat) f H' => ∃ (i : Nat) (F' : Fz), Fz.le F F' ∧ HS (Base.of H []) F' H' [[(b1, .cells [(.int .i64 0), (.int .i64 0), (.slice none 0 0)] none false)], [(b4, .cells [(.int .i64 params), (.int .i64 (9 + (i : Int))), (.slice none 0 0)] none false)]] R ∧ agrees f [(0, (.slice a_l l.length k_l)), (1, (.int .i64 params)), (4, (.pointer (some ⟨b1, 0, none⟩))), (5, (.pointer (some ⟨b4, 0, none⟩))), (6, (.int .i64 (1 + (if (5 : Int) < ((l.length / 6 : Nat) : Int) then (5 : Int) else ((l.length / 6 : Nat) : Int))))), (7, (.int .i64 (i : Int)))] ∧ mm = (params - (i : Int)).toNat ∧ ((i : Int) ≤ params)) _ ⟨0, _, (Fz.le_refl _), hs6, (agC rfl (agC rfl (agC rfl (agC rfl (agC rfl (agC rfl agN)))))), rfl, (by first | assumption | omega | (simp at *; omega))⟩ ?_
  rintro mm9 f9 H9 ⟨i, F9, hF9, hs9, hf9, rfl, q1⟩ ih9
  refine wk_canon _ hf9 (fun gg9 => ?_)
  clear hf9
  replace hT := hT.mono hF9
  replace hl := hl.mono hF9
  refine wk_foc 2 rfl ?_
  refine wr 1 [] 23 25 [] [(25, (.bool (decide ((i : Int) < params))))] trivial (by kernel_rfl) rfl fun gg10 => ?_
  refine wk_if 3 5 (v := (decide ((i : Int) < params))) rfl rfl rfl rfl (fun c11b => ?_) (fun c11b => ?_)
  · have c11 := c11b
    try simp only [BS] at c11
    refine wk_region ?_
    refine wro 4 0 [(1, .o (.int .i64 (9 + (i : Int))))] 28 31 [] [(30, (.int .i64 ((9 + (i : Int)) + 1))), (31, (.pointer (some ⟨b4, 1, none⟩)))] (vA (ql 3 1 (HS.hc hs9 (i := 1) rfl) rfl rfl) (vA (vi (n := (9 + (i : Int)) + 1) (by first | omega | (dsimp only; omega))) trivial)) (by kernel_rfl) rfl fun gg12 => ?_
    refine wo_rk (rs_rec (q := 1) hs9 rfl rfl rfl rfl rfl rfl rfl rfl rfl) rfl ?_
    rintro _ H13 _ ⟨hs13, _⟩
    have hs13 : HS _ _ _ [_, [(b4, .cells [(.int .i64 params), (.int .i64 ((9 + (i : Int)) + 1)), (.slice none 0 0)] none false)]] _ := hs13
    refine wo_end 2 rfl ?_
    refine wr 1 [] 26 27 [7] [(7, (.int .i64 ((i : Int) + 1)))] (vA (vi (n := (i : Int) + 1) (by first | omega | (dsimp only; omega))) trivial) (by kernel_rfl) rfl fun gg14 => ?_
    refine ih9 _ _ _ ?_ ⟨i + 1, _, (hF9), hs13, (agC rfl (agC rfl (agC rfl (agC rfl (agC rfl (agC rfl agN)))))), rfl, (by first | assumption | omega | (simp at *; omega))⟩
    omega
  · have c11 := c11b
    try simp only [BS] at c11
    refine wk_region ?_
    refine wo_rs (rs_new hs9 rfl) rfl rfl ?_
    rintro _ H16 _ ⟨b15, rfl, hs16, _⟩
    have hs16 : HS _ _ _ [_, [(b4, .cells [(.int .i64 params), (.int .i64 (9 + (i : Int))), (.slice none 0 0)] none false)], [(b15, .cells [(.slice none 0 0), (.int .i64 0), (.int .i64 0), (.int .i64 0), (.int .i64 0)] none false)]] _ := hs16
    refine wo_end 3 rfl ?_
    refine wr 2 [] 1 0 [9] [(9, (.int .i64 0))] trivial (by kernel_rfl) rfl fun gg17 => ?_
    have hs19 := HS.snoc hs16
    have hs19 : HS _ _ _ [_, _, _, []] _ := hs19
    refine wk_loop_inv (fun (mm : Nat) f H' => ∃ (fi : List VInT) (r : Nat) (lrp18_2_0 : Fp) (lra18_2_0 : Option Addr) (lrk18_2_0 : Nat) (F' : Fz), Fz.le F9 F' ∧ HS (Base.of H []) F' H' [[(b1, .cells [(.int .i64 0), (.int .i64 0), (.slice none 0 0)] none false)], [(b4, .cells [(.int .i64 params), (.int .i64 (9 + (i : Int))), (.slice none 0 0)] none false)], [(b15, .cells [(.slice lra18_2_0 fi.length lrk18_2_0), (.int .i64 0), (.int .i64 0), (.int .i64 0), (.int .i64 0)] none false)], lrp18_2_0] R ∧ OS F' (.slice lra18_2_0 fi.length lrk18_2_0) fi lrp18_2_0 ∧ agrees f [(0, (.slice a_l l.length k_l)), (1, (.int .i64 params)), (4, (.pointer (some ⟨b1, 0, none⟩))), (5, (.pointer (some ⟨b4, 0, none⟩))), (6, (.int .i64 (1 + (if (5 : Int) < ((l.length / 6 : Nat) : Int) then (5 : Int) else ((l.length / 6 : Nat) : Int))))), (8, (.pointer (some ⟨b15, 0, none⟩))), (9, (.int .i64 (r : Int)))] ∧ mm = (9 + (i : Int) - (r : Int)).toNat ∧ (fi.length = r) ∧ (fi.all (vinV params (9 + (i : Int))) = true) ∧ (fi.all ckI = true) ∧ (fstOK fi) ∧ ((r : Int) ≤ 9 + (i : Int))) _ ⟨([] : List VInT), 0, [], none, 0, _, (Fz.le_refl _), hs19, (OS.nil : OS F9 (.slice none 0 0) ([] : List VInT) []), (agC rfl (agC rfl (agC rfl (agC rfl (agC rfl (agC rfl (agC rfl agN))))))), rfl, (by rfl), (by rfl), (by rfl), (by intro q hq; cases hq), (by first | assumption | omega | (simp at *; omega))⟩ ?_
    rintro mm18 f18 H18 ⟨fi, r, lrp18_2_0, lra18_2_0, lrk18_2_0, F18, hF18, hs18, lrh18_2_0, hf18, rfl, w1, w2, w4, w5, w3⟩ ih18
    refine wk_canon _ hf18 (fun gg18 => ?_)
    clear hf18
    replace hT := hT.mono hF18
    replace hl := hl.mono hF18
    refine wk_foc 2 rfl ?_
    refine wr 1 [(2, .o (.int .i64 (9 + (i : Int))))] 32 35 [] [(35, (.bool (decide ((r : Int) < 9 + (i : Int)))))] (vA (ql 3 1 (HS.hc hs18 (i := 1) rfl) rfl rfl) trivial) (by kernel_rfl) rfl fun gg20 => ?_
    refine wk_if 4 5 (v := (decide ((r : Int) < 9 + (i : Int)))) rfl rfl rfl rfl (fun c21b => ?_) (fun c21b => ?_)
    · have c21 := c21b
      try simp only [BS] at c21
      refine wk_region ?_
      refine wro 3 0 [] 38 40 [] [(40, (.agg ⟨[(.int .i64 13), (.int .i64 (r : Int)), (.int .i64 0), (.int .i64 0), (.int .i64 (r : Int))]⟩))] trivial (by kernel_rfl) rfl fun gg22 => ?_
      refine wo_rs (rs_new hs18 rfl) rfl rfl ?_
      rintro _ H24 _ ⟨b23, rfl, hs24, _⟩
      have hs24 : HS _ _ _ [_, _, [(b15, .cells [(.slice lra18_2_0 fi.length lrk18_2_0), (.int .i64 0), (.int .i64 0), (.int .i64 0), (.int .i64 0)] none false)], lrp18_2_0, [(b23, .cells [(.int .i64 0), (.int .i64 0), (.int .i64 0), (.int .i64 0), (.int .i64 0)] none false)]] _ := hs24
      refine wo_rk (rs_rec (q := 4) hs24 rfl rfl rfl rfl rfl rfl rfl rfl rfl) rfl ?_
      rintro _ H25 _ ⟨hs25, _⟩
      have hs25 : HS _ _ _ [_, _, _, _, [(b23, .cells [(.int .i64 13), (.int .i64 (r : Int)), (.int .i64 0), (.int .i64 0), (.int .i64 (r : Int))] none false)]] _ := hs25
      refine wo_end 3 rfl ?_
      refine wr 1 [] 41 43 [] [(43, (.bool (decide ((r : Int) < params))))] trivial (by kernel_rfl) rfl fun gg26 => ?_
      refine wk_join (fun f H' => ∃ (vo : Int) (F' : Fz), Fz.le F18 F' ∧ HS (Base.of H []) F' H' [[(b1, .cells [(.int .i64 0), (.int .i64 0), (.slice none 0 0)] none false)], [(b4, .cells [(.int .i64 params), (.int .i64 (9 + (i : Int))), (.slice none 0 0)] none false)], [(b15, .cells [(.slice lra18_2_0 fi.length lrk18_2_0), (.int .i64 0), (.int .i64 0), (.int .i64 0), (.int .i64 0)] none false)], lrp18_2_0, [(b23, .cells [(.int .i64 vo), (.int .i64 (r : Int)), (.int .i64 0), (.int .i64 0), (.int .i64 (r : Int))] none false)]] R ∧ agrees f [(0, (.slice a_l l.length k_l)), (1, (.int .i64 params)), (4, (.pointer (some ⟨b1, 0, none⟩))), (5, (.pointer (some ⟨b4, 0, none⟩))), (6, (.int .i64 (1 + (if (5 : Int) < ((l.length / 6 : Nat) : Int) then (5 : Int) else ((l.length / 6 : Nat) : Int))))), (8, (.pointer (some ⟨b15, 0, none⟩))), (9, (.int .i64 (r : Int))), (10, (.pointer (some ⟨b23, 0, none⟩))), (35, (.bool (decide ((r : Int) < 9 + (i : Int))))), (40, (.agg ⟨[(.int .i64 13), (.int .i64 (r : Int)), (.int .i64 0), (.int .i64 0), (.int .i64 (r : Int))]⟩)), (43, (.bool (decide ((r : Int) < params))))] ∧ (vo = 13 ∨ vo = 38 ∧ (r : Int) < params)) (fun jn27 => ?_) ?_
      · skip
        refine wk_if 0 0 (v := (decide ((r : Int) < params))) rfl rfl rfl rfl (fun c28b => ?_) (fun c28b => ?_)
        · have c28 := c28b
          try simp only [BS] at c28
          refine wk_region ?_
          refine wro 3 0 [] 44 46 [] [(46, (.agg ⟨[(.int .i64 38), (.int .i64 (r : Int)), (.int .i64 0), (.int .i64 0), (.int .i64 (r : Int))]⟩))] trivial (by kernel_rfl) rfl fun gg29 => ?_
          refine wo_rk (rs_rec (q := 4) hs25 rfl rfl rfl rfl rfl rfl rfl rfl rfl) rfl ?_
          rintro _ H30 _ ⟨hs30, _⟩
          have hs30 : HS _ _ _ [_, _, _, _, [(b23, .cells [(.int .i64 38), (.int .i64 (r : Int)), (.int .i64 0), (.int .i64 0), (.int .i64 (r : Int))] none false)]] _ := hs30
          refine wo_end 0 rfl ?_
          exact jn27 _ _ ⟨38, _, (Fz.le_refl _), hs30, (agC rfl (agC rfl (agC rfl (agC rfl (agC rfl (agC rfl (agC rfl (agC rfl (agC rfl (agC rfl (agC rfl agN))))))))))), (by first | assumption | omega | (simp at *; omega))⟩
        · have c28 := c28b
          try simp only [BS] at c28
          exact jn27 _ _ ⟨13, _, (Fz.le_refl _), hs25, (agC rfl (agC rfl (agC rfl (agC rfl (agC rfl (agC rfl (agC rfl (agC rfl (agC rfl (agC rfl (agC rfl agN))))))))))), (by first | assumption | omega | (simp at *; omega))⟩
      · skip
        rintro f27 H27 ⟨vo, F27, hF27, hs27, hf27, hvo⟩
        refine wk_canon _ hf27 (fun gg27 => ?_)
        clear hf27
        replace hT := hT.mono hF27
        replace hl := hl.mono hF27
        replace lrh18_2_0 := lrh18_2_0.mono hF27
        refine wk_foc 1 rfl ?_
        refine wk_region ?_
        refine wro 4 0 [(1, .o (.slice lra18_2_0 fi.length lrk18_2_0)), (2, .o (.agg ⟨[(.int .i64 vo), (.int .i64 (r : Int)), (.int .i64 0), (.int .i64 0), (.int .i64 (r : Int))]⟩))] 47 50 [] [(48, (.slice lra18_2_0 fi.length lrk18_2_0)), (50, (.agg ⟨[(.int .i64 vo), (.int .i64 (r : Int)), (.int .i64 0), (.int .i64 0), (.int .i64 (r : Int)), (.slice none 0 0)]⟩))] (vA (ql 40 0 (HS.hc hs27 (i := 2) rfl) rfl rfl) (vA (qn 45 0 5 (HS.hc hs27 (i := 4) rfl) rfl rfl rfl rfl) trivial)) (by kernel_rfl) rfl fun gg31 => ?_
        refine wo_rs (rs_lit (α := VInT) (ps := [(0, (.agg ⟨[(.int .i64 vo), (.int .i64 (r : Int)), (.int .i64 0), (.int .i64 0), (.int .i64 (r : Int)), (.slice none 0 0)]⟩))]) (cells := [(.int .i64 vo), (.int .i64 (r : Int)), (.int .i64 0), (.int .i64 0), (.int .i64 (r : Int)), (.slice none 0 0)]) ([(⟨(⟨vo, (r : Int), 0, 0, (r : Int)⟩ : InsT), ([] : List Int)⟩ : VInT)] : List VInT) hs27 rfl rfl rfl (by kernel_rfl) ⟨[(.int .i64 vo), (.int .i64 (r : Int)), (.int .i64 0), (.int .i64 0), (.int .i64 (r : Int)), (.slice none 0 0)], [], rfl, ⟨none, 0, rfl, by first | omega | (dsimp only; omega), by first | omega | (dsimp only; omega), by first | omega | (dsimp only; omega), by first | omega | (dsimp only; omega), by first | omega | (dsimp only; omega), SR.nil⟩, rfl⟩ rfl) rfl rfl ?_
        rintro _ H33 p32 ⟨a32, k32, rfl, ho32, hs33, _⟩
        have hs33 : HS _ _ _ [_, _, _, _, [(b23, .cells [(.int .i64 vo), (.int .i64 (r : Int)), (.int .i64 0), (.int .i64 0), (.int .i64 (r : Int))] none false)], p32] _ := hs33
        refine wo_rs (rs_app (α := VInT) (q := 3) lrh18_2_0 hs33 rfl rfl rfl (OS.sv ho32 hs33 (i := 5) rfl) rfl rfl rfl rfl rfl rfl rfl (by first | omega | (simp only [List.length_cons, List.length_nil]; omega))) rfl rfl ?_
        rintro _ H35 p34 ⟨a34, k34, rfl, ho34, hs35, _⟩
        have hs35 : HS _ _ _ [_, _, _, p34, _, _] _ := hs35
        refine wro 1 6 [] 53 53 [] [(53, (.pointer (some ⟨b15, 0, none⟩)))] trivial (by kernel_rfl) rfl fun gg36 => ?_
        refine wo_rk (rs_rec (q := 2) hs35 rfl rfl rfl rfl rfl rfl rfl rfl rfl) rfl ?_
        rintro _ H37 _ ⟨hs37, _⟩
        have hs37 : HS _ _ _ [_, _, [(b15, .cells [(.slice a34 (fi ++ ([(⟨(⟨vo, (r : Int), 0, 0, (r : Int)⟩ : InsT), ([] : List Int)⟩ : VInT)] : List VInT)).length k34), (.int .i64 0), (.int .i64 0), (.int .i64 0), (.int .i64 0)] none false)], _, _, _] _ := hs37
        refine wo_end 2 rfl ?_
        refine wr 1 [] 36 37 [9] [(9, (.int .i64 ((r : Int) + 1)))] (vA (vi (n := (r : Int) + 1) (by first | omega | (dsimp only; omega))) trivial) (by kernel_rfl) rfl fun gg38 => ?_
        refine ih18 _ _ _ ?_ ⟨fi ++ ([(⟨(⟨vo, (r : Int), 0, 0, (r : Int)⟩ : InsT), ([] : List Int)⟩ : VInT)] : List VInT), r + 1, p34, a34, k34, _, (Fz.le_trans (hF18) hF27), (HS.sub hs37 (List.sublist_append_left _ _)), ho34, (agC rfl (agC rfl (agC rfl (agC rfl (agC rfl (agC rfl (agC rfl agN))))))), rfl, (by simp; omega), (by exact all_snoc w2 (vin_ldi (by omega) (by omega))), (by exact all_snoc w4 (ck_ldi (by first | omega | (dsimp only; omega)))), (by exact fst_snoc w5 ⟨by rw [w1], by first | omega | (dsimp only; omega)⟩), (by first | assumption | omega | (simp at *; omega))⟩
        omega
    · have c21 := c21b
      try simp only [BS] at c21
      refine wk_region ?_
      refine wro 1 0 [] 54 54 [] [(54, (.pointer (some ⟨b15, 1, none⟩)))] trivial (by kernel_rfl) rfl fun gg39 => ?_
      refine wo_rk (rs_rec (q := 2) hs18 rfl rfl rfl rfl rfl rfl rfl rfl rfl) rfl ?_
      rintro _ H40 _ ⟨hs40, _⟩
      have hs40 : HS _ _ _ [_, _, [(b15, .cells [(.slice lra18_2_0 fi.length lrk18_2_0), (.int .i64 1), (.int .i64 0), (.int .i64 0), (.int .i64 0)] none false)], lrp18_2_0] _ := hs40
      refine wro 1 2 [] 55 55 [] [(55, (.pointer (some ⟨b15, 3, none⟩)))] trivial (by kernel_rfl) rfl fun gg41 => ?_
      refine wo_rk (rs_rec (q := 2) hs40 rfl rfl rfl rfl rfl rfl rfl rfl rfl) rfl ?_
      rintro _ H42 _ ⟨hs42, _⟩
      have hs42 : HS _ _ _ [_, _, [(b15, .cells [(.slice lra18_2_0 fi.length lrk18_2_0), (.int .i64 1), (.int .i64 0), (.int .i64 1), (.int .i64 0)] none false)], _] _ := hs42
      refine wo_end 2 rfl ?_
      refine wk_region ?_
      refine wro 3 0 [(1, .o (.slice none 0 0)), (2, .o (.agg ⟨[(.slice lra18_2_0 fi.length lrk18_2_0), (.int .i64 1), (.int .i64 0), (.int .i64 1), (.int .i64 0)]⟩))] 56 58 [] [(57, (.slice none 0 0)), (58, (.agg ⟨[(.slice lra18_2_0 fi.length lrk18_2_0), (.int .i64 1), (.int .i64 0), (.int .i64 1), (.int .i64 0)]⟩))] (vA (ql 22 2 (HS.hc hs42 (i := 1) rfl) rfl rfl) (vA (qn 42 0 5 (HS.hc hs42 (i := 2) rfl) rfl rfl rfl rfl) trivial)) (by kernel_rfl) rfl fun gg43 => ?_
      obtain ⟨F44, hF44, hs44, hr44, hp44⟩ := OS.frz lrh18_2_0 hs42 (i := 3) rfl
      have hs44 : HS _ _ _ [_, _, _, []] _ := hs44
      replace hT := hT.mono hF44
      replace hl := hl.mono hF44
      replace lrh18_2_0 := lrh18_2_0.mono hF44
      refine wo_rs (rs_lit (α := BlkT) (ps := [(0, (.agg ⟨[(.slice lra18_2_0 fi.length lrk18_2_0), (.int .i64 1), (.int .i64 0), (.int .i64 1), (.int .i64 0)]⟩))]) (cells := [(.slice lra18_2_0 fi.length lrk18_2_0), (.int .i64 1), (.int .i64 0), (.int .i64 1), (.int .i64 0)]) ([(⟨fi, 1, 0, 1, 0⟩ : BlkT)] : List BlkT) hs44 rfl rfl rfl (by kernel_rfl) ⟨[(.slice lra18_2_0 fi.length lrk18_2_0), (.int .i64 1), (.int .i64 0), (.int .i64 1), (.int .i64 0)], [], rfl, ⟨lra18_2_0, lrk18_2_0, rfl, by first | omega | (dsimp only; omega), by first | omega | (dsimp only; omega), by first | omega | (dsimp only; omega), by first | omega | (dsimp only; omega), hr44⟩, rfl⟩ rfl) rfl rfl ?_
      rintro _ H46 p45 ⟨a45, k45, rfl, ho45, hs46, _⟩
      have hs46 : HS _ _ _ [_, _, _, _, p45] _ := hs46
      have hs47 := HS.snoc hs46
      have hs47 : HS _ _ _ [_, _, _, _, _, []] _ := hs47
      refine wo_rs (rs_app (α := BlkT) (q := 5) (OS.nil : OS F44 (.slice none 0 0) ([] : List BlkT) []) hs47 rfl rfl rfl (OS.sv ho45 hs47 (i := 4) rfl) rfl rfl rfl rfl rfl rfl rfl (by first | omega | (simp only [List.length_cons, List.length_nil]; omega))) rfl rfl ?_
      rintro _ H49 p48 ⟨a48, k48, rfl, ho48, hs49, _⟩
      have hs49 : HS _ _ _ [_, _, _, _, _, p48] _ := hs49
      have ho48 : OS F44 (.slice a48 ([(⟨fi, 1, 0, 1, 0⟩ : BlkT)] : List BlkT).length k48) ([(⟨fi, 1, 0, 1, 0⟩ : BlkT)] : List BlkT) p48 := ho48
      refine wro 1 5 [] 61 61 [] [(61, (.pointer (some ⟨b4, 2, none⟩)))] trivial (by kernel_rfl) rfl fun gg50 => ?_
      refine wo_rk (rs_rec (q := 1) hs49 rfl rfl rfl rfl rfl rfl rfl rfl rfl) rfl ?_
      rintro _ H51 _ ⟨hs51, _⟩
      have hs51 : HS _ _ _ [_, [(b4, .cells [(.int .i64 params), (.int .i64 (9 + (i : Int))), (.slice a48 ([(⟨fi, 1, 0, 1, 0⟩ : BlkT)] : List BlkT).length k48)] none false)], _, _, _, _] _ := hs51
      refine wo_end 3 rfl ?_
      refine wr 2 [] 1 0 [11] [(11, (.int .i64 0))] trivial (by kernel_rfl) rfl fun gg52 => ?_
      refine wk_loop_inv (fun (mm : Nat) f H' => ∃ (bl : List BlkT) (b : Nat) (lrp53_1_2 : Fp) (lra53_1_2 : Option Addr) (lrk53_1_2 : Nat) (F' : Fz), Fz.le F44 F' ∧ HS (Base.of H []) F' H' [[(b1, .cells [(.int .i64 0), (.int .i64 0), (.slice none 0 0)] none false)], [(b4, .cells [(.int .i64 params), (.int .i64 (9 + (i : Int))), (.slice lra53_1_2 bl.length lrk53_1_2)] none false)], [(b15, .cells [(.slice lra18_2_0 fi.length lrk18_2_0), (.int .i64 1), (.int .i64 0), (.int .i64 1), (.int .i64 0)] none false)], [], p45, lrp53_1_2] R ∧ OS F' (.slice lra53_1_2 bl.length lrk53_1_2) bl lrp53_1_2 ∧ agrees f [(0, (.slice a_l l.length k_l)), (4, (.pointer (some ⟨b1, 0, none⟩))), (5, (.pointer (some ⟨b4, 0, none⟩))), (6, (.int .i64 (1 + (if (5 : Int) < ((l.length / 6 : Nat) : Int) then (5 : Int) else ((l.length / 6 : Nat) : Int))))), (11, (.int .i64 (b : Int)))] ∧ mm = ((1 + (if (5 : Int) < ((l.length / 6 : Nat) : Int) then (5 : Int) else ((l.length / 6 : Nat) : Int))) - (b : Int)).toNat ∧ (bl.length = b + 1) ∧ (bl.all (blkV params (9 + (i : Int)) ((1 + (if (5 : Int) < ((l.length / 6 : Nat) : Int) then (5 : Int) else ((l.length / 6 : Nat) : Int))) + 1)) = true) ∧ (∀ y ∈ bl, y.ins.length ≤ 11) ∧ (bl.all (fun y => y.ins.all ckI) = true) ∧ (bl.getD 0 default = ⟨fi, 1, 0, 1, 0⟩) ∧ ((b : Int) ≤ (1 + (if (5 : Int) < ((l.length / 6 : Nat) : Int) then (5 : Int) else ((l.length / 6 : Nat) : Int))))) _ ⟨([(⟨fi, 1, 0, 1, 0⟩ : BlkT)] : List BlkT), 0, p48, a48, k48, _, (Fz.le_refl _), hs51, ho48, (agC rfl (agC rfl (agC rfl (agC rfl (agC rfl agN))))), rfl, (by rfl), (by exact all_snoc (l := []) rfl (blk_mk w2 (by omega))), (by exact ins_snoc (l := []) (by simp) (by first | omega | (dsimp only; omega))), (by exact all_snoc (l := []) rfl w4), (by rfl), (by first | assumption | omega | (simp at *; omega))⟩ ?_
      rintro mm53 f53 H53 ⟨bl, b, lrp53_1_2, lra53_1_2, lrk53_1_2, F53, hF53, hs53, lrh53_1_2, hf53, rfl, e1, e2, e3, e5, e6, e4⟩ ih53
      refine wk_canon _ hf53 (fun gg53 => ?_)
      clear hf53
      replace hT := hT.mono hF53
      replace hl := hl.mono hF53
      replace hr44 := hr44.mono hF53
      refine wk_foc 2 rfl ?_
      refine wr 1 [] 62 64 [] [(64, (.bool (decide ((b : Int) < 1 + (if (5 : Int) < ((l.length / 6 : Nat) : Int) then (5 : Int) else ((l.length / 6 : Nat) : Int))))))] trivial (by kernel_rfl) rfl fun gg54 => ?_
      refine wk_if 4 5 (v := (decide ((b : Int) < 1 + (if (5 : Int) < ((l.length / 6 : Nat) : Int) then (5 : Int) else ((l.length / 6 : Nat) : Int))))) rfl rfl rfl rfl (fun c55b => ?_) (fun c55b => ?_)
      · have c55 := c55b
        try simp only [BS] at c55
        refine wk_region ?_
        refine wo_rs (rs_new hs53 rfl) rfl rfl ?_
        rintro _ H57 _ ⟨b56, rfl, hs57, _⟩
        have hs57 : HS _ _ _ [_, [(b4, .cells [(.int .i64 params), (.int .i64 (9 + (i : Int))), (.slice lra53_1_2 bl.length lrk53_1_2)] none false)], _, _, _, lrp53_1_2, [(b56, .cells [(.slice none 0 0), (.int .i64 0), (.int .i64 0), (.int .i64 0), (.int .i64 0)] none false)]] _ := hs57
        refine wo_end 3 rfl ?_
        refine wr 2 [] 1 0 [13] [(13, (.int .i64 0))] trivial (by kernel_rfl) rfl fun gg58 => ?_
        have hs60 := HS.snoc hs57
        have hs60 : HS _ _ _ [_, _, _, _, _, _, _, []] _ := hs60
        refine wk_loop_inv (fun (mm : Nat) f H' => ∃ (xi : List VInT) (k : Nat) (lrp59_6_0 : Fp) (lra59_6_0 : Option Addr) (lrk59_6_0 : Nat) (F' : Fz), Fz.le F53 F' ∧ HS (Base.of H []) F' H' [[(b1, .cells [(.int .i64 0), (.int .i64 0), (.slice none 0 0)] none false)], [(b4, .cells [(.int .i64 params), (.int .i64 (9 + (i : Int))), (.slice lra53_1_2 bl.length lrk53_1_2)] none false)], [(b15, .cells [(.slice lra18_2_0 fi.length lrk18_2_0), (.int .i64 1), (.int .i64 0), (.int .i64 1), (.int .i64 0)] none false)], [], p45, lrp53_1_2, [(b56, .cells [(.slice lra59_6_0 xi.length lrk59_6_0), (.int .i64 0), (.int .i64 0), (.int .i64 0), (.int .i64 0)] none false)], lrp59_6_0] R ∧ OS F' (.slice lra59_6_0 xi.length lrk59_6_0) xi lrp59_6_0 ∧ agrees f [(0, (.slice a_l l.length k_l)), (4, (.pointer (some ⟨b1, 0, none⟩))), (5, (.pointer (some ⟨b4, 0, none⟩))), (6, (.int .i64 (1 + (if (5 : Int) < ((l.length / 6 : Nat) : Int) then (5 : Int) else ((l.length / 6 : Nat) : Int))))), (11, (.int .i64 (b : Int))), (12, (.pointer (some ⟨b56, 0, none⟩))), (13, (.int .i64 (k : Int))), (64, (.bool (decide ((b : Int) < 1 + (if (5 : Int) < ((l.length / 6 : Nat) : Int) then (5 : Int) else ((l.length / 6 : Nat) : Int))))))] ∧ mm = 5 - k ∧ (xi.length = k) ∧ (xi.all (vinV params (9 + (i : Int))) = true) ∧ (xi.all ckI = true) ∧ (k ≤ 5)) _ ⟨([] : List VInT), 0, [], none, 0, _, (Fz.le_refl _), hs60, (OS.nil : OS F53 (.slice none 0 0) ([] : List VInT) []), (agC rfl (agC rfl (agC rfl (agC rfl (agC rfl (agC rfl (agC rfl (agC rfl agN)))))))), rfl, (by rfl), (by rfl), (by rfl), (by first | assumption | omega | (simp at *; omega))⟩ ?_
        rintro mm59 f59 H59 ⟨xi, k, lrp59_6_0, lra59_6_0, lrk59_6_0, F59, hF59, hs59, lrh59_6_0, hf59, rfl, z1, z2, z4, z3⟩ ih59
        refine wk_canon _ hf59 (fun gg59 => ?_)
        clear hf59
        replace hT := hT.mono hF59
        replace hl := hl.mono hF59
        replace hr44 := hr44.mono hF59
        replace lrh53_1_2 := lrh53_1_2.mono hF59
        refine wk_foc 2 rfl ?_
        refine wr 1 [] 67 77 [] [(77, (.bool ((decide ((k : Int) < 5)) && (decide ((6 * (b : Int)) + (k : Int) < (l.length : Int))))))] (vA (fun (g1 : (decide ((k : Int) < 5)) = true) => (vi (n := 6 * (b : Int)) (by (try simp only [BS] at g1); (first | omega | (dsimp only; omega))))) (vA (fun (g1 : (decide ((k : Int) < 5)) = true) => (vi (n := (6 * (b : Int)) + (k : Int)) (by (try simp only [BS] at g1); (first | omega | (dsimp only; omega))))) trivial)) (by kernel_rfl) rfl fun gg61 => ?_
        refine wk_if 3 5 (v := ((decide ((k : Int) < 5)) && (decide ((6 * (b : Int)) + (k : Int) < (l.length : Int))))) rfl rfl rfl rfl (fun c62b => ?_) (fun c62b => ?_)
        · have c62 := c62b
          try simp only [BS] at c62
          refine wf_region rfl ?_
          refine wf_pure (v := (.pointer (some ⟨b56, 0, none⟩))) (id := .v) (ap_fa rfl rfl) rfl rfl (did_v rfl) (okD_v _) ?_
          refine wf_pure (v := (.slice lra59_6_0 xi.length lrk59_6_0)) (id := .l b56) (ap_ld1 (i := 0) rfl rfl (HS.hc hs59.log0 (i := 6) rfl) rfl rfl) rfl rfl (did_l rfl) (⟨.inl rfl, trivial⟩) ?_
          refine fm (.slice a_l l.length k_l) rfl rfl rfl ?_
          refine fm (.int .i64 (b : Int)) rfl rfl rfl ?_
          refine wf_pure (v := (.int .i64 (6 * (b : Int)))) (id := .v) (ap_mul rfl rfl (w_i64 (n := 6 * (b : Int)) (by first | omega | (dsimp only; omega)))) rfl rfl (did_v rfl) (okD_v _) ?_
          refine fm (.int .i64 (k : Int)) rfl rfl rfl ?_
          refine wf_pure (v := (.int .i64 ((6 * (b : Int)) + (k : Int)))) (id := .v) (ap_add rfl rfl (w_i64 (n := (6 * (b : Int)) + (k : Int)) (by first | omega | (dsimp only; omega)))) rfl rfl (did_v rfl) (okD_v _) ?_
          refine wf_pure (v := (.pointer (some ⟨sB (.slice a_l l.length k_l), sO (.slice a_l l.length k_l) + ((6 * b) + k) * Rp.sz Int, none⟩))) (id := .v) (ap_idxV (α := Int) (j := (6 * (b : Int)) + (k : Int)) rfl rfl rfl rfl (SR.sv hl hs59.log0) (by first | omega | (dsimp only; omega)) (by first | omega | (dsimp only; omega))) rfl rfl (did_v rfl) (okD_v _) ?_
          obtain ⟨cs63, hr63, hc63⟩ := Sv.at (SR.sv hl hs59.log0) (getD_at (x := (0 : Int)) (show (6 * b) + k < l.length from by first | omega | (dsimp only; omega)))
          obtain ⟨rfl, g64_0⟩ := hr63
          refine wf_pure (v := (.int .i64 (l.getD ((6 * b) + k) 0))) (id := .l (sB (.slice a_l l.length k_l))) (ap_ld1 (i := 0) rfl rfl hc63 rfl rfl) rfl rfl (did_l rfl) (⟨.inl rfl, ⟨.inl rfl, ⟨.inl rfl, ⟨.inl rfl, ⟨.inl rfl, ⟨.inl rfl, ⟨.inr trivial, ⟨.inr trivial, trivial⟩⟩⟩⟩⟩⟩⟩⟩) ?_
          refine wf_pure (v := (.agg ⟨[(.int .i64 params), (.int .i64 (9 + (i : Int))), (.slice lra53_1_2 bl.length lrk53_1_2)]⟩)) (id := .l b4) (ap_ldN (i := 0) rfl rfl rfl (HS.hc hs59.log0 (i := 1) rfl) rfl rfl rfl) rfl rfl (did_l rfl) (⟨.inr trivial, ⟨.inr trivial, ⟨.inr trivial, ⟨.inr trivial, ⟨.inr trivial, ⟨.inr trivial, ⟨.inr trivial, ⟨.inr trivial, ⟨.inr trivial, trivial⟩⟩⟩⟩⟩⟩⟩⟩⟩) ?_
          refine wf_call (W := []) (ap_call rfl rfl rfl) rfl rfl rfl (m4.vi_c ex (l.getD ((6 * b) + k) 0) (⟨params, 9 + (i : Int), bl⟩ : VFnT) (HS.call hs59.log0) (by first | omega | (dsimp only; omega)) (by first | omega | (dsimp only; omega)) (by first | omega | (dsimp only; omega)) hT (by first | omega | (dsimp only; omega))) (⟨.inl rfl, ⟨.inl rfl, ⟨.inl rfl, ⟨.inl rfl, ⟨.inl rfl, ⟨.inl rfl, ⟨.inl rfl, ⟨.inl rfl, ⟨.inr List.not_mem_nil, ⟨.inr trivial, trivial⟩⟩⟩⟩⟩⟩⟩⟩⟩⟩) ?_
          rintro _ H65 ⟨x65, ax65_5, kx65_5, F65, hF65, hs65, rfl, hgx65_0, hgx65_1, hgx65_2, hgx65_3, hgx65_4, hrx65_5, h65, hk65⟩
          refine ⟨Wr.did hs65.log, fun lg65 hlg65 => ?_⟩
          replace hs65 := HS.back hs59.log0 rfl hs65
          replace hs65 := HS.lg hs65 hs59 hlg65
          generalize ({ H65 with log := lg65 } : Heap) = H65g at hs65 ⊢
          have hs65 : HS _ _ _ [_, _, _, _, _, _, [(b56, .cells [(.slice lra59_6_0 xi.length lrk59_6_0), (.int .i64 0), (.int .i64 0), (.int .i64 0), (.int .i64 0)] none false)], lrp59_6_0] _ := hs65
          replace hT := hT.mono hF65
          replace hl := hl.mono hF65
          replace hr44 := hr44.mono hF65
          replace lrh53_1_2 := lrh53_1_2.mono hF65
          replace lrh59_6_0 := lrh59_6_0.mono hF65
          refine wf_rs (id := .a) (rs_lit (α := VInT) (ps := [(0, (.agg ⟨[(.int .i64 x65.i.op), (.int .i64 x65.i.a), (.int .i64 x65.i.b), (.int .i64 x65.i.c), (.int .i64 x65.i.n), (.slice ax65_5 x65.args.length kx65_5)]⟩))]) (cells := [(.int .i64 x65.i.op), (.int .i64 x65.i.a), (.int .i64 x65.i.b), (.int .i64 x65.i.c), (.int .i64 x65.i.n), (.slice ax65_5 x65.args.length kx65_5)]) ([x65] : List VInT) hs65.log0 rfl rfl rfl (by kernel_rfl) ⟨[(.int .i64 x65.i.op), (.int .i64 x65.i.a), (.int .i64 x65.i.b), (.int .i64 x65.i.c), (.int .i64 x65.i.n), (.slice ax65_5 x65.args.length kx65_5)], [], rfl, ⟨ax65_5, kx65_5, rfl, by first | omega | (dsimp only; omega), by first | omega | (dsimp only; omega), by first | omega | (dsimp only; omega), by first | omega | (dsimp only; omega), by first | omega | (dsimp only; omega), hrx65_5⟩, rfl⟩ rfl) rfl rfl (fun _ _ _ _ => did_a rfl rfl rfl) (⟨.inl rfl, ⟨.inl rfl, ⟨.inl rfl, ⟨.inl rfl, ⟨.inl rfl, ⟨.inl rfl, ⟨.inl rfl, ⟨.inl rfl, ⟨.inl rfl, ⟨.inr trivial, ⟨.inr trivial, trivial⟩⟩⟩⟩⟩⟩⟩⟩⟩⟩⟩) ?_
          rintro _ H67 p66 ⟨a66, k66, rfl, ho66, hs67, _⟩ lg67 hlg67
          replace hs67 := HS.lg hs67 hs65 hlg67
          generalize ({ H67 with log := lg67 } : Heap) = H67g at hs67 ⊢
          have hs67 : HS _ _ _ [_, _, _, _, _, _, _, _, p66] _ := hs67
          refine wf_rs (id := .x (lrp59_6_0.map Prod.fst)) (rs_app (α := VInT) (q := 7) lrh59_6_0 hs67.log0 rfl rfl rfl (OS.sv ho66 hs67.log0 (i := 8) rfl) rfl rfl rfl rfl rfl rfl rfl (by first | omega | (simp only [List.length_cons, List.length_nil]; omega))) rfl rfl (by rintro _ _ p68 ⟨a68, k68, rfl, ho68, _, hwr⟩; exact did_x rfl rfl (Wr.did hwr)) (⟨.inl rfl, ⟨.inl rfl, ⟨.inl rfl, ⟨.inl rfl, ⟨.inl rfl, ⟨.inl rfl, ⟨.inl rfl, ⟨.inl rfl, ⟨.inl rfl, ⟨.inl rfl, ⟨.inl rfl, ⟨.inl rfl, trivial⟩⟩⟩⟩⟩⟩⟩⟩⟩⟩⟩⟩) ?_
          rintro _ H69 p68 ⟨a68, k68, rfl, ho68, hs69, _⟩ lg69 hlg69
          replace hs69 := HS.lg hs69 hs67 hlg69
          generalize ({ H69 with log := lg69 } : Heap) = H69g at hs69 ⊢
          have hs69 : HS _ _ _ [_, _, _, _, _, _, _, p68, _] _ := hs69
          refine wf_pure (v := (.pointer (some ⟨b56, 0, none⟩))) (id := .v) (ap_fa rfl rfl) rfl rfl (did_v rfl) (okD_v _) ?_
          refine wf_rk (id := .x [b56]) (rs_rec (q := 6) hs69.log0 rfl rfl rfl rfl rfl rfl rfl rfl rfl) rfl (by rintro _ _ _ ⟨_, hwr⟩; exact did_x rfl rfl (Wr.did hwr)) (⟨.inl rfl, ⟨.inl rfl, ⟨.inl rfl, ⟨.inl rfl, ⟨.inl rfl, ⟨.inl rfl, ⟨.inl rfl, ⟨.inl rfl, ⟨.inl rfl, ⟨.inl rfl, ⟨.inl rfl, ⟨.inl rfl, ⟨.inl rfl, ⟨.inl rfl, trivial⟩⟩⟩⟩⟩⟩⟩⟩⟩⟩⟩⟩⟩⟩) ?_
          rintro _ H70 _ ⟨hs70, _⟩ lg70 hlg70
          replace hs70 := HS.lg hs70 hs69 hlg70
          generalize ({ H70 with log := lg70 } : Heap) = H70g at hs70 ⊢
          have hs70 : HS _ _ _ [_, _, _, _, _, _, [(b56, .cells [(.slice a68 (xi ++ ([x65] : List VInT)).length k68), (.int .i64 0), (.int .i64 0), (.int .i64 0), (.int .i64 0)] none false)], _, _] _ := hs70
          refine wf_nil ?_
          refine wk_foc 2 rfl ?_
          refine wr 1 [] 78 79 [13] [(13, (.int .i64 ((k : Int) + 1)))] (vA (vi (n := (k : Int) + 1) (by first | omega | (dsimp only; omega))) trivial) (by kernel_rfl) rfl fun gg71 => ?_
          refine ih59 _ _ _ ?_ ⟨xi ++ ([x65] : List VInT), k + 1, p68, a68, k68, _, (Fz.le_trans (hF59) hF65), (HS.sub hs70 (List.sublist_append_left _ _)), ho68, (agC rfl (agC rfl (agC rfl (agC rfl (agC rfl (agC rfl (agC rfl (agC rfl agN)))))))), rfl, (by simp; omega), (by exact all_snoc z2 (by assumption)), (by exact all_snoc z4 (by assumption)), (by first | assumption | omega | (simp at *; omega))⟩
          omega
        · have c62 := c62b
          try simp only [BS] at c62
          refine wr 3 [] 1 0 [14] [(14, (.int .i64 0))] trivial (by kernel_rfl) rfl fun gg72 => ?_
          refine wr 1 [] 94 99 [] [(99, (.bool (decide ((6 * (b : Int)) + 5 < (l.length : Int)))))] (vA (vi (n := 6 * (b : Int)) (by first | omega | (dsimp only; omega))) (vA (vi (n := (6 * (b : Int)) + 5) (by first | omega | (dsimp only; omega))) trivial)) (by kernel_rfl) rfl fun gg73 => ?_
          refine wk_join (fun f H' => ∃ (nn : Int), H' = H59 ∧ agrees f [(0, (.slice a_l l.length k_l)), (4, (.pointer (some ⟨b1, 0, none⟩))), (5, (.pointer (some ⟨b4, 0, none⟩))), (6, (.int .i64 (1 + (if (5 : Int) < ((l.length / 6 : Nat) : Int) then (5 : Int) else ((l.length / 6 : Nat) : Int))))), (11, (.int .i64 (b : Int))), (12, (.pointer (some ⟨b56, 0, none⟩))), (13, (.int .i64 (k : Int))), (14, (.int .i64 nn)), (64, (.bool (decide ((b : Int) < 1 + (if (5 : Int) < ((l.length / 6 : Nat) : Int) then (5 : Int) else ((l.length / 6 : Nat) : Int)))))), (77, (.bool ((decide ((k : Int) < 5)) && (decide ((6 * (b : Int)) + (k : Int) < (l.length : Int)))))), (99, (.bool (decide ((6 * (b : Int)) + 5 < (l.length : Int)))))] ∧ (in64 nn)) (fun jn74 => ?_) ?_
          · skip
            refine wk_if 0 0 (v := (decide ((6 * (b : Int)) + 5 < (l.length : Int)))) rfl rfl rfl rfl (fun c75b => ?_) (fun c75b => ?_)
            · have c75 := c75b
              try simp only [BS] at c75
              obtain ⟨cf76, hv76⟩ := Sv.view (SR.sv hl hs59)
              have g77 := fI (hv76 ((6 * b) + 5))
              refine wr 0 [(5, .o (.int .i64 (l.getD ((6 * b) + 5) 0)))] 100 105 [14] [(14, (.int .i64 (l.getD ((6 * b) + 5) 0)))] (vA (vi (n := 6 * (b : Int)) (by first | omega | (dsimp only; omega))) (vA (vi (n := (6 * (b : Int)) + 5) (by first | omega | (dsimp only; omega))) (vA (Sv.ix (j := (6 * (b : Int)) + 5) (SR.sv hl hs59) (by first | omega | (dsimp only; omega)) (by first | omega | (dsimp only; omega))) (vA (ql 3 0 (vI (hv76 ((6 * b) + 5)) (by first | omega | (dsimp only; omega))) rfl rfl) trivial)))) (by kernel_rfl) rfl fun gg78 => ?_
              exact jn74 _ _ ⟨(l.getD ((6 * b) + 5) 0), rfl, (agC rfl (agC rfl (agC rfl (agC rfl (agC rfl (agC rfl (agC rfl (agC rfl (agC rfl (agC rfl (agC rfl agN))))))))))), (by first | assumption | omega | (simp at *; omega))⟩
            · have c75 := c75b
              try simp only [BS] at c75
              exact jn74 _ _ ⟨0, rfl, (agC rfl (agC rfl (agC rfl (agC rfl (agC rfl (agC rfl (agC rfl (agC rfl (agC rfl (agC rfl (agC rfl agN))))))))))), (by first | assumption | omega | (simp at *; omega))⟩
          · skip
            rintro f74 H59 ⟨nn, rfl, hf74, hnn⟩
            refine wk_canon _ hf74 (fun gg74 => ?_)
            clear hf74
            refine wk_foc 2 rfl ?_
            refine wk_region ?_
            refine wro 2 0 [] 106 107 [] [(107, (.agg ⟨[(.int .i64 nn)]⟩))] trivial (by kernel_rfl) rfl fun gg79 => ?_
            refine wo_rs (rs_box hs59 rfl rfl) rfl rfl ?_
            rintro _ H81 _ ⟨b80, rfl, hs81, _⟩
            have hs81 : HS _ _ _ [_, _, _, _, _, _, [(b56, .cells [(.slice lra59_6_0 xi.length lrk59_6_0), (.int .i64 0), (.int .i64 0), (.int .i64 0), (.int .i64 0)] none false)], lrp59_6_0, [(b80, .cells [(.int .i64 nn)] none false)]] _ := hs81
            refine wa (.pointer (some ⟨b80, 0, none⟩)) rfl rfl rfl ?_
            refine wo_end 3 rfl ?_
            refine wk_region ?_
            refine wm (.pointer (some ⟨b80, 0, none⟩)) rfl rfl rfl ?_
            refine wo_call (ap_call rfl rfl rfl) rfl rfl (m4.next_c ex (⟨nn⟩ : DigT) (6) (HS.callOwn hs81 (i := 8) rfl) (by first | omega | (dsimp only; omega)) (by first | omega | (dsimp only; omega)) hT (by first | omega | (dsimp only; omega))) ?_
            rintro _ H82 ⟨r82, dm82, F82, hF82, hs82, rfl, gm82_0, h82⟩
            replace hs82 := HS.backOwn hs81 (i := 8) rfl rfl (fun _ hb => hb) hs82
            have hs82 : HS _ _ _ [_, _, _, _, _, _, _, _, [(b80, .cells [(.int .i64 dm82.n)] none false)]] _ := hs82
            replace hT := hT.mono hF82
            replace hl := hl.mono hF82
            replace hr44 := hr44.mono hF82
            replace lrh53_1_2 := lrh53_1_2.mono hF82
            replace lrh59_6_0 := lrh59_6_0.mono hF82
            refine wo_end 3 rfl ?_
            refine wr 1 [] 127 128 [] [(127, (.bool (r82 == 0)))] trivial (by kernel_rfl) rfl fun gg83 => ?_
            refine wk_join (fun f H' => ∃ (xe : Int) (xg : Int) (xt : Int) (xf : Int) (dd : DigT) (F' : Fz), Fz.le F82 F' ∧ HS (Base.of H []) F' H' [[(b1, .cells [(.int .i64 0), (.int .i64 0), (.slice none 0 0)] none false)], [(b4, .cells [(.int .i64 params), (.int .i64 (9 + (i : Int))), (.slice lra53_1_2 bl.length lrk53_1_2)] none false)], [(b15, .cells [(.slice lra18_2_0 fi.length lrk18_2_0), (.int .i64 1), (.int .i64 0), (.int .i64 1), (.int .i64 0)] none false)], [], p45, lrp53_1_2, [(b56, .cells [(.slice lra59_6_0 xi.length lrk59_6_0), (.int .i64 xe), (.int .i64 xg), (.int .i64 xt), (.int .i64 xf)] none false)], lrp59_6_0, [(b80, .cells [(.int .i64 dd.n)] none false)]] R ∧ agrees f [(0, (.slice a_l l.length k_l)), (4, (.pointer (some ⟨b1, 0, none⟩))), (5, (.pointer (some ⟨b4, 0, none⟩))), (6, (.int .i64 (1 + (if (5 : Int) < ((l.length / 6 : Nat) : Int) then (5 : Int) else ((l.length / 6 : Nat) : Int))))), (11, (.int .i64 (b : Int))), (12, (.pointer (some ⟨b56, 0, none⟩))), (13, (.int .i64 (k : Int))), (14, (.int .i64 nn)), (15, (.pointer (some ⟨b80, 0, none⟩))), (64, (.bool (decide ((b : Int) < 1 + (if (5 : Int) < ((l.length / 6 : Nat) : Int) then (5 : Int) else ((l.length / 6 : Nat) : Int)))))), (77, (.bool ((decide ((k : Int) < 5)) && (decide ((6 * (b : Int)) + (k : Int) < (l.length : Int)))))), (99, (.bool (decide ((6 * (b : Int)) + 5 < (l.length : Int))))), (107, (.agg ⟨[(.int .i64 nn)]⟩)), (108, (.pointer (some ⟨b80, 0, none⟩))), (109, (.pointer (some ⟨b80, 0, none⟩))), (110, (.int .i64 r82)), (127, (.bool (r82 == 0)))] ∧ ((xe = 1 ∧ 0 ≤ xt ∧ xt < ((1 + (if (5 : Int) < ((l.length / 6 : Nat) : Int) then (5 : Int) else ((l.length / 6 : Nat) : Int)))) + 1 ∧ xf = 0 ∧ xg = 0 ∨ xe = 2 ∧ 0 ≤ xt ∧ xt < ((1 + (if (5 : Int) < ((l.length / 6 : Nat) : Int) then (5 : Int) else ((l.length / 6 : Nat) : Int)))) + 1 ∧ 0 ≤ xf ∧ xf < ((1 + (if (5 : Int) < ((l.length / 6 : Nat) : Int) then (5 : Int) else ((l.length / 6 : Nat) : Int)))) + 1 ∧ 0 ≤ xg ∧ xg < 9 + (i : Int) ∨ xe = 3 ∧ 0 ≤ xg ∧ xg < 9 + (i : Int) ∧ xt = 0 ∧ xf = 0 ∨ xe = 4 ∧ 1 ≤ xt ∧ xt < 33554432 ∧ xf = 0 ∧ xg = 0)) ∧ (in64 dd.n)) (fun jn84 => ?_) ?_
            · skip
              refine wk_if 0 1 (v := (r82 == 0)) rfl rfl rfl rfl (fun c85b => ?_) (fun c85b => ?_)
              · have c85 := c85b
                try simp only [BS] at c85
                refine wk_region ?_
                refine wro 2 0 [] 129 130 [] [(129, (.pointer (some ⟨b80, 0, none⟩))), (130, (.int .i64 (1 + (if (5 : Int) < ((l.length / 6 : Nat) : Int) then (5 : Int) else ((l.length / 6 : Nat) : Int)))))] trivial (by kernel_rfl) rfl fun gg86 => ?_
                refine wo_call (ap_call rfl rfl rfl) rfl rfl (m4.next_c ex (⟨dm82.n⟩ : DigT) (1 + (if (5 : Int) < ((l.length / 6 : Nat) : Int) then (5 : Int) else ((l.length / 6 : Nat) : Int))) (HS.callOwn hs82 (i := 8) rfl) (by first | omega | (dsimp only; omega)) (by first | omega | (dsimp only; omega)) hT (by first | omega | (dsimp only; omega))) ?_
                rintro _ H87 ⟨r87, dm87, F87, hF87, hs87, rfl, gm87_0, h87⟩
                replace hs87 := HS.backOwn hs82 (i := 8) rfl rfl (fun _ hb => hb) hs87
                have hs87 : HS _ _ _ [_, _, _, _, _, _, _, _, [(b80, .cells [(.int .i64 dm87.n)] none false)]] _ := hs87
                replace hT := hT.mono hF87
                replace hl := hl.mono hF87
                replace hr44 := hr44.mono hF87
                replace lrh53_1_2 := lrh53_1_2.mono hF87
                replace lrh59_6_0 := lrh59_6_0.mono hF87
                refine wro 2 3 [] 132 133 [] [(132, (.int .i64 (1 + r87))), (133, (.pointer (some ⟨b56, 1, none⟩)))] (vA (vi (n := 1 + r87) (by first | omega | (dsimp only; omega))) trivial) (by kernel_rfl) rfl fun gg88 => ?_
                refine wo_rk (rs_rec (q := 6) hs87 rfl rfl rfl rfl rfl rfl rfl rfl rfl) rfl ?_
                rintro _ H89 _ ⟨hs89, _⟩
                have hs89 : HS _ _ _ [_, _, _, _, _, _, [(b56, .cells [(.slice lra59_6_0 xi.length lrk59_6_0), (.int .i64 1), (.int .i64 0), (.int .i64 0), (.int .i64 0)] none false)], _, _] _ := hs89
                refine wro 1 6 [] 134 134 [] [(134, (.pointer (some ⟨b56, 3, none⟩)))] trivial (by kernel_rfl) rfl fun gg90 => ?_
                refine wo_rk (rs_rec (q := 6) hs89 rfl rfl rfl rfl rfl rfl rfl rfl rfl) rfl ?_
                rintro _ H91 _ ⟨hs91, _⟩
                have hs91 : HS _ _ _ [_, _, _, _, _, _, [(b56, .cells [(.slice lra59_6_0 xi.length lrk59_6_0), (.int .i64 1), (.int .i64 0), (.int .i64 (1 + r87)), (.int .i64 0)] none false)], _, _] _ := hs91
                refine wo_end 0 rfl ?_
                exact jn84 _ _ ⟨1, 0, 1 + r87, 0, (⟨dm87.n⟩ : DigT), _, (hF87), hs91, (agC rfl (agC rfl (agC rfl (agC rfl (agC rfl (agC rfl (agC rfl (agC rfl (agC rfl (agC rfl (agC rfl (agC rfl (agC rfl (agC rfl (agC rfl (agC rfl (agC rfl agN))))))))))))))))), (by first | assumption | omega | (simp at *; omega)), (by first | assumption | omega | (simp at *; omega))⟩
              · have c85 := c85b
                try simp only [BS] at c85
                refine wr 1 [] 135 136 [] [(135, (.bool (r82 == 1)))] trivial (by kernel_rfl) rfl fun gg92 => ?_
                refine wk_if 0 1 (v := (r82 == 1)) rfl rfl rfl rfl (fun c93b => ?_) (fun c93b => ?_)
                · have c93 := c93b
                  try simp only [BS] at c93
                  refine wk_region ?_
                  refine wm (.pointer (some ⟨b80, 0, none⟩)) rfl rfl rfl ?_
                  refine wo_call (ap_call rfl rfl rfl) rfl rfl (m4.next_c ex (⟨dm82.n⟩ : DigT) (9) (HS.callOwn hs82 (i := 8) rfl) (by first | omega | (dsimp only; omega)) (by first | omega | (dsimp only; omega)) hT (by first | omega | (dsimp only; omega))) ?_
                  rintro _ H94 ⟨r94, dm94, F94, hF94, hs94, rfl, gm94_0, h94⟩
                  replace hs94 := HS.backOwn hs82 (i := 8) rfl rfl (fun _ hb => hb) hs94
                  have hs94 : HS _ _ _ [_, _, _, _, _, _, _, _, [(b80, .cells [(.int .i64 dm94.n)] none false)]] _ := hs94
                  replace hT := hT.mono hF94
                  replace hl := hl.mono hF94
                  replace hr44 := hr44.mono hF94
                  replace lrh53_1_2 := lrh53_1_2.mono hF94
                  replace lrh59_6_0 := lrh59_6_0.mono hF94
                  refine wro 2 2 [] 139 140 [] [(139, (.int .i64 (1 + r94))), (140, (.pointer (some ⟨b56, 1, none⟩)))] (vA (vi (n := 1 + r94) (by first | omega | (dsimp only; omega))) trivial) (by kernel_rfl) rfl fun gg95 => ?_
                  refine wo_rk (rs_rec (q := 6) hs94 rfl rfl rfl rfl rfl rfl rfl rfl rfl) rfl ?_
                  rintro _ H96 _ ⟨hs96, _⟩
                  have hs96 : HS _ _ _ [_, _, _, _, _, _, [(b56, .cells [(.slice lra59_6_0 xi.length lrk59_6_0), (.int .i64 4), (.int .i64 0), (.int .i64 0), (.int .i64 0)] none false)], _, _] _ := hs96
                  refine wro 1 5 [] 141 141 [] [(141, (.pointer (some ⟨b56, 3, none⟩)))] trivial (by kernel_rfl) rfl fun gg97 => ?_
                  refine wo_rk (rs_rec (q := 6) hs96 rfl rfl rfl rfl rfl rfl rfl rfl rfl) rfl ?_
                  rintro _ H98 _ ⟨hs98, _⟩
                  have hs98 : HS _ _ _ [_, _, _, _, _, _, [(b56, .cells [(.slice lra59_6_0 xi.length lrk59_6_0), (.int .i64 4), (.int .i64 0), (.int .i64 (1 + r94)), (.int .i64 0)] none false)], _, _] _ := hs98
                  refine wo_end 0 rfl ?_
                  exact jn84 _ _ ⟨4, 0, 1 + r94, 0, (⟨dm94.n⟩ : DigT), _, (hF94), hs98, (agC rfl (agC rfl (agC rfl (agC rfl (agC rfl (agC rfl (agC rfl (agC rfl (agC rfl (agC rfl (agC rfl (agC rfl (agC rfl (agC rfl (agC rfl (agC rfl (agC rfl agN))))))))))))))))), (by first | assumption | omega | (simp at *; omega)), (by first | assumption | omega | (simp at *; omega))⟩
                · have c93 := c93b
                  try simp only [BS] at c93
                  refine wr 1 [] 142 143 [] [(142, (.bool (r82 == 2)))] trivial (by kernel_rfl) rfl fun gg99 => ?_
                  refine wk_if 0 0 (v := (r82 == 2)) rfl rfl rfl rfl (fun c100b => ?_) (fun c100b => ?_)
                  · have c100 := c100b
                    try simp only [BS] at c100
                    refine wk_region ?_
                    refine wro 3 0 [(2, .o (.int .i64 (9 + (i : Int))))] 144 146 [] [(144, (.pointer (some ⟨b80, 0, none⟩))), (146, (.int .i64 (9 + (i : Int))))] (vA (ql 3 1 (HS.hc hs82 (i := 1) rfl) rfl rfl) trivial) (by kernel_rfl) rfl fun gg101 => ?_
                    refine wo_call (ap_call rfl rfl rfl) rfl rfl (m4.next_c ex (⟨dm82.n⟩ : DigT) (9 + (i : Int)) (HS.callOwn hs82 (i := 8) rfl) (by first | omega | (dsimp only; omega)) (by first | omega | (dsimp only; omega)) hT (by first | omega | (dsimp only; omega))) ?_
                    rintro _ H102 ⟨r102, dm102, F102, hF102, hs102, rfl, gm102_0, h102⟩
                    replace hs102 := HS.backOwn hs82 (i := 8) rfl rfl (fun _ hb => hb) hs102
                    have hs102 : HS _ _ _ [_, _, _, _, _, _, _, _, [(b80, .cells [(.int .i64 dm102.n)] none false)]] _ := hs102
                    replace hT := hT.mono hF102
                    replace hl := hl.mono hF102
                    replace hr44 := hr44.mono hF102
                    replace lrh53_1_2 := lrh53_1_2.mono hF102
                    replace lrh59_6_0 := lrh59_6_0.mono hF102
                    refine wro 1 4 [] 148 148 [] [(148, (.pointer (some ⟨b56, 1, none⟩)))] trivial (by kernel_rfl) rfl fun gg103 => ?_
                    refine wo_rk (rs_rec (q := 6) hs102 rfl rfl rfl rfl rfl rfl rfl rfl rfl) rfl ?_
                    rintro _ H104 _ ⟨hs104, _⟩
                    have hs104 : HS _ _ _ [_, _, _, _, _, _, [(b56, .cells [(.slice lra59_6_0 xi.length lrk59_6_0), (.int .i64 3), (.int .i64 0), (.int .i64 0), (.int .i64 0)] none false)], _, _] _ := hs104
                    refine wro 1 6 [] 149 149 [] [(149, (.pointer (some ⟨b56, 2, none⟩)))] trivial (by kernel_rfl) rfl fun gg105 => ?_
                    refine wo_rk (rs_rec (q := 6) hs104 rfl rfl rfl rfl rfl rfl rfl rfl rfl) rfl ?_
                    rintro _ H106 _ ⟨hs106, _⟩
                    have hs106 : HS _ _ _ [_, _, _, _, _, _, [(b56, .cells [(.slice lra59_6_0 xi.length lrk59_6_0), (.int .i64 3), (.int .i64 r102), (.int .i64 0), (.int .i64 0)] none false)], _, _] _ := hs106
                    refine wo_end 0 rfl ?_
                    exact jn84 _ _ ⟨3, r102, 0, 0, (⟨dm102.n⟩ : DigT), _, (hF102), hs106, (agC rfl (agC rfl (agC rfl (agC rfl (agC rfl (agC rfl (agC rfl (agC rfl (agC rfl (agC rfl (agC rfl (agC rfl (agC rfl (agC rfl (agC rfl (agC rfl (agC rfl agN))))))))))))))))), (by first | assumption | omega | (simp at *; omega)), (by first | assumption | omega | (simp at *; omega))⟩
                  · have c100 := c100b
                    try simp only [BS] at c100
                    refine wk_region ?_
                    refine wro 3 0 [(2, .o (.int .i64 (9 + (i : Int))))] 111 113 [] [(111, (.pointer (some ⟨b80, 0, none⟩))), (113, (.int .i64 (9 + (i : Int))))] (vA (ql 3 1 (HS.hc hs82 (i := 1) rfl) rfl rfl) trivial) (by kernel_rfl) rfl fun gg107 => ?_
                    refine wo_call (ap_call rfl rfl rfl) rfl rfl (m4.next_c ex (⟨dm82.n⟩ : DigT) (9 + (i : Int)) (HS.callOwn hs82 (i := 8) rfl) (by first | omega | (dsimp only; omega)) (by first | omega | (dsimp only; omega)) hT (by first | omega | (dsimp only; omega))) ?_
                    rintro _ H108 ⟨r108, dm108, F108, hF108, hs108, rfl, gm108_0, h108⟩
                    replace hs108 := HS.backOwn hs82 (i := 8) rfl rfl (fun _ hb => hb) hs108
                    have hs108 : HS _ _ _ [_, _, _, _, _, _, _, _, [(b80, .cells [(.int .i64 dm108.n)] none false)]] _ := hs108
                    replace hT := hT.mono hF108
                    replace hl := hl.mono hF108
                    replace hr44 := hr44.mono hF108
                    replace lrh53_1_2 := lrh53_1_2.mono hF108
                    replace lrh59_6_0 := lrh59_6_0.mono hF108
                    refine wro 2 4 [] 115 116 [] [(115, (.pointer (some ⟨b80, 0, none⟩))), (116, (.int .i64 (1 + (if (5 : Int) < ((l.length / 6 : Nat) : Int) then (5 : Int) else ((l.length / 6 : Nat) : Int)))))] trivial (by kernel_rfl) rfl fun gg109 => ?_
                    refine wo_call (ap_call rfl rfl rfl) rfl rfl (m4.next_c ex (⟨dm108.n⟩ : DigT) (1 + (if (5 : Int) < ((l.length / 6 : Nat) : Int) then (5 : Int) else ((l.length / 6 : Nat) : Int))) (HS.callOwn hs108 (i := 8) rfl) (by first | omega | (dsimp only; omega)) (by first | omega | (dsimp only; omega)) hT (by first | omega | (dsimp only; omega))) ?_
                    rintro _ H110 ⟨r110, dm110, F110, hF110, hs110, rfl, gm110_0, h110⟩
                    replace hs110 := HS.backOwn hs108 (i := 8) rfl rfl (fun _ hb => hb) hs110
                    have hs110 : HS _ _ _ [_, _, _, _, _, _, _, _, [(b80, .cells [(.int .i64 dm110.n)] none false)]] _ := hs110
                    replace hT := hT.mono hF110
                    replace hl := hl.mono hF110
                    replace hr44 := hr44.mono hF110
                    replace lrh53_1_2 := lrh53_1_2.mono hF110
                    replace lrh59_6_0 := lrh59_6_0.mono hF110
                    refine wro 3 7 [] 118 120 [] [(118, (.int .i64 (1 + r110))), (119, (.pointer (some ⟨b80, 0, none⟩))), (120, (.int .i64 (1 + (if (5 : Int) < ((l.length / 6 : Nat) : Int) then (5 : Int) else ((l.length / 6 : Nat) : Int)))))] (vA (vi (n := 1 + r110) (by first | omega | (dsimp only; omega))) trivial) (by kernel_rfl) rfl fun gg111 => ?_
                    refine wo_call (ap_call rfl rfl rfl) rfl rfl (m4.next_c ex (⟨dm110.n⟩ : DigT) (1 + (if (5 : Int) < ((l.length / 6 : Nat) : Int) then (5 : Int) else ((l.length / 6 : Nat) : Int))) (HS.callOwn hs110 (i := 8) rfl) (by first | omega | (dsimp only; omega)) (by first | omega | (dsimp only; omega)) hT (by first | omega | (dsimp only; omega))) ?_
                    rintro _ H112 ⟨r112, dm112, F112, hF112, hs112, rfl, gm112_0, h112⟩
                    replace hs112 := HS.backOwn hs110 (i := 8) rfl rfl (fun _ hb => hb) hs112
                    have hs112 : HS _ _ _ [_, _, _, _, _, _, _, _, [(b80, .cells [(.int .i64 dm112.n)] none false)]] _ := hs112
                    replace hT := hT.mono hF112
                    replace hl := hl.mono hF112
                    replace hr44 := hr44.mono hF112
                    replace lrh53_1_2 := lrh53_1_2.mono hF112
                    replace lrh59_6_0 := lrh59_6_0.mono hF112
                    refine wro 2 11 [] 122 123 [] [(122, (.int .i64 (1 + r112))), (123, (.pointer (some ⟨b56, 1, none⟩)))] (vA (vi (n := 1 + r112) (by first | omega | (dsimp only; omega))) trivial) (by kernel_rfl) rfl fun gg113 => ?_
                    refine wo_rk (rs_rec (q := 6) hs112 rfl rfl rfl rfl rfl rfl rfl rfl rfl) rfl ?_
                    rintro _ H114 _ ⟨hs114, _⟩
                    have hs114 : HS _ _ _ [_, _, _, _, _, _, [(b56, .cells [(.slice lra59_6_0 xi.length lrk59_6_0), (.int .i64 2), (.int .i64 0), (.int .i64 0), (.int .i64 0)] none false)], _, _] _ := hs114
                    refine wro 1 14 [] 124 124 [] [(124, (.pointer (some ⟨b56, 2, none⟩)))] trivial (by kernel_rfl) rfl fun gg115 => ?_
                    refine wo_rk (rs_rec (q := 6) hs114 rfl rfl rfl rfl rfl rfl rfl rfl rfl) rfl ?_
                    rintro _ H116 _ ⟨hs116, _⟩
                    have hs116 : HS _ _ _ [_, _, _, _, _, _, [(b56, .cells [(.slice lra59_6_0 xi.length lrk59_6_0), (.int .i64 2), (.int .i64 r108), (.int .i64 0), (.int .i64 0)] none false)], _, _] _ := hs116
                    refine wro 1 16 [] 125 125 [] [(125, (.pointer (some ⟨b56, 3, none⟩)))] trivial (by kernel_rfl) rfl fun gg117 => ?_
                    refine wo_rk (rs_rec (q := 6) hs116 rfl rfl rfl rfl rfl rfl rfl rfl rfl) rfl ?_
                    rintro _ H118 _ ⟨hs118, _⟩
                    have hs118 : HS _ _ _ [_, _, _, _, _, _, [(b56, .cells [(.slice lra59_6_0 xi.length lrk59_6_0), (.int .i64 2), (.int .i64 r108), (.int .i64 (1 + r110)), (.int .i64 0)] none false)], _, _] _ := hs118
                    refine wro 1 18 [] 126 126 [] [(126, (.pointer (some ⟨b56, 4, none⟩)))] trivial (by kernel_rfl) rfl fun gg119 => ?_
                    refine wo_rk (rs_rec (q := 6) hs118 rfl rfl rfl rfl rfl rfl rfl rfl rfl) rfl ?_
                    rintro _ H120 _ ⟨hs120, _⟩
                    have hs120 : HS _ _ _ [_, _, _, _, _, _, [(b56, .cells [(.slice lra59_6_0 xi.length lrk59_6_0), (.int .i64 2), (.int .i64 r108), (.int .i64 (1 + r110)), (.int .i64 (1 + r112))] none false)], _, _] _ := hs120
                    refine wo_end 0 rfl ?_
                    exact jn84 _ _ ⟨2, r108, 1 + r110, 1 + r112, (⟨dm112.n⟩ : DigT), _, (Fz.le_trans (Fz.le_trans (hF108) hF110) hF112), hs120, (agC rfl (agC rfl (agC rfl (agC rfl (agC rfl (agC rfl (agC rfl (agC rfl (agC rfl (agC rfl (agC rfl (agC rfl (agC rfl (agC rfl (agC rfl (agC rfl (agC rfl agN))))))))))))))))), (by first | assumption | omega | (simp at *; omega)), (by first | assumption | omega | (simp at *; omega))⟩
            · skip
              rintro f84 H84 ⟨xe, xg, xt, xf, dd, F84, hF84, hs84, hf84, hD, hdd⟩
              refine wk_canon _ hf84 (fun gg84 => ?_)
              clear hf84
              replace hT := hT.mono hF84
              replace hl := hl.mono hF84
              replace hr44 := hr44.mono hF84
              replace lrh53_1_2 := lrh53_1_2.mono hF84
              replace lrh59_6_0 := lrh59_6_0.mono hF84
              refine wk_foc 4 rfl ?_
              refine wr 1 [(6, .o (.int .i64 xe))] 150 158 [] [(158, (.bool (((b : Int) == (1 + (if (5 : Int) < ((l.length / 6 : Nat) : Int) then (5 : Int) else ((l.length / 6 : Nat) : Int))) - 1) && (xe == 1))))] (vA (vi (n := (1 + (if (5 : Int) < ((l.length / 6 : Nat) : Int) then (5 : Int) else ((l.length / 6 : Nat) : Int))) - 1) (by first | omega | (dsimp only; omega))) (vA (fun (g1 : ((b : Int) == (1 + (if (5 : Int) < ((l.length / 6 : Nat) : Int) then (5 : Int) else ((l.length / 6 : Nat) : Int))) - 1) = true) => (ql 3 1 (HS.hc hs84 (i := 6) rfl) rfl rfl)) trivial)) (by kernel_rfl) rfl fun gg121 => ?_
              refine wk_join (fun f H' => ∃ (ye : Int) (yg : Int) (yt : Int) (F' : Fz), Fz.le F84 F' ∧ HS (Base.of H []) F' H' [[(b1, .cells [(.int .i64 0), (.int .i64 0), (.slice none 0 0)] none false)], [(b4, .cells [(.int .i64 params), (.int .i64 (9 + (i : Int))), (.slice lra53_1_2 bl.length lrk53_1_2)] none false)], [(b15, .cells [(.slice lra18_2_0 fi.length lrk18_2_0), (.int .i64 1), (.int .i64 0), (.int .i64 1), (.int .i64 0)] none false)], [], p45, lrp53_1_2, [(b56, .cells [(.slice lra59_6_0 xi.length lrk59_6_0), (.int .i64 ye), (.int .i64 yg), (.int .i64 yt), (.int .i64 xf)] none false)], lrp59_6_0, [(b80, .cells [(.int .i64 dd.n)] none false)]] R ∧ agrees f [(0, (.slice a_l l.length k_l)), (4, (.pointer (some ⟨b1, 0, none⟩))), (5, (.pointer (some ⟨b4, 0, none⟩))), (6, (.int .i64 (1 + (if (5 : Int) < ((l.length / 6 : Nat) : Int) then (5 : Int) else ((l.length / 6 : Nat) : Int))))), (11, (.int .i64 (b : Int))), (12, (.pointer (some ⟨b56, 0, none⟩))), (13, (.int .i64 (k : Int))), (14, (.int .i64 nn)), (15, (.pointer (some ⟨b80, 0, none⟩))), (64, (.bool (decide ((b : Int) < 1 + (if (5 : Int) < ((l.length / 6 : Nat) : Int) then (5 : Int) else ((l.length / 6 : Nat) : Int)))))), (77, (.bool ((decide ((k : Int) < 5)) && (decide ((6 * (b : Int)) + (k : Int) < (l.length : Int)))))), (99, (.bool (decide ((6 * (b : Int)) + 5 < (l.length : Int))))), (107, (.agg ⟨[(.int .i64 nn)]⟩)), (108, (.pointer (some ⟨b80, 0, none⟩))), (109, (.pointer (some ⟨b80, 0, none⟩))), (110, (.int .i64 r82)), (127, (.bool (r82 == 0))), (158, (.bool (((b : Int) == (1 + (if (5 : Int) < ((l.length / 6 : Nat) : Int) then (5 : Int) else ((l.length / 6 : Nat) : Int))) - 1) && (xe == 1))))] ∧ ((ye = 1 ∧ 0 ≤ yt ∧ yt < ((1 + (if (5 : Int) < ((l.length / 6 : Nat) : Int) then (5 : Int) else ((l.length / 6 : Nat) : Int)))) + 1 ∧ xf = 0 ∧ yg = 0 ∨ ye = 2 ∧ 0 ≤ yt ∧ yt < ((1 + (if (5 : Int) < ((l.length / 6 : Nat) : Int) then (5 : Int) else ((l.length / 6 : Nat) : Int)))) + 1 ∧ 0 ≤ xf ∧ xf < ((1 + (if (5 : Int) < ((l.length / 6 : Nat) : Int) then (5 : Int) else ((l.length / 6 : Nat) : Int)))) + 1 ∧ 0 ≤ yg ∧ yg < 9 + (i : Int) ∨ ye = 3 ∧ 0 ≤ yg ∧ yg < 9 + (i : Int) ∧ yt = 0 ∧ xf = 0 ∨ ye = 4 ∧ 1 ≤ yt ∧ yt < 33554432 ∧ xf = 0 ∧ yg = 0))) (fun jn122 => ?_) ?_
              · skip
                refine wk_if 0 0 (v := (((b : Int) == (1 + (if (5 : Int) < ((l.length / 6 : Nat) : Int) then (5 : Int) else ((l.length / 6 : Nat) : Int))) - 1) && (xe == 1))) rfl rfl rfl rfl (fun c123b => ?_) (fun c123b => ?_)
                · have c123 := c123b
                  try simp only [BS] at c123
                  refine wk_region ?_
                  refine wro 1 0 [] 159 159 [] [(159, (.pointer (some ⟨b56, 1, none⟩)))] trivial (by kernel_rfl) rfl fun gg124 => ?_
                  refine wo_rk (rs_rec (q := 6) hs84 rfl rfl rfl rfl rfl rfl rfl rfl rfl) rfl ?_
                  rintro _ H125 _ ⟨hs125, _⟩
                  have hs125 : HS _ _ _ [_, _, _, _, _, _, [(b56, .cells [(.slice lra59_6_0 xi.length lrk59_6_0), (.int .i64 3), (.int .i64 xg), (.int .i64 xt), (.int .i64 xf)] none false)], _, [(b80, .cells [(.int .i64 dd.n)] none false)]] _ := hs125
                  refine wro 1 2 [] 160 160 [] [(160, (.pointer (some ⟨b56, 3, none⟩)))] trivial (by kernel_rfl) rfl fun gg126 => ?_
                  refine wo_rk (rs_rec (q := 6) hs125 rfl rfl rfl rfl rfl rfl rfl rfl rfl) rfl ?_
                  rintro _ H127 _ ⟨hs127, _⟩
                  have hs127 : HS _ _ _ [_, _, _, _, _, _, [(b56, .cells [(.slice lra59_6_0 xi.length lrk59_6_0), (.int .i64 3), (.int .i64 xg), (.int .i64 0), (.int .i64 xf)] none false)], _, _] _ := hs127
                  refine wro 1 4 [] 161 161 [] [(161, (.pointer (some ⟨b56, 2, none⟩)))] trivial (by kernel_rfl) rfl fun gg128 => ?_
                  refine wo_rk (rs_rec (q := 6) hs127 rfl rfl rfl rfl rfl rfl rfl rfl rfl) rfl ?_
                  rintro _ H129 _ ⟨hs129, _⟩
                  have hs129 : HS _ _ _ [_, _, _, _, _, _, [(b56, .cells [(.slice lra59_6_0 xi.length lrk59_6_0), (.int .i64 3), (.int .i64 0), (.int .i64 0), (.int .i64 xf)] none false)], _, _] _ := hs129
                  refine wo_end 0 rfl ?_
                  exact jn122 _ _ ⟨3, 0, 0, _, (Fz.le_refl _), hs129, (agC rfl (agC rfl (agC rfl (agC rfl (agC rfl (agC rfl (agC rfl (agC rfl (agC rfl (agC rfl (agC rfl (agC rfl (agC rfl (agC rfl (agC rfl (agC rfl (agC rfl (agC rfl agN)))))))))))))))))), (by first | assumption | omega | (simp at *; omega))⟩
                · have c123 := c123b
                  try simp only [BS] at c123
                  exact jn122 _ _ ⟨xe, xg, xt, _, (Fz.le_refl _), hs84, (agC rfl (agC rfl (agC rfl (agC rfl (agC rfl (agC rfl (agC rfl (agC rfl (agC rfl (agC rfl (agC rfl (agC rfl (agC rfl (agC rfl (agC rfl (agC rfl (agC rfl (agC rfl agN)))))))))))))))))), (by first | assumption | omega | (simp at *; omega))⟩
              · skip
                rintro f122 H122 ⟨ye, yg, yt, F122, hF122, hs122, hf122, hY⟩
                refine wk_canon _ hf122 (fun gg122 => ?_)
                clear hf122
                replace hT := hT.mono hF122
                replace hl := hl.mono hF122
                replace hr44 := hr44.mono hF122
                replace lrh53_1_2 := lrh53_1_2.mono hF122
                replace lrh59_6_0 := lrh59_6_0.mono hF122
                refine wk_foc 1 rfl ?_
                refine wk_region ?_
                refine wro 3 0 [(1, .o (.slice lra53_1_2 bl.length lrk53_1_2)), (2, .o (.agg ⟨[(.slice lra59_6_0 xi.length lrk59_6_0), (.int .i64 ye), (.int .i64 yg), (.int .i64 yt), (.int .i64 xf)]⟩))] 162 164 [] [(163, (.slice lra53_1_2 bl.length lrk53_1_2)), (164, (.agg ⟨[(.slice lra59_6_0 xi.length lrk59_6_0), (.int .i64 ye), (.int .i64 yg), (.int .i64 yt), (.int .i64 xf)]⟩))] (vA (ql 22 2 (HS.hc hs122 (i := 1) rfl) rfl rfl) (vA (qn 42 0 5 (HS.hc hs122 (i := 6) rfl) rfl rfl rfl rfl) trivial)) (by kernel_rfl) rfl fun gg130 => ?_
                obtain ⟨F131, hF131, hs131, hr131, hp131⟩ := OS.frz lrh59_6_0 hs122 (i := 7) rfl
                have hs131 : HS _ _ _ [_, _, _, _, _, _, [(b56, .cells [(.slice lra59_6_0 xi.length lrk59_6_0), (.int .i64 ye), (.int .i64 yg), (.int .i64 yt), (.int .i64 xf)] none false)], [], [(b80, .cells [(.int .i64 dd.n)] none false)]] _ := hs131
                replace hT := hT.mono hF131
                replace hl := hl.mono hF131
                replace hr44 := hr44.mono hF131
                replace lrh53_1_2 := lrh53_1_2.mono hF131
                replace lrh59_6_0 := lrh59_6_0.mono hF131
                refine wo_rs (rs_lit (α := BlkT) (ps := [(0, (.agg ⟨[(.slice lra59_6_0 xi.length lrk59_6_0), (.int .i64 ye), (.int .i64 yg), (.int .i64 yt), (.int .i64 xf)]⟩))]) (cells := [(.slice lra59_6_0 xi.length lrk59_6_0), (.int .i64 ye), (.int .i64 yg), (.int .i64 yt), (.int .i64 xf)]) ([(⟨xi, ye, yg, yt, xf⟩ : BlkT)] : List BlkT) hs131 rfl rfl rfl (by kernel_rfl) ⟨[(.slice lra59_6_0 xi.length lrk59_6_0), (.int .i64 ye), (.int .i64 yg), (.int .i64 yt), (.int .i64 xf)], [], rfl, ⟨lra59_6_0, lrk59_6_0, rfl, by first | omega | (dsimp only; omega), by first | omega | (dsimp only; omega), by first | omega | (dsimp only; omega), by first | omega | (dsimp only; omega), hr131⟩, rfl⟩ rfl) rfl rfl ?_
                rintro _ H133 p132 ⟨a132, k132, rfl, ho132, hs133, _⟩
                have hs133 : HS _ _ _ [_, _, _, _, _, _, _, _, _, p132] _ := hs133
                refine wo_rs (rs_app (α := BlkT) (q := 5) lrh53_1_2 hs133 rfl rfl rfl (OS.sv ho132 hs133 (i := 9) rfl) rfl rfl rfl rfl rfl rfl rfl (by first | omega | (simp only [List.length_cons, List.length_nil]; omega))) rfl rfl ?_
                rintro _ H135 p134 ⟨a134, k134, rfl, ho134, hs135, _⟩
                have hs135 : HS _ _ _ [_, _, _, _, _, p134, _, _, _, _] _ := hs135
                refine wro 1 5 [] 167 167 [] [(167, (.pointer (some ⟨b4, 2, none⟩)))] trivial (by kernel_rfl) rfl fun gg136 => ?_
                refine wo_rk (rs_rec (q := 1) hs135 rfl rfl rfl rfl rfl rfl rfl rfl rfl) rfl ?_
                rintro _ H137 _ ⟨hs137, _⟩
                have hs137 : HS _ _ _ [_, [(b4, .cells [(.int .i64 params), (.int .i64 (9 + (i : Int))), (.slice a134 (bl ++ ([(⟨xi, ye, yg, yt, xf⟩ : BlkT)] : List BlkT)).length k134)] none false)], _, _, _, _, _, _, _, _] _ := hs137
                refine wo_end 2 rfl ?_
                refine wr 1 [] 65 66 [11] [(11, (.int .i64 ((b : Int) + 1)))] (vA (vi (n := (b : Int) + 1) (by first | omega | (dsimp only; omega))) trivial) (by kernel_rfl) rfl fun gg138 => ?_
                refine ih53 _ _ _ ?_ ⟨bl ++ ([(⟨xi, ye, yg, yt, xf⟩ : BlkT)] : List BlkT), b + 1, p134, a134, k134, _, (Fz.le_trans (Fz.le_trans (Fz.le_trans (Fz.le_trans (Fz.le_trans (hF53) hF59) hF82) hF84) hF122) hF131), (HS.sub hs137 (List.sublist_append_left _ _)), ho134, (agC rfl (agC rfl (agC rfl (agC rfl (agC rfl agN))))), rfl, (by simp; omega), (by exact all_snoc e2 (blk_mk z2 (by omega))), (by exact ins_snoc e3 (by first | omega | (dsimp only; omega))), (by exact all_snoc e5 z4), (by exact first_snoc e6 (by omega)), (by first | assumption | omega | (simp at *; omega))⟩
                omega
      · have c55 := c55b
        try simp only [BS] at c55
        refine wk_region ?_
        refine wro 1 0 [(0, .o (.agg ⟨[(.int .i64 params), (.int .i64 (9 + (i : Int))), (.slice lra53_1_2 bl.length lrk53_1_2)]⟩))] 168 168 [] [(168, (.agg ⟨[(.int .i64 params), (.int .i64 (9 + (i : Int))), (.slice lra53_1_2 bl.length lrk53_1_2)]⟩))] (vA (qn 24 0 3 (HS.hc hs53 (i := 1) rfl) rfl rfl rfl rfl) trivial) (by kernel_rfl) rfl fun gg139 => ?_
        refine wo_rk (rs_rec (q := 0) hs53 rfl rfl rfl rfl rfl rfl rfl rfl rfl) rfl ?_
        rintro _ H140 _ ⟨hs140, _⟩
        have hs140 : HS _ _ _ [[(b1, .cells [(.int .i64 params), (.int .i64 (9 + (i : Int))), (.slice lra53_1_2 bl.length lrk53_1_2)] none false)], [(b4, .cells [(.int .i64 params), (.int .i64 (9 + (i : Int))), (.slice lra53_1_2 bl.length lrk53_1_2)] none false)], _, _, _, lrp53_1_2] _ := hs140
        refine wo_end 1 rfl ?_
        obtain ⟨F141, hF141, hs141, hr141, hp141⟩ := OS.frz lrh53_1_2 hs140 (i := 5) rfl
        have hs141 : HS _ _ _ [_, _, _, _, _, []] _ := hs141
        replace hT := hT.mono hF141
        replace hl := hl.mono hF141
        replace hr44 := hr44.mono hF141
        replace lrh53_1_2 := lrh53_1_2.mono hF141
        refine wk_ret ⟨.inr rfl, _, (rC rfl (ldVN rfl rfl (HS.hc hs140 (i := 0) rfl) rfl) rN), (⟨params, 9 + (i : Int), bl⟩ : VFnT), lra53_1_2, lrk53_1_2, _, (Fz.le_trans (Fz.le_trans (Fz.le_trans (Fz.le_trans (hF9) hF18) hF44) hF53) hF141), (HS.forget hs141), rfl, (by first | omega | (dsimp only; omega)), (by first | omega | (dsimp only; omega)), hr141, (by exact ⟨val_mk (by omega) (by omega) e2, rfl, by first | omega | (dsimp only; omega), ⟨by first | omega | (dsimp only; omega), by first | omega | (dsimp only; omega)⟩, ins_at e3, e5, fi, e6, by first | omega | (dsimp only; omega), w5⟩)⟩
end Go.Proofs.YtlabedbmgmfbaaaDoor.m5
