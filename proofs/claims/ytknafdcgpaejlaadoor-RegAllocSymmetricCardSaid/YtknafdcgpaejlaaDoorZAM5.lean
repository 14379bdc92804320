/-
 The generator of virtual code, whole, by a symbolic run: what it makes is valid. No condition but that the table lies as laid.
-/
import Derived.Test.YtknafdcgpaejlaaDoorZAM4
noncomputable section
namespace Go.Proofs.YtknafdcgpaejlaaDoor.m5
open Go.R
set_option maxRecDepth 10000
set_option linter.unusedVariables false
open m1 m2 m3 m4
theorem vin_ldi {params regs r op : Int} (hr : 0 ≤ r ∧ r < regs) (ho : op = 13 ∨ op = 38 ∧ r < params) : vinV params regs ⟨⟨op, r, 0, 0, r⟩, []⟩ = true := by
 rcases ho with rfl | ⟨rfl, hp⟩
 ·
  exact vin_mk (by decide) (.inr rfl) (by simp) rfl (opOK_t (by decide) hr) (opOK_f (by decide) rfl) (opOK_f (by decide) rfl) rfl
 ·
  exact vin_mk (by decide) (.inr rfl) (by simp) rfl (opOK_t (by decide) hr) (opOK_f (by decide) rfl) (opOK_f (by decide) rfl) (decide_eq_true ⟨hr.1, hp⟩)
theorem all_snoc {α : Type} {p : α → Bool} {l : List α} {x : α} (h : l.all p = true) (hx : p x = true) : (l ++ [x]).all p = true := by rw [List.all_append, h]; simp [hx]
theorem blk_mk {params regs nb e g t f : Int} {l : List VInT} (h : l.all (vinV params regs) = true) (z : e = 1 ∧ 0 ≤ t ∧ t < nb ∧ f = 0 ∧ g = 0 ∨ e = 2 ∧ 0 ≤ t ∧ t < nb ∧ 0 ≤ f ∧ f < nb ∧ 0 ≤ g ∧ g < regs ∨ e = 3 ∧ 0 ≤ g ∧ g < regs ∧ t = 0 ∧ f = 0 ∨ e = 4 ∧ 1 ≤ t ∧ t < 33554432 ∧ f = 0 ∧ g = 0) : blkV params regs nb ⟨l, e, g, t, f⟩ = true := blk_yes h (vend_iff.2 z)
theorem ins_snoc {l : List BlkT} {x : BlkT} (h : ∀ y ∈ l, y.ins.length ≤ 11) (hx : x.ins.length ≤ 11) : ∀ y ∈ l ++ [x], y.ins.length ≤ 11 := fun y hy => by
 rcases List.mem_append.1 hy with hy | hy
 ·
  exact h y hy
 ·
  rw [List.mem_singleton] at hy; rw [hy]; exact hx
theorem ins_at {l : List BlkT} (h : ∀ y ∈ l, y.ins.length ≤ 11) (j : Nat) : (l.getD j default).ins.length ≤ 11 := by
 rw [List.getD_eq_getElem?_getD]
 rcases hj : l[j]? with _ | y
 ·
  exact Nat.zero_le _
 ·
  exact h y (List.mem_of_getElem? hj)
def fstOK (fi : List VInT) : Prop := ∀ q : Nat, q < fi.length → (fi.getD q default).i.a = q ∧ ((fi.getD q default).i.op = 13 ∨ (fi.getD q default).i.op = 38)
theorem fst_snoc {fi : List VInT} {x : VInT} (h : fstOK fi) (hx : x.i.a = (fi.length : Int) ∧ (x.i.op = 13 ∨ x.i.op = 38)) : fstOK (fi ++ [x]) := fun q hq => by
 rw [List.length_append] at hq
 simp only [List.length_cons, List.length_nil] at hq
 rcases Nat.lt_or_ge q fi.length with z | z
 ·
  rw [List.getD_eq_getElem?_getD, List.getElem?_append_left z, ← List.getD_eq_getElem?_getD]; exact h q z
 ·
  have : q = fi.length := by omega
  subst this
  rw [List.getD_eq_getElem?_getD, List.getElem?_append_right (Nat.le_refl _), Nat.sub_self]; exact hx
theorem first_snoc {l : List BlkT} {x y : BlkT} (h : l.getD 0 default = x) (hl : 0 < l.length) : (l ++ [y]).getD 0 default = x := by
 rw [List.getD_eq_getElem?_getD, List.getElem?_append_left hl, ← List.getD_eq_getElem?_getD]; exact h
theorem ck_ldi {v : VInT} (ho : v.i.op = 13 ∨ v.i.op = 38) : ckI v = true := decide_eq_true ⟨fun h => by omega, fun h => by omega⟩
structure vfG (x : VFnT) (params : Int) : Prop where
 val : valV x = true
 par : x.params = params
 reg : x.regs = 9 + params
 nb : 2 ≤ x.blocks.length ∧ x.blocks.length ≤ 7
 ins : ∀ j, (x.blocks.getD j default).ins.length ≤ 11
 ck : x.blocks.all (fun y => y.ins.all ckI) = true
 fst : ∃ fi, x.blocks.getD 0 default = ⟨fi, 1, 0, 1, 0⟩ ∧ (fi.length : Int) = x.regs ∧ fstOK fi
theorem val_mk {p r : Int} {l : List BlkT} {n : Int} (h : 0 ≤ p ∧ p ≤ 6 ∧ 0 ≤ r ∧ r ≤ 3000 ∧ 1 ≤ l.length ∧ l.length ≤ 1000) (hn : (l.length : Int) = n) (z : l.all (blkV p r n) = true) : valV ⟨p, r, l⟩ = true := by subst hn; exact (val_yes (c := ⟨p, r, l⟩) h z).symm
set_option maxHeartbeats 2000000 in
theorem vf_c (ex : FuncId) {a_l : Option Addr} {k_l : Nat} (l : List Int) (params : Int) {F : Fz} {H : Heap} {R : List Fp} (hs : HS (.of H []) F H [] R) (hl : SR F (.slice a_l l.length k_l) l) (hT : TB 37 tabC F) (hp : 0 ≤ params ∧ params ≤ 2) (hbl : l.length ≤ 1000) : C Tryd.prog 1 (KT 60 ex 37 tabC) 16 [(.slice a_l l.length k_l), (.int .i64 params)] H fun v H' => ∃ (x : VFnT) (b9 : Option Addr) (cJ : Nat) (F' : Fz), Fz.le F F' ∧ HS (.of H []) F' H' [] R ∧ v = .agg ⟨[.int .i64 x.params, .int .i64 x.regs, .slice b9 x.blocks.length cJ]⟩ ∧ in64 x.params ∧ in64 x.regs ∧ SR F' (.slice b9 x.blocks.length cJ) x.blocks ∧ (vfG x params) := by
 refine c_enter Tryd.func16 rfl rfl ?_
 refine wk_foc 1 rfl ?_
 refine wk_region ?_
 refine wo_rs (rs_new hs rfl) rfl rfl ?_
 rintro _ H2 _ ⟨b1, rfl, cx, _⟩
 have cx : HS _ _ _ [[(b1, .cells [(.int .i64 0), (.int .i64 0), (.slice none 0 0)] none false)]] _ := cx
 refine wo_end 2 rfl ?_
 refine wk_region ?_
 refine wro 2 0 [] 16 17 [] [(17, (.agg ⟨[(.int .i64 params), (.int .i64 9), (.slice none 0 0)]⟩))] trivial (by kernel_rfl) rfl fun _ => ?_
 refine wo_rs (rs_new cx rfl) rfl rfl ?_
 rintro _ H5 _ ⟨b4, rfl, cy, _⟩
 have cy : HS _ _ _ [_, [(b4, .cells [(.int .i64 0), (.int .i64 0), (.slice none 0 0)] none false)]] _ := cy
 refine wo_rk (rs_rec (q := 1) cy rfl rfl rfl rfl rfl rfl rfl rfl rfl) rfl ?_
 rintro _ H6 _ ⟨cz, _⟩
 have cz : HS _ _ _ [_, [(b4, .cells [(.int .i64 params), (.int .i64 9), (.slice none 0 0)] none false)]] _ := cz
 refine wo_end 2 rfl ?_
 refine wr 3 [] 18 22 [6] [(6, (.int .i64 (1 + (if (5 : Int) < ((l.length / 6 : Nat) : Int) then (5 : Int) else ((l.length / 6 : Nat) : Int)))))] (vA (vA (show (6 : Int) ≠ 0 from by decide) (vi (n := ((l.length / 6 : Nat) : Int)) (by first | omega | (dsimp only; omega)))) (vA (vi (n := 1 + (if (5 : Int) < ((l.length / 6 : Nat) : Int) then (5 : Int) else ((l.length / 6 : Nat) : Int))) (by first | omega | (dsimp only; omega))) trivial)) (by kernel_rfl) rfl fun _ => ?_
 have hM : 1 ≤ (1 + (if (5 : Int) < ((l.length / 6 : Nat) : Int) then (5 : Int) else ((l.length / 6 : Nat) : Int))) ∧ (1 + (if (5 : Int) < ((l.length / 6 : Nat) : Int) then (5 : Int) else ((l.length / 6 : Nat) : Int))) ≤ 6 := by omega
 refine wr 2 [] 1 0 [7] [(7, (.int .i64 0))] trivial (by kernel_rfl) rfl fun _ => ?_
 refine wk_loop_inv (fun (mm : Nat) f H' => ∃ (i : Nat) (F' : Fz), Fz.le F F' ∧ HS (Base.of H []) F' H' [[(b1, .cells [(.int .i64 0), (.int .i64 0), (.slice none 0 0)] none false)], [(b4, .cells [(.int .i64 params), (.int .i64 (9 + (i : Int))), (.slice none 0 0)] none false)]] R ∧ agrees f [(0, (.slice a_l l.length k_l)), (1, (.int .i64 params)), (4, (.pointer (some ⟨b1, 0, none⟩))), (5, (.pointer (some ⟨b4, 0, none⟩))), (6, (.int .i64 (1 + (if (5 : Int) < ((l.length / 6 : Nat) : Int) then (5 : Int) else ((l.length / 6 : Nat) : Int))))), (7, (.int .i64 (i : Int)))] ∧ mm = (params - (i : Int)).toNat ∧ ((i : Int) ≤ params)) _ ⟨0, _, (Fz.le_refl _), cz, (agC rfl (agC rfl (agC rfl (agC rfl (agC rfl (agC rfl agN)))))), rfl, (by first | assumption | omega | (simp at *; omega))⟩ ?_
 rintro fP f9 H9 ⟨i, F9, bX, cB, c6, rfl, q1⟩ dR
 refine wk_canon _ c6 (fun _ => ?_)
 clear c6
 replace hT := hT.mono bX
 replace hl := hl.mono bX
 refine wk_foc 2 rfl ?_
 refine wr 1 [] 23 25 [] [(25, (.bool (decide ((i : Int) < params))))] trivial (by kernel_rfl) rfl fun _ => ?_
 refine wk_if 3 5 (v := (decide ((i : Int) < params))) rfl rfl rfl rfl (fun bb => ?_) (fun bb => ?_)
 ·
  have ca := bb
  try simp only [BS] at ca
  refine wk_region ?_
  refine wro 4 0 [(1, .o (.int .i64 (9 + (i : Int))))] 28 31 [] [(30, (.int .i64 ((9 + (i : Int)) + 1))), (31, (.pointer (some ⟨b4, 1, none⟩)))] (vA (ql 3 1 (HS.hc cB (i := 1) rfl) rfl rfl) (vA (vi (n := (9 + (i : Int)) + 1) (by first | omega | (dsimp only; omega))) trivial)) (by kernel_rfl) rfl fun _ => ?_
  refine wo_rk (rs_rec (q := 1) cB rfl rfl rfl rfl rfl rfl rfl rfl rfl) rfl ?_
  rintro _ eS _ ⟨bp, _⟩
  have bp : HS _ _ _ [_, [(b4, .cells [(.int .i64 params), (.int .i64 ((9 + (i : Int)) + 1)), (.slice none 0 0)] none false)]] _ := bp
  refine wo_end 2 rfl ?_
  refine wr 1 [] 26 27 [7] [(7, (.int .i64 ((i : Int) + 1)))] (vA (vi (n := (i : Int) + 1) (by first | omega | (dsimp only; omega))) trivial) (by kernel_rfl) rfl fun _ => ?_
  refine dR _ _ _ ?_ ⟨i + 1, _, (bX), bp, (agC rfl (agC rfl (agC rfl (agC rfl (agC rfl (agC rfl agN)))))), rfl, (by first | assumption | omega | (simp at *; omega))⟩
  omega
 ·
  have ca := bb
  try simp only [BS] at ca
  refine wk_region ?_
  refine wo_rs (rs_new cB rfl) rfl rfl ?_
  rintro _ eT _ ⟨ag, rfl, br, _⟩
  have br : HS _ _ _ [_, [(b4, .cells [(.int .i64 params), (.int .i64 (9 + (i : Int))), (.slice none 0 0)] none false)], [(ag, .cells [(.slice none 0 0), (.int .i64 0), (.int .i64 0), (.int .i64 0), (.int .i64 0)] none false)]] _ := br
  refine wo_end 3 rfl ?_
  refine wr 2 [] 1 0 [9] [(9, (.int .i64 0))] trivial (by kernel_rfl) rfl fun _ => ?_
  have bu := HS.snoc br
  have bu : HS _ _ _ [_, _, _, []] _ := bu
  refine wk_loop_inv (fun (mm : Nat) f H' => ∃ (fi : List VInT) (r : Nat) (ab : Fp) (E : Option Addr) (I : Nat) (F' : Fz), Fz.le F9 F' ∧ HS (Base.of H []) F' H' [[(b1, .cells [(.int .i64 0), (.int .i64 0), (.slice none 0 0)] none false)], [(b4, .cells [(.int .i64 params), (.int .i64 (9 + (i : Int))), (.slice none 0 0)] none false)], [(ag, .cells [(.slice E fi.length I), (.int .i64 0), (.int .i64 0), (.int .i64 0), (.int .i64 0)] none false)], ab] R ∧ OS F' (.slice E fi.length I) fi ab ∧ agrees f [(0, (.slice a_l l.length k_l)), (1, (.int .i64 params)), (4, (.pointer (some ⟨b1, 0, none⟩))), (5, (.pointer (some ⟨b4, 0, none⟩))), (6, (.int .i64 (1 + (if (5 : Int) < ((l.length / 6 : Nat) : Int) then (5 : Int) else ((l.length / 6 : Nat) : Int))))), (8, (.pointer (some ⟨ag, 0, none⟩))), (9, (.int .i64 (r : Int)))] ∧ mm = (9 + (i : Int) - (r : Int)).toNat ∧ (fi.length = r) ∧ (fi.all (vinV params (9 + (i : Int))) = true) ∧ (fi.all ckI = true) ∧ (fstOK fi) ∧ ((r : Int) ≤ 9 + (i : Int))) _ ⟨([] : List VInT), 0, [], none, 0, _, (Fz.le_refl _), bu, (OS.nil : OS F9 (.slice none 0 0) ([] : List VInT) []), (agC rfl (agC rfl (agC rfl (agC rfl (agC rfl (agC rfl (agC rfl agN))))))), rfl, (by rfl), (by rfl), (by rfl), (by intro q hq; cases hq), (by first | assumption | omega | (simp at *; omega))⟩ ?_
  rintro eJ fy eU ⟨fi, r, ab, E, I, dC, aL, bt, ah, co, rfl, w1, w2, w4, w5, w3⟩ dk
  refine wk_canon _ co (fun _ => ?_)
  clear co
  replace hT := hT.mono aL
  replace hl := hl.mono aL
  refine wk_foc 2 rfl ?_
  refine wr 1 [(2, .o (.int .i64 (9 + (i : Int))))] 32 35 [] [(35, (.bool (decide ((r : Int) < 9 + (i : Int)))))] (vA (ql 3 1 (HS.hc bt (i := 1) rfl) rfl rfl) trivial) (by kernel_rfl) rfl fun _ => ?_
  refine wk_if 4 5 (v := (decide ((r : Int) < 9 + (i : Int)))) rfl rfl rfl rfl (fun bd => ?_) (fun bd => ?_)
  ·
   have cb := bd
   try simp only [BS] at cb
   refine wk_region ?_
   refine wro 3 0 [] 38 40 [] [(40, (.agg ⟨[(.int .i64 13), (.int .i64 (r : Int)), (.int .i64 0), (.int .i64 0), (.int .i64 (r : Int))]⟩))] trivial (by kernel_rfl) rfl fun _ => ?_
   refine wo_rs (rs_new bt rfl) rfl rfl ?_
   rintro _ eV _ ⟨aH, rfl, bw, _⟩
   have bw : HS _ _ _ [_, _, [(ag, .cells [(.slice E fi.length I), (.int .i64 0), (.int .i64 0), (.int .i64 0), (.int .i64 0)] none false)], ab, [(aH, .cells [(.int .i64 0), (.int .i64 0), (.int .i64 0), (.int .i64 0), (.int .i64 0)] none false)]] _ := bw
   refine wo_rk (rs_rec (q := 4) bw rfl rfl rfl rfl rfl rfl rfl rfl rfl) rfl ?_
   rintro _ eW _ ⟨a2, _⟩
   have a2 : HS _ _ _ [_, _, _, _, [(aH, .cells [(.int .i64 13), (.int .i64 (r : Int)), (.int .i64 0), (.int .i64 0), (.int .i64 (r : Int))] none false)]] _ := a2
   refine wo_end 3 rfl ?_
   refine wr 1 [] 41 43 [] [(43, (.bool (decide ((r : Int) < params))))] trivial (by kernel_rfl) rfl fun _ => ?_
   refine wk_join (fun f H' => ∃ (vo : Int) (F' : Fz), Fz.le dC F' ∧ HS (Base.of H []) F' H' [[(b1, .cells [(.int .i64 0), (.int .i64 0), (.slice none 0 0)] none false)], [(b4, .cells [(.int .i64 params), (.int .i64 (9 + (i : Int))), (.slice none 0 0)] none false)], [(ag, .cells [(.slice E fi.length I), (.int .i64 0), (.int .i64 0), (.int .i64 0), (.int .i64 0)] none false)], ab, [(aH, .cells [(.int .i64 vo), (.int .i64 (r : Int)), (.int .i64 0), (.int .i64 0), (.int .i64 (r : Int))] none false)]] R ∧ agrees f [(0, (.slice a_l l.length k_l)), (1, (.int .i64 params)), (4, (.pointer (some ⟨b1, 0, none⟩))), (5, (.pointer (some ⟨b4, 0, none⟩))), (6, (.int .i64 (1 + (if (5 : Int) < ((l.length / 6 : Nat) : Int) then (5 : Int) else ((l.length / 6 : Nat) : Int))))), (8, (.pointer (some ⟨ag, 0, none⟩))), (9, (.int .i64 (r : Int))), (10, (.pointer (some ⟨aH, 0, none⟩))), (35, (.bool (decide ((r : Int) < 9 + (i : Int))))), (40, (.agg ⟨[(.int .i64 13), (.int .i64 (r : Int)), (.int .i64 0), (.int .i64 0), (.int .i64 (r : Int))]⟩)), (43, (.bool (decide ((r : Int) < params))))] ∧ (vo = 13 ∨ vo = 38 ∧ (r : Int) < params)) (fun cE => ?_) ?_
   ·
    refine wk_if 0 0 (v := (decide ((r : Int) < params))) rfl rfl rfl rfl (fun be => ?_) (fun be => ?_)
    ·
     have cc := be
     try simp only [BS] at cc
     refine wk_region ?_
     refine wro 3 0 [] 44 46 [] [(46, (.agg ⟨[(.int .i64 38), (.int .i64 (r : Int)), (.int .i64 0), (.int .i64 0), (.int .i64 (r : Int))]⟩))] trivial (by kernel_rfl) rfl fun _ => ?_
     refine wo_rk (rs_rec (q := 4) a2 rfl rfl rfl rfl rfl rfl rfl rfl rfl) rfl ?_
     rintro _ eY _ ⟨bz, _⟩
     have bz : HS _ _ _ [_, _, _, _, [(aH, .cells [(.int .i64 38), (.int .i64 (r : Int)), (.int .i64 0), (.int .i64 0), (.int .i64 (r : Int))] none false)]] _ := bz
     refine wo_end 0 rfl ?_
     exact cE _ _ ⟨38, _, (Fz.le_refl _), bz, (agC rfl (agC rfl (agC rfl (agC rfl (agC rfl (agC rfl (agC rfl (agC rfl (agC rfl (agC rfl (agC rfl agN))))))))))), (by first | assumption | omega | (simp at *; omega))⟩
    ·
     have cc := be
     try simp only [BS] at cc
     exact cE _ _ ⟨13, _, (Fz.le_refl _), a2, (agC rfl (agC rfl (agC rfl (agC rfl (agC rfl (agC rfl (agC rfl (agC rfl (agC rfl (agC rfl (agC rfl agN))))))))))), (by first | assumption | omega | (simp at *; omega))⟩
   ·
    rintro fA eX ⟨vo, eN, cm, bx, cp, hvo⟩
    refine wk_canon _ cp (fun _ => ?_)
    clear cp
    replace ah := ah.mono cm
    refine wk_foc 1 rfl ?_
    refine wk_region ?_
    refine wro 4 0 [(1, .o (.slice E fi.length I)), (2, .o (.agg ⟨[(.int .i64 vo), (.int .i64 (r : Int)), (.int .i64 0), (.int .i64 0), (.int .i64 (r : Int))]⟩))] 47 50 [] [(48, (.slice E fi.length I)), (50, (.agg ⟨[(.int .i64 vo), (.int .i64 (r : Int)), (.int .i64 0), (.int .i64 0), (.int .i64 (r : Int)), (.slice none 0 0)]⟩))] (vA (ql 46 0 (HS.hc bx (i := 2) rfl) rfl rfl) (vA (qn 50 0 5 (HS.hc bx (i := 4) rfl) rfl rfl rfl rfl) trivial)) (by kernel_rfl) rfl fun _ => ?_
    refine wo_rs (rs_lit (α := VInT) (ps := [(0, (.agg ⟨[(.int .i64 vo), (.int .i64 (r : Int)), (.int .i64 0), (.int .i64 0), (.int .i64 (r : Int)), (.slice none 0 0)]⟩))]) (cells := [(.int .i64 vo), (.int .i64 (r : Int)), (.int .i64 0), (.int .i64 0), (.int .i64 (r : Int)), (.slice none 0 0)]) ([(⟨(⟨vo, (r : Int), 0, 0, (r : Int)⟩ : InsT), ([] : List Int)⟩ : VInT)] : List VInT) bx rfl rfl rfl (by kernel_rfl) ⟨[(.int .i64 vo), (.int .i64 (r : Int)), (.int .i64 0), (.int .i64 0), (.int .i64 (r : Int)), (.slice none 0 0)], [], rfl, ⟨none, 0, rfl, by first | omega | (dsimp only; omega), by first | omega | (dsimp only; omega), by first | omega | (dsimp only; omega), by first | omega | (dsimp only; omega), by first | omega | (dsimp only; omega), SR.nil⟩, rfl⟩ rfl) rfl rfl ?_
    rintro _ eZ dS ⟨fu, fM, rfl, de, a3, _⟩
    have a3 : HS _ _ _ [_, _, _, _, [(aH, .cells [(.int .i64 vo), (.int .i64 (r : Int)), (.int .i64 0), (.int .i64 0), (.int .i64 (r : Int))] none false)], dS] _ := a3
    refine wo_rs (rs_app (α := VInT) (q := 3) ah a3 rfl rfl rfl (OS.sv de a3 (i := 5) rfl) rfl rfl rfl rfl rfl rfl rfl (by first | omega | (simp only [List.length_append, List.length_cons, List.length_nil]; omega))) rfl rfl ?_
    rintro _ e0 c8 ⟨c5, c7, rfl, df, bA, _⟩
    have bA : HS _ _ _ [_, _, _, c8, _, _] _ := bA
    refine wro 1 6 [] 53 53 [] [(53, (.pointer (some ⟨ag, 0, none⟩)))] trivial (by kernel_rfl) rfl fun _ => ?_
    refine wo_rk (rs_rec (q := 2) bA rfl rfl rfl rfl rfl rfl rfl rfl rfl) rfl ?_
    rintro _ e7 _ ⟨bB, _⟩
    have bB : HS _ _ _ [_, _, [(ag, .cells [(.slice c5 (fi ++ ([(⟨(⟨vo, (r : Int), 0, 0, (r : Int)⟩ : InsT), ([] : List Int)⟩ : VInT)] : List VInT)).length c7), (.int .i64 0), (.int .i64 0), (.int .i64 0), (.int .i64 0)] none false)], _, _, _] _ := bB
    refine wo_end 2 rfl ?_
    refine wr 1 [] 36 37 [9] [(9, (.int .i64 ((r : Int) + 1)))] (vA (vi (n := (r : Int) + 1) (by first | omega | (dsimp only; omega))) trivial) (by kernel_rfl) rfl fun _ => ?_
    refine dk _ _ _ ?_ ⟨fi ++ ([(⟨(⟨vo, (r : Int), 0, 0, (r : Int)⟩ : InsT), ([] : List Int)⟩ : VInT)] : List VInT), r + 1, c8, c5, c7, _, (Fz.le_trans (aL) cm), (HS.sub bB (List.sublist_append_left _ _)), df, (agC rfl (agC rfl (agC rfl (agC rfl (agC rfl (agC rfl (agC rfl agN))))))), rfl, (by simp; omega), (by exact all_snoc w2 (vin_ldi (by omega) (by omega))), (by exact all_snoc w4 (ck_ldi (by first | omega | (dsimp only; omega)))), (by exact fst_snoc w5 ⟨by rw [w1], by first | omega | (dsimp only; omega)⟩), (by first | assumption | omega | (simp at *; omega))⟩
    omega
  ·
   have cb := bd
   try simp only [BS] at cb
   refine wk_region ?_
   refine wro 1 0 [] 54 54 [] [(54, (.pointer (some ⟨ag, 1, none⟩)))] trivial (by kernel_rfl) rfl fun _ => ?_
   refine wo_rk (rs_rec (q := 2) bt rfl rfl rfl rfl rfl rfl rfl rfl rfl) rfl ?_
   rintro _ e8 _ ⟨bC, _⟩
   have bC : HS _ _ _ [_, _, [(ag, .cells [(.slice E fi.length I), (.int .i64 1), (.int .i64 0), (.int .i64 0), (.int .i64 0)] none false)], ab] _ := bC
   refine wro 1 2 [] 55 55 [] [(55, (.pointer (some ⟨ag, 3, none⟩)))] trivial (by kernel_rfl) rfl fun _ => ?_
   refine wo_rk (rs_rec (q := 2) bC rfl rfl rfl rfl rfl rfl rfl rfl rfl) rfl ?_
   rintro _ e9 _ ⟨aD, _⟩
   have aD : HS _ _ _ [_, _, [(ag, .cells [(.slice E fi.length I), (.int .i64 1), (.int .i64 0), (.int .i64 1), (.int .i64 0)] none false)], _] _ := aD
   refine wo_end 2 rfl ?_
   refine wk_region ?_
   refine wro 3 0 [(1, .o (.slice none 0 0)), (2, .o (.agg ⟨[(.slice E fi.length I), (.int .i64 1), (.int .i64 0), (.int .i64 1), (.int .i64 0)]⟩))] 56 58 [] [(57, (.slice none 0 0)), (58, (.agg ⟨[(.slice E fi.length I), (.int .i64 1), (.int .i64 0), (.int .i64 1), (.int .i64 0)]⟩))] (vA (ql 22 2 (HS.hc aD (i := 1) rfl) rfl rfl) (vA (qn 48 0 5 (HS.hc aD (i := 2) rfl) rfl rfl rfl rfl) trivial)) (by kernel_rfl) rfl fun _ => ?_
   obtain ⟨b5, bm, bD, di, eH⟩ := OS.frz ah aD (i := 3) rfl
   have bD : HS _ _ _ [_, _, _, []] _ := bD
   refine wo_rs (rs_lit (α := BlkT) (ps := [(0, (.agg ⟨[(.slice E fi.length I), (.int .i64 1), (.int .i64 0), (.int .i64 1), (.int .i64 0)]⟩))]) (cells := [(.slice E fi.length I), (.int .i64 1), (.int .i64 0), (.int .i64 1), (.int .i64 0)]) ([(⟨fi, 1, 0, 1, 0⟩ : BlkT)] : List BlkT) bD rfl rfl rfl (by kernel_rfl) ⟨[(.slice E fi.length I), (.int .i64 1), (.int .i64 0), (.int .i64 1), (.int .i64 0)], [], rfl, ⟨E, I, rfl, by first | omega | (dsimp only; omega), by first | omega | (dsimp only; omega), by first | omega | (dsimp only; omega), by first | omega | (dsimp only; omega), di⟩, rfl⟩ rfl) rfl rfl ?_
   rintro _ fb a9 ⟨fv, fN, rfl, dg, bE, _⟩
   have bE : HS _ _ _ [_, _, _, _, a9] _ := bE
   have a4 := HS.snoc bE
   have a4 : HS _ _ _ [_, _, _, _, _, []] _ := a4
   refine wo_rs (rs_app (α := BlkT) (q := 5) (OS.nil : OS b5 (.slice none 0 0) ([] : List BlkT) []) a4 rfl rfl rfl (OS.sv dg a4 (i := 4) rfl) rfl rfl rfl rfl rfl rfl rfl (by first | omega | (simp only [List.length_append, List.length_cons, List.length_nil]; omega))) rfl rfl ?_
   rintro _ fc cM ⟨b7, cH, rfl, bo, bF, _⟩
   have bF : HS _ _ _ [_, _, _, _, _, cM] _ := bF
   have bo : OS b5 (.slice b7 ([(⟨fi, 1, 0, 1, 0⟩ : BlkT)] : List BlkT).length cH) ([(⟨fi, 1, 0, 1, 0⟩ : BlkT)] : List BlkT) cM := bo
   refine wro 1 5 [] 61 61 [] [(61, (.pointer (some ⟨b4, 2, none⟩)))] trivial (by kernel_rfl) rfl fun _ => ?_
   refine wo_rk (rs_rec (q := 1) bF rfl rfl rfl rfl rfl rfl rfl rfl rfl) rfl ?_
   rintro _ fd _ ⟨bG, _⟩
   have bG : HS _ _ _ [_, [(b4, .cells [(.int .i64 params), (.int .i64 (9 + (i : Int))), (.slice b7 ([(⟨fi, 1, 0, 1, 0⟩ : BlkT)] : List BlkT).length cH)] none false)], _, _, _, _] _ := bG
   refine wo_end 3 rfl ?_
   refine wr 2 [] 1 0 [11] [(11, (.int .i64 0))] trivial (by kernel_rfl) rfl fun _ => ?_
   refine wk_loop_inv (fun (mm : Nat) f H' => ∃ (bl : List BlkT) (b : Nat) (Y : Fp) (J : Option Addr) (N : Nat) (F' : Fz), Fz.le b5 F' ∧ HS (Base.of H []) F' H' [[(b1, .cells [(.int .i64 0), (.int .i64 0), (.slice none 0 0)] none false)], [(b4, .cells [(.int .i64 params), (.int .i64 (9 + (i : Int))), (.slice J bl.length N)] none false)], [(ag, .cells [(.slice E fi.length I), (.int .i64 1), (.int .i64 0), (.int .i64 1), (.int .i64 0)] none false)], [], a9, Y] R ∧ OS F' (.slice J bl.length N) bl Y ∧ agrees f [(0, (.slice a_l l.length k_l)), (4, (.pointer (some ⟨b1, 0, none⟩))), (5, (.pointer (some ⟨b4, 0, none⟩))), (6, (.int .i64 (1 + (if (5 : Int) < ((l.length / 6 : Nat) : Int) then (5 : Int) else ((l.length / 6 : Nat) : Int))))), (11, (.int .i64 (b : Int)))] ∧ mm = ((1 + (if (5 : Int) < ((l.length / 6 : Nat) : Int) then (5 : Int) else ((l.length / 6 : Nat) : Int))) - (b : Int)).toNat ∧ (bl.length = b + 1) ∧ (bl.all (blkV params (9 + (i : Int)) ((1 + (if (5 : Int) < ((l.length / 6 : Nat) : Int) then (5 : Int) else ((l.length / 6 : Nat) : Int))) + 1)) = true) ∧ (∀ y ∈ bl, y.ins.length ≤ 11) ∧ (bl.all (fun y => y.ins.all ckI) = true) ∧ (bl.getD 0 default = ⟨fi, 1, 0, 1, 0⟩) ∧ ((b : Int) ≤ (1 + (if (5 : Int) < ((l.length / 6 : Nat) : Int) then (5 : Int) else ((l.length / 6 : Nat) : Int))))) _ ⟨([(⟨fi, 1, 0, 1, 0⟩ : BlkT)] : List BlkT), 0, cM, b7, cH, _, (Fz.le_refl _), bG, bo, (agC rfl (agC rfl (agC rfl (agC rfl (agC rfl agN))))), rfl, (by rfl), (by exact all_snoc (l := []) rfl (blk_mk w2 (by omega))), (by exact ins_snoc (l := []) (by simp) (by first | omega | (dsimp only; omega))), (by exact all_snoc (l := []) rfl w4), (by rfl), (by first | assumption | omega | (simp at *; omega))⟩ ?_
   rintro eK fB fe ⟨bl, b, Y, J, N, c3, aM, bH, T, cr, rfl, e1, e2, e3, e5, e6, e4⟩ dl
   refine wk_canon _ cr (fun _ => ?_)
   clear cr
   replace hT := (hT.mono bm).mono aM
   replace hl := (hl.mono bm).mono aM
   refine wk_foc 2 rfl ?_
   refine wr 1 [] 62 64 [] [(64, (.bool (decide ((b : Int) < 1 + (if (5 : Int) < ((l.length / 6 : Nat) : Int) then (5 : Int) else ((l.length / 6 : Nat) : Int))))))] trivial (by kernel_rfl) rfl fun _ => ?_
   refine wk_if 4 5 (v := (decide ((b : Int) < 1 + (if (5 : Int) < ((l.length / 6 : Nat) : Int) then (5 : Int) else ((l.length / 6 : Nat) : Int))))) rfl rfl rfl rfl (fun bf => ?_) (fun bf => ?_)
   ·
    have cd := bf
    try simp only [BS] at cd
    refine wk_region ?_
    refine wo_rs (rs_new bH rfl) rfl rfl ?_
    rintro _ ff _ ⟨O, rfl, bJ, _⟩
    have bJ : HS _ _ _ [_, [(b4, .cells [(.int .i64 params), (.int .i64 (9 + (i : Int))), (.slice J bl.length N)] none false)], _, _, _, Y, [(O, .cells [(.slice none 0 0), (.int .i64 0), (.int .i64 0), (.int .i64 0), (.int .i64 0)] none false)]] _ := bJ
    refine wo_end 3 rfl ?_
    refine wr 2 [] 1 0 [13] [(13, (.int .i64 0))] trivial (by kernel_rfl) rfl fun _ => ?_
    have bK := HS.snoc bJ
    have bK : HS _ _ _ [_, _, _, _, _, _, _, []] _ := bK
    refine wk_loop_inv (fun (mm : Nat) f H' => ∃ (xi : List VInT) (k : Nat) (Z : Fp) (z : Option Addr) (A : Nat) (F' : Fz), Fz.le c3 F' ∧ HS (Base.of H []) F' H' [[(b1, .cells [(.int .i64 0), (.int .i64 0), (.slice none 0 0)] none false)], [(b4, .cells [(.int .i64 params), (.int .i64 (9 + (i : Int))), (.slice J bl.length N)] none false)], [(ag, .cells [(.slice E fi.length I), (.int .i64 1), (.int .i64 0), (.int .i64 1), (.int .i64 0)] none false)], [], a9, Y, [(O, .cells [(.slice z xi.length A), (.int .i64 0), (.int .i64 0), (.int .i64 0), (.int .i64 0)] none false)], Z] R ∧ OS F' (.slice z xi.length A) xi Z ∧ agrees f [(0, (.slice a_l l.length k_l)), (4, (.pointer (some ⟨b1, 0, none⟩))), (5, (.pointer (some ⟨b4, 0, none⟩))), (6, (.int .i64 (1 + (if (5 : Int) < ((l.length / 6 : Nat) : Int) then (5 : Int) else ((l.length / 6 : Nat) : Int))))), (11, (.int .i64 (b : Int))), (12, (.pointer (some ⟨O, 0, none⟩))), (13, (.int .i64 (k : Int))), (64, (.bool (decide ((b : Int) < 1 + (if (5 : Int) < ((l.length / 6 : Nat) : Int) then (5 : Int) else ((l.length / 6 : Nat) : Int))))))] ∧ mm = 5 - k ∧ (xi.length = k) ∧ (xi.all (vinV params (9 + (i : Int))) = true) ∧ (xi.all ckI = true) ∧ (k ≤ 5)) _ ⟨([] : List VInT), 0, [], none, 0, _, (Fz.le_refl _), bK, (OS.nil : OS c3 (.slice none 0 0) ([] : List VInT) []), (agC rfl (agC rfl (agC rfl (agC rfl (agC rfl (agC rfl (agC rfl (agC rfl agN)))))))), rfl, (by rfl), (by rfl), (by rfl), (by first | assumption | omega | (simp at *; omega))⟩ ?_
    rintro eL fC c4 ⟨xi, k, Z, z, A, eO, aC, aj, U, ct, rfl, z1, z2, z4, z3⟩ dm
    refine wk_canon _ ct (fun _ => ?_)
    clear ct
    replace hT := hT.mono aC
    replace hl := hl.mono aC
    replace T := T.mono aC
    refine wk_foc 2 rfl ?_
    refine wr 1 [] 67 77 [] [(77, (.bool ((decide ((k : Int) < 5)) && (decide ((6 * (b : Int)) + (k : Int) < (l.length : Int))))))] (vA (fun (g1 : (decide ((k : Int) < 5)) = true) => (vi (n := 6 * (b : Int)) (by (try simp only [BS] at g1); (first | omega | (dsimp only; omega))))) (vA (fun (g1 : (decide ((k : Int) < 5)) = true) => (vi (n := (6 * (b : Int)) + (k : Int)) (by (try simp only [BS] at g1); (first | omega | (dsimp only; omega))))) trivial)) (by kernel_rfl) rfl fun _ => ?_
    refine wk_if 3 5 (v := ((decide ((k : Int) < 5)) && (decide ((6 * (b : Int)) + (k : Int) < (l.length : Int))))) rfl rfl rfl rfl (fun bg => ?_) (fun bg => ?_)
    ·
     have ce := bg
     try simp only [BS] at ce
     refine wf_region rfl ?_
     refine wf_pure (v := (.pointer (some ⟨O, 0, none⟩))) (id := .v) (ap_fa rfl rfl) rfl rfl (did_v rfl) (okD_v _) ?_
     refine wf_pure (v := (.slice z xi.length A)) (id := .l O) (ap_ld1 (i := 0) rfl rfl (HS.hc aj.log0 (i := 6) rfl) rfl rfl) rfl rfl (did_l rfl) (⟨.inl rfl, trivial⟩) ?_
     refine fm (.slice a_l l.length k_l) rfl rfl rfl ?_
     refine fm (.int .i64 (b : Int)) rfl rfl rfl ?_
     refine wf_pure (v := (.int .i64 (6 * (b : Int)))) (id := .v) (ap_mul rfl rfl (w_i64 (n := 6 * (b : Int)) (by first | omega | (dsimp only; omega)))) rfl rfl (did_v rfl) (okD_v _) ?_
     refine fm (.int .i64 (k : Int)) rfl rfl rfl ?_
     refine wf_pure (v := (.int .i64 ((6 * (b : Int)) + (k : Int)))) (id := .v) (ap_add rfl rfl (w_i64 (n := (6 * (b : Int)) + (k : Int)) (by first | omega | (dsimp only; omega)))) rfl rfl (did_v rfl) (okD_v _) ?_
     refine wf_pure (v := (.pointer (some ⟨sB (.slice a_l l.length k_l), sO (.slice a_l l.length k_l) + ((6 * b) + k) * Rp.sz Int, none⟩))) (id := .v) (ap_idxV (α := Int) (j := (6 * (b : Int)) + (k : Int)) rfl rfl rfl rfl (SR.sv hl aj.log0) (by first | omega | (dsimp only; omega)) (by first | omega | (dsimp only; omega))) rfl rfl (did_v rfl) (okD_v _) ?_
     obtain ⟨eA, dj, db⟩ := Sv.at (SR.sv hl aj.log0) (getD_at (x := (0 : Int)) (show (6 * b) + k < l.length from by first | omega | (dsimp only; omega)))
     obtain ⟨rfl, dZ⟩ := dj
     refine wf_pure (v := (.int .i64 (l.getD ((6 * b) + k) 0))) (id := .l (sB (.slice a_l l.length k_l))) (ap_ld1 (i := 0) rfl rfl db rfl rfl) rfl rfl (did_l rfl) (⟨.inl rfl, ⟨.inl rfl, ⟨.inl rfl, ⟨.inl rfl, ⟨.inl rfl, ⟨.inl rfl, ⟨.inr trivial, ⟨.inr trivial, trivial⟩⟩⟩⟩⟩⟩⟩⟩) ?_
     refine wf_pure (v := (.agg ⟨[(.int .i64 params), (.int .i64 (9 + (i : Int))), (.slice J bl.length N)]⟩)) (id := .l b4) (ap_ldN (i := 0) rfl rfl rfl (HS.hc aj.log0 (i := 1) rfl) rfl rfl rfl) rfl rfl (did_l rfl) (⟨.inr trivial, ⟨.inr trivial, ⟨.inr trivial, ⟨.inr trivial, ⟨.inr trivial, ⟨.inr trivial, ⟨.inr trivial, ⟨.inr trivial, ⟨.inr trivial, trivial⟩⟩⟩⟩⟩⟩⟩⟩⟩) ?_
     refine wf_call (W := []) (ap_call rfl rfl rfl) rfl rfl rfl (m4.vi_c ex (l.getD ((6 * b) + k) 0) (⟨params, 9 + (i : Int), bl⟩ : VFnT) (HS.call aj.log0) (by first | omega | (dsimp only; omega)) (by first | omega | (dsimp only; omega)) (by first | omega | (dsimp only; omega)) hT (by first | omega | (dsimp only; omega))) (⟨.inl rfl, ⟨.inl rfl, ⟨.inl rfl, ⟨.inl rfl, ⟨.inl rfl, ⟨.inl rfl, ⟨.inl rfl, ⟨.inl rfl, ⟨.inr List.not_mem_nil, ⟨.inr trivial, trivial⟩⟩⟩⟩⟩⟩⟩⟩⟩⟩) ?_
     rintro _ dG ⟨aa, au, ax, eP, cn, ak, rfl, dx, dy, dz, dA, dB, b3, fG, eG⟩
     refine ⟨Wr.did ak.log, fun dn cT => ?_⟩
     replace ak := HS.back aj.log0 rfl ak
     replace ak := HS.lg ak aj cT
     generalize ({ dG with log := dn } : Heap) = et at ak ⊢
     have ak : HS _ _ _ [_, _, _, _, _, _, [(O, .cells [(.slice z xi.length A), (.int .i64 0), (.int .i64 0), (.int .i64 0), (.int .i64 0)] none false)], Z] _ := ak
     replace U := U.mono cn
     refine wf_rs (id := .a) (rs_lit (α := VInT) (ps := [(0, (.agg ⟨[(.int .i64 aa.i.op), (.int .i64 aa.i.a), (.int .i64 aa.i.b), (.int .i64 aa.i.c), (.int .i64 aa.i.n), (.slice au aa.args.length ax)]⟩))]) (cells := [(.int .i64 aa.i.op), (.int .i64 aa.i.a), (.int .i64 aa.i.b), (.int .i64 aa.i.c), (.int .i64 aa.i.n), (.slice au aa.args.length ax)]) ([aa] : List VInT) ak.log0 rfl rfl rfl (by kernel_rfl) ⟨[(.int .i64 aa.i.op), (.int .i64 aa.i.a), (.int .i64 aa.i.b), (.int .i64 aa.i.c), (.int .i64 aa.i.n), (.slice au aa.args.length ax)], [], rfl, ⟨au, ax, rfl, by first | omega | (dsimp only; omega), by first | omega | (dsimp only; omega), by first | omega | (dsimp only; omega), by first | omega | (dsimp only; omega), by first | omega | (dsimp only; omega), b3⟩, rfl⟩ rfl) rfl rfl (fun _ _ _ _ => did_a rfl rfl rfl) (⟨.inl rfl, ⟨.inl rfl, ⟨.inl rfl, ⟨.inl rfl, ⟨.inl rfl, ⟨.inl rfl, ⟨.inl rfl, ⟨.inl rfl, ⟨.inl rfl, ⟨.inr trivial, ⟨.inr trivial, trivial⟩⟩⟩⟩⟩⟩⟩⟩⟩⟩⟩) ?_
     rintro _ dH dT ⟨fw, fO, rfl, dh, am, _⟩ dp cU
     replace am := HS.lg am ak cU
     generalize ({ dH with log := dp } : Heap) = eu at am ⊢
     have am : HS _ _ _ [_, _, _, _, _, _, _, _, dT] _ := am
     refine wf_rs (id := .x (Z.map Prod.fst)) (rs_app (α := VInT) (q := 7) U am.log0 rfl rfl rfl (OS.sv dh am.log0 (i := 8) rfl) rfl rfl rfl rfl rfl rfl rfl (by first | omega | (simp only [List.length_append, List.length_cons, List.length_nil]; omega))) rfl rfl (by rintro _ _ cN ⟨b8, cI, rfl, cw, _, hwr⟩; exact did_x rfl rfl (Wr.did hwr)) (⟨.inl rfl, ⟨.inl rfl, ⟨.inl rfl, ⟨.inl rfl, ⟨.inl rfl, ⟨.inl rfl, ⟨.inl rfl, ⟨.inl rfl, ⟨.inl rfl, ⟨.inl rfl, ⟨.inl rfl, ⟨.inl rfl, trivial⟩⟩⟩⟩⟩⟩⟩⟩⟩⟩⟩⟩) ?_
     rintro _ dI cN ⟨b8, cI, rfl, cw, ar, _⟩ dq cV
     replace ar := HS.lg ar am cV
     generalize ({ dI with log := dq } : Heap) = ev at ar ⊢
     have ar : HS _ _ _ [_, _, _, _, _, _, _, cN, _] _ := ar
     refine wf_pure (v := (.pointer (some ⟨O, 0, none⟩))) (id := .v) (ap_fa rfl rfl) rfl rfl (did_v rfl) (okD_v _) ?_
     refine wf_rk (id := .x [O]) (rs_rec (q := 6) ar.log0 rfl rfl rfl rfl rfl rfl rfl rfl rfl) rfl (by rintro _ _ _ ⟨_, hwr⟩; exact did_x rfl rfl (Wr.did hwr)) (⟨.inl rfl, ⟨.inl rfl, ⟨.inl rfl, ⟨.inl rfl, ⟨.inl rfl, ⟨.inl rfl, ⟨.inl rfl, ⟨.inl rfl, ⟨.inl rfl, ⟨.inl rfl, ⟨.inl rfl, ⟨.inl rfl, ⟨.inl rfl, ⟨.inl rfl, trivial⟩⟩⟩⟩⟩⟩⟩⟩⟩⟩⟩⟩⟩⟩) ?_
     rintro _ dJ _ ⟨ay, _⟩ dr cW
     replace ay := HS.lg ay ar cW
     generalize ({ dJ with log := dr } : Heap) = ew at ay ⊢
     have ay : HS _ _ _ [_, _, _, _, _, _, [(O, .cells [(.slice b8 (xi ++ ([aa] : List VInT)).length cI), (.int .i64 0), (.int .i64 0), (.int .i64 0), (.int .i64 0)] none false)], _, _] _ := ay
     refine wf_nil ?_
     refine wk_foc 2 rfl ?_
     refine wr 1 [] 78 79 [13] [(13, (.int .i64 ((k : Int) + 1)))] (vA (vi (n := (k : Int) + 1) (by first | omega | (dsimp only; omega))) trivial) (by kernel_rfl) rfl fun _ => ?_
     refine dm _ _ _ ?_ ⟨xi ++ ([aa] : List VInT), k + 1, cN, b8, cI, _, (Fz.le_trans (aC) cn), (HS.sub ay (List.sublist_append_left _ _)), cw, (agC rfl (agC rfl (agC rfl (agC rfl (agC rfl (agC rfl (agC rfl (agC rfl agN)))))))), rfl, (by simp; omega), (by exact all_snoc z2 (by assumption)), (by exact all_snoc z4 (by assumption)), (by first | assumption | omega | (simp at *; omega))⟩
     omega
    ·
     have ce := bg
     try simp only [BS] at ce
     refine wr 3 [] 1 0 [14] [(14, (.int .i64 0))] trivial (by kernel_rfl) rfl fun _ => ?_
     refine wr 1 [] 94 99 [] [(99, (.bool (decide ((6 * (b : Int)) + 5 < (l.length : Int)))))] (vA (vi (n := 6 * (b : Int)) (by first | omega | (dsimp only; omega))) (vA (vi (n := (6 * (b : Int)) + 5) (by first | omega | (dsimp only; omega))) trivial)) (by kernel_rfl) rfl fun _ => ?_
     refine wk_join (fun f H' => ∃ (nn : Int), H' = c4 ∧ agrees f [(0, (.slice a_l l.length k_l)), (4, (.pointer (some ⟨b1, 0, none⟩))), (5, (.pointer (some ⟨b4, 0, none⟩))), (6, (.int .i64 (1 + (if (5 : Int) < ((l.length / 6 : Nat) : Int) then (5 : Int) else ((l.length / 6 : Nat) : Int))))), (11, (.int .i64 (b : Int))), (12, (.pointer (some ⟨O, 0, none⟩))), (13, (.int .i64 (k : Int))), (14, (.int .i64 nn)), (64, (.bool (decide ((b : Int) < 1 + (if (5 : Int) < ((l.length / 6 : Nat) : Int) then (5 : Int) else ((l.length / 6 : Nat) : Int)))))), (77, (.bool ((decide ((k : Int) < 5)) && (decide ((6 * (b : Int)) + (k : Int) < (l.length : Int)))))), (99, (.bool (decide ((6 * (b : Int)) + 5 < (l.length : Int)))))] ∧ (in64 nn)) (fun cF => ?_) ?_
     ·
      refine wk_if 0 0 (v := (decide ((6 * (b : Int)) + 5 < (l.length : Int)))) rfl rfl rfl rfl (fun bh => ?_) (fun bh => ?_)
      ·
       have cg := bh
       try simp only [BS] at cg
       obtain ⟨ez, cC⟩ := Sv.view (SR.sv hl aj)
       have fF := fI (cC ((6 * b) + 5))
       refine wr 0 [(5, .o (.int .i64 (l.getD ((6 * b) + 5) 0)))] 100 105 [14] [(14, (.int .i64 (l.getD ((6 * b) + 5) 0)))] (vA (vi (n := 6 * (b : Int)) (by first | omega | (dsimp only; omega))) (vA (vi (n := (6 * (b : Int)) + 5) (by first | omega | (dsimp only; omega))) (vA (Sv.ix (j := (6 * (b : Int)) + 5) (SR.sv hl aj) (by first | omega | (dsimp only; omega)) (by first | omega | (dsimp only; omega))) (vA (ql 3 0 (vI (cC ((6 * b) + 5)) (by first | omega | (dsimp only; omega))) rfl rfl) trivial)))) (by kernel_rfl) rfl fun _ => ?_
       exact cF _ _ ⟨(l.getD ((6 * b) + 5) 0), rfl, (agC rfl (agC rfl (agC rfl (agC rfl (agC rfl (agC rfl (agC rfl (agC rfl (agC rfl (agC rfl (agC rfl agN))))))))))), (by first | assumption | omega | (simp at *; omega))⟩
      ·
       have cg := bh
       try simp only [BS] at cg
       exact cF _ _ ⟨0, rfl, (agC rfl (agC rfl (agC rfl (agC rfl (agC rfl (agC rfl (agC rfl (agC rfl (agC rfl (agC rfl (agC rfl agN))))))))))), (by first | assumption | omega | (simp at *; omega))⟩
     ·
      rintro fD c4 ⟨nn, rfl, cu, hnn⟩
      refine wk_canon _ cu (fun _ => ?_)
      clear cu
      refine wk_foc 2 rfl ?_
      refine wk_region ?_
      refine wro 2 0 [] 106 107 [] [(107, (.agg ⟨[(.int .i64 nn)]⟩))] trivial (by kernel_rfl) rfl fun _ => ?_
      refine wo_rs (rs_box aj rfl rfl) rfl rfl ?_
      rintro _ fg _ ⟨V, rfl, a5, _⟩
      have a5 : HS _ _ _ [_, _, _, _, _, _, [(O, .cells [(.slice z xi.length A), (.int .i64 0), (.int .i64 0), (.int .i64 0), (.int .i64 0)] none false)], Z, [(V, .cells [(.int .i64 nn)] none false)]] _ := a5
      refine wa (.pointer (some ⟨V, 0, none⟩)) rfl rfl rfl ?_
      refine wo_end 3 rfl ?_
      refine wk_region ?_
      refine wm (.pointer (some ⟨V, 0, none⟩)) rfl rfl rfl ?_
      refine wo_call (ap_call rfl rfl rfl) rfl rfl (m4.next_c ex (⟨nn⟩ : DigT) (6) (HS.callOwn a5 (i := 8) rfl) (by first | omega | (dsimp only; omega)) (by first | omega | (dsimp only; omega)) hT (by first | omega | (dsimp only; omega))) ?_
      rintro _ fh ⟨aq, aB, dD, aN, ad, rfl, dO, fH⟩
      replace ad := HS.backOwn a5 (i := 8) rfl rfl (fun _ hb => hb) ad
      have ad : HS _ _ _ [_, _, _, _, _, _, _, _, [(V, .cells [(.int .i64 aB.n)] none false)]] _ := ad
      replace hT := hT.mono aN
      replace T := T.mono aN
      replace U := U.mono aN
      refine wo_end 3 rfl ?_
      refine wr 1 [] 127 128 [] [(127, (.bool (aq == 0)))] trivial (by kernel_rfl) rfl fun _ => ?_
      refine wk_join (fun f H' => ∃ (xe : Int) (xg : Int) (xt : Int) (xf : Int) (dd : DigT) (F' : Fz), Fz.le dD F' ∧ HS (Base.of H []) F' H' [[(b1, .cells [(.int .i64 0), (.int .i64 0), (.slice none 0 0)] none false)], [(b4, .cells [(.int .i64 params), (.int .i64 (9 + (i : Int))), (.slice J bl.length N)] none false)], [(ag, .cells [(.slice E fi.length I), (.int .i64 1), (.int .i64 0), (.int .i64 1), (.int .i64 0)] none false)], [], a9, Y, [(O, .cells [(.slice z xi.length A), (.int .i64 xe), (.int .i64 xg), (.int .i64 xt), (.int .i64 xf)] none false)], Z, [(V, .cells [(.int .i64 dd.n)] none false)]] R ∧ agrees f [(0, (.slice a_l l.length k_l)), (4, (.pointer (some ⟨b1, 0, none⟩))), (5, (.pointer (some ⟨b4, 0, none⟩))), (6, (.int .i64 (1 + (if (5 : Int) < ((l.length / 6 : Nat) : Int) then (5 : Int) else ((l.length / 6 : Nat) : Int))))), (11, (.int .i64 (b : Int))), (12, (.pointer (some ⟨O, 0, none⟩))), (13, (.int .i64 (k : Int))), (14, (.int .i64 nn)), (15, (.pointer (some ⟨V, 0, none⟩))), (64, (.bool (decide ((b : Int) < 1 + (if (5 : Int) < ((l.length / 6 : Nat) : Int) then (5 : Int) else ((l.length / 6 : Nat) : Int)))))), (77, (.bool ((decide ((k : Int) < 5)) && (decide ((6 * (b : Int)) + (k : Int) < (l.length : Int)))))), (99, (.bool (decide ((6 * (b : Int)) + 5 < (l.length : Int))))), (107, (.agg ⟨[(.int .i64 nn)]⟩)), (108, (.pointer (some ⟨V, 0, none⟩))), (109, (.pointer (some ⟨V, 0, none⟩))), (110, (.int .i64 aq)), (127, (.bool (aq == 0)))] ∧ ((xe = 1 ∧ 0 ≤ xt ∧ xt < ((1 + (if (5 : Int) < ((l.length / 6 : Nat) : Int) then (5 : Int) else ((l.length / 6 : Nat) : Int)))) + 1 ∧ xf = 0 ∧ xg = 0 ∨ xe = 2 ∧ 0 ≤ xt ∧ xt < ((1 + (if (5 : Int) < ((l.length / 6 : Nat) : Int) then (5 : Int) else ((l.length / 6 : Nat) : Int)))) + 1 ∧ 0 ≤ xf ∧ xf < ((1 + (if (5 : Int) < ((l.length / 6 : Nat) : Int) then (5 : Int) else ((l.length / 6 : Nat) : Int)))) + 1 ∧ 0 ≤ xg ∧ xg < 9 + (i : Int) ∨ xe = 3 ∧ 0 ≤ xg ∧ xg < 9 + (i : Int) ∧ xt = 0 ∧ xf = 0 ∨ xe = 4 ∧ 1 ≤ xt ∧ xt < 33554432 ∧ xf = 0 ∧ xg = 0)) ∧ (in64 dd.n)) (fun a6 => ?_) ?_
      ·
       refine wk_if 0 1 (v := (aq == 0)) rfl rfl rfl rfl (fun bj => ?_) (fun bj => ?_)
       ·
        have ch := bj
        try simp only [BS] at ch
        refine wk_region ?_
        refine wro 2 0 [] 129 130 [] [(129, (.pointer (some ⟨V, 0, none⟩))), (130, (.int .i64 (1 + (if (5 : Int) < ((l.length / 6 : Nat) : Int) then (5 : Int) else ((l.length / 6 : Nat) : Int)))))] trivial (by kernel_rfl) rfl fun _ => ?_
        refine wo_call (ap_call rfl rfl rfl) rfl rfl (m4.next_c ex (⟨aB.n⟩ : DigT) (1 + (if (5 : Int) < ((l.length / 6 : Nat) : Int) then (5 : Int) else ((l.length / 6 : Nat) : Int))) (HS.callOwn ad (i := 8) rfl) (by first | omega | (dsimp only; omega)) (by first | omega | (dsimp only; omega)) hT (by first | omega | (dsimp only; omega))) ?_
        rintro _ fk ⟨b0, cj, eQ, c9, aE, rfl, dP, fJ⟩
        replace aE := HS.backOwn ad (i := 8) rfl rfl (fun _ hb => hb) aE
        have aE : HS _ _ _ [_, _, _, _, _, _, _, _, [(V, .cells [(.int .i64 cj.n)] none false)]] _ := aE
        refine wro 2 3 [] 132 133 [] [(132, (.int .i64 (1 + b0))), (133, (.pointer (some ⟨O, 1, none⟩)))] (vA (vi (n := 1 + b0) (by first | omega | (dsimp only; omega))) trivial) (by kernel_rfl) rfl fun _ => ?_
        refine wo_rk (rs_rec (q := 6) aE rfl rfl rfl rfl rfl rfl rfl rfl rfl) rfl ?_
        rintro _ fl _ ⟨bM, _⟩
        have bM : HS _ _ _ [_, _, _, _, _, _, [(O, .cells [(.slice z xi.length A), (.int .i64 1), (.int .i64 0), (.int .i64 0), (.int .i64 0)] none false)], _, _] _ := bM
        refine wro 1 6 [] 134 134 [] [(134, (.pointer (some ⟨O, 3, none⟩)))] trivial (by kernel_rfl) rfl fun _ => ?_
        refine wo_rk (rs_rec (q := 6) bM rfl rfl rfl rfl rfl rfl rfl rfl rfl) rfl ?_
        rintro _ fo _ ⟨bN, _⟩
        have bN : HS _ _ _ [_, _, _, _, _, _, [(O, .cells [(.slice z xi.length A), (.int .i64 1), (.int .i64 0), (.int .i64 (1 + b0)), (.int .i64 0)] none false)], _, _] _ := bN
        refine wo_end 0 rfl ?_
        exact a6 _ _ ⟨1, 0, 1 + b0, 0, (⟨cj.n⟩ : DigT), _, (c9), bN, (agC rfl (agC rfl (agC rfl (agC rfl (agC rfl (agC rfl (agC rfl (agC rfl (agC rfl (agC rfl (agC rfl (agC rfl (agC rfl (agC rfl (agC rfl (agC rfl (agC rfl agN))))))))))))))))), (by first | assumption | omega | (simp at *; omega)), (by first | assumption | omega | (simp at *; omega))⟩
       ·
        have ch := bj
        try simp only [BS] at ch
        refine wr 1 [] 135 136 [] [(135, (.bool (aq == 1)))] trivial (by kernel_rfl) rfl fun _ => ?_
        refine wk_if 0 1 (v := (aq == 1)) rfl rfl rfl rfl (fun bk => ?_) (fun bk => ?_)
        ·
         have ci := bk
         try simp only [BS] at ci
         refine wk_region ?_
         refine wm (.pointer (some ⟨V, 0, none⟩)) rfl rfl rfl ?_
         refine wo_call (ap_call rfl rfl rfl) rfl rfl (m4.next_c ex (⟨aB.n⟩ : DigT) (9) (HS.callOwn ad (i := 8) rfl) (by first | omega | (dsimp only; omega)) (by first | omega | (dsimp only; omega)) hT (by first | omega | (dsimp only; omega))) ?_
         rintro _ fp ⟨b2, cl, eR, da, aF, rfl, dQ, fK⟩
         replace aF := HS.backOwn ad (i := 8) rfl rfl (fun _ hb => hb) aF
         have aF : HS _ _ _ [_, _, _, _, _, _, _, _, [(V, .cells [(.int .i64 cl.n)] none false)]] _ := aF
         refine wro 2 2 [] 139 140 [] [(139, (.int .i64 (1 + b2))), (140, (.pointer (some ⟨O, 1, none⟩)))] (vA (vi (n := 1 + b2) (by first | omega | (dsimp only; omega))) trivial) (by kernel_rfl) rfl fun _ => ?_
         refine wo_rk (rs_rec (q := 6) aF rfl rfl rfl rfl rfl rfl rfl rfl rfl) rfl ?_
         rintro _ fq _ ⟨bO, _⟩
         have bO : HS _ _ _ [_, _, _, _, _, _, [(O, .cells [(.slice z xi.length A), (.int .i64 4), (.int .i64 0), (.int .i64 0), (.int .i64 0)] none false)], _, _] _ := bO
         refine wro 1 5 [] 141 141 [] [(141, (.pointer (some ⟨O, 3, none⟩)))] trivial (by kernel_rfl) rfl fun _ => ?_
         refine wo_rk (rs_rec (q := 6) bO rfl rfl rfl rfl rfl rfl rfl rfl rfl) rfl ?_
         rintro _ ft _ ⟨bP, _⟩
         have bP : HS _ _ _ [_, _, _, _, _, _, [(O, .cells [(.slice z xi.length A), (.int .i64 4), (.int .i64 0), (.int .i64 (1 + b2)), (.int .i64 0)] none false)], _, _] _ := bP
         refine wo_end 0 rfl ?_
         exact a6 _ _ ⟨4, 0, 1 + b2, 0, (⟨cl.n⟩ : DigT), _, (da), bP, (agC rfl (agC rfl (agC rfl (agC rfl (agC rfl (agC rfl (agC rfl (agC rfl (agC rfl (agC rfl (agC rfl (agC rfl (agC rfl (agC rfl (agC rfl (agC rfl (agC rfl agN))))))))))))))))), (by first | assumption | omega | (simp at *; omega)), (by first | assumption | omega | (simp at *; omega))⟩
        ·
         have ci := bk
         try simp only [BS] at ci
         refine wr 1 [] 142 143 [] [(142, (.bool (aq == 2)))] trivial (by kernel_rfl) rfl fun _ => ?_
         refine wk_if 0 0 (v := (aq == 2)) rfl rfl rfl rfl (fun aI => ?_) (fun aI => ?_)
         ·
          have ba := aI
          try simp only [BS] at ba
          refine wk_region ?_
          refine wro 3 0 [(2, .o (.int .i64 (9 + (i : Int))))] 144 146 [] [(144, (.pointer (some ⟨V, 0, none⟩))), (146, (.int .i64 (9 + (i : Int))))] (vA (ql 3 1 (HS.hc ad (i := 1) rfl) rfl rfl) trivial) (by kernel_rfl) rfl fun _ => ?_
          refine wo_call (ap_call rfl rfl rfl) rfl rfl (m4.next_c ex (⟨aB.n⟩ : DigT) (9 + (i : Int)) (HS.callOwn ad (i := 8) rfl) (by first | omega | (dsimp only; omega)) (by first | omega | (dsimp only; omega)) hT (by first | omega | (dsimp only; omega))) ?_
          rintro _ ea ⟨cO, bQ, d3, cQ, av, rfl, dt, eC⟩
          replace av := HS.backOwn ad (i := 8) rfl rfl (fun _ hb => hb) av
          have av : HS _ _ _ [_, _, _, _, _, _, _, _, [(V, .cells [(.int .i64 bQ.n)] none false)]] _ := av
          refine wro 1 4 [] 148 148 [] [(148, (.pointer (some ⟨O, 1, none⟩)))] trivial (by kernel_rfl) rfl fun _ => ?_
          refine wo_rk (rs_rec (q := 6) av rfl rfl rfl rfl rfl rfl rfl rfl rfl) rfl ?_
          rintro _ eb _ ⟨aO, _⟩
          have aO : HS _ _ _ [_, _, _, _, _, _, [(O, .cells [(.slice z xi.length A), (.int .i64 3), (.int .i64 0), (.int .i64 0), (.int .i64 0)] none false)], _, _] _ := aO
          refine wro 1 6 [] 149 149 [] [(149, (.pointer (some ⟨O, 2, none⟩)))] trivial (by kernel_rfl) rfl fun _ => ?_
          refine wo_rk (rs_rec (q := 6) aO rfl rfl rfl rfl rfl rfl rfl rfl rfl) rfl ?_
          rintro _ ec _ ⟨aP, _⟩
          have aP : HS _ _ _ [_, _, _, _, _, _, [(O, .cells [(.slice z xi.length A), (.int .i64 3), (.int .i64 cO), (.int .i64 0), (.int .i64 0)] none false)], _, _] _ := aP
          refine wo_end 0 rfl ?_
          exact a6 _ _ ⟨3, cO, 0, 0, (⟨bQ.n⟩ : DigT), _, (cQ), aP, (agC rfl (agC rfl (agC rfl (agC rfl (agC rfl (agC rfl (agC rfl (agC rfl (agC rfl (agC rfl (agC rfl (agC rfl (agC rfl (agC rfl (agC rfl (agC rfl (agC rfl agN))))))))))))))))), (by first | assumption | omega | (simp at *; omega)), (by first | assumption | omega | (simp at *; omega))⟩
         ·
          have ba := aI
          try simp only [BS] at ba
          refine wk_region ?_
          refine wro 3 0 [(2, .o (.int .i64 (9 + (i : Int))))] 111 113 [] [(111, (.pointer (some ⟨V, 0, none⟩))), (113, (.int .i64 (9 + (i : Int))))] (vA (ql 3 1 (HS.hc ad (i := 1) rfl) rfl rfl) trivial) (by kernel_rfl) rfl fun _ => ?_
          refine wo_call (ap_call rfl rfl rfl) rfl rfl (m4.next_c ex (⟨aB.n⟩ : DigT) (9 + (i : Int)) (HS.callOwn ad (i := 8) rfl) (by first | omega | (dsimp only; omega)) (by first | omega | (dsimp only; omega)) hT (by first | omega | (dsimp only; omega))) ?_
          rintro _ ed ⟨a7, bR, d4, bU, an, rfl, du, eD⟩
          replace an := HS.backOwn ad (i := 8) rfl rfl (fun _ hb => hb) an
          have an : HS _ _ _ [_, _, _, _, _, _, _, _, [(V, .cells [(.int .i64 bR.n)] none false)]] _ := an
          replace hT := hT.mono bU
          refine wro 2 4 [] 115 116 [] [(115, (.pointer (some ⟨V, 0, none⟩))), (116, (.int .i64 (1 + (if (5 : Int) < ((l.length / 6 : Nat) : Int) then (5 : Int) else ((l.length / 6 : Nat) : Int)))))] trivial (by kernel_rfl) rfl fun _ => ?_
          refine wo_call (ap_call rfl rfl rfl) rfl rfl (m4.next_c ex (⟨bR.n⟩ : DigT) (1 + (if (5 : Int) < ((l.length / 6 : Nat) : Int) then (5 : Int) else ((l.length / 6 : Nat) : Int))) (HS.callOwn an (i := 8) rfl) (by first | omega | (dsimp only; omega)) (by first | omega | (dsimp only; omega)) hT (by first | omega | (dsimp only; omega))) ?_
          rintro _ ee ⟨aG, bS, d5, bV, ap, rfl, dv, eE⟩
          replace ap := HS.backOwn an (i := 8) rfl rfl (fun _ hb => hb) ap
          have ap : HS _ _ _ [_, _, _, _, _, _, _, _, [(V, .cells [(.int .i64 bS.n)] none false)]] _ := ap
          replace hT := hT.mono bV
          refine wro 3 7 [] 118 120 [] [(118, (.int .i64 (1 + aG))), (119, (.pointer (some ⟨V, 0, none⟩))), (120, (.int .i64 (1 + (if (5 : Int) < ((l.length / 6 : Nat) : Int) then (5 : Int) else ((l.length / 6 : Nat) : Int)))))] (vA (vi (n := 1 + aG) (by first | omega | (dsimp only; omega))) trivial) (by kernel_rfl) rfl fun _ => ?_
          refine wo_call (ap_call rfl rfl rfl) rfl rfl (m4.next_c ex (⟨bS.n⟩ : DigT) (1 + (if (5 : Int) < ((l.length / 6 : Nat) : Int) then (5 : Int) else ((l.length / 6 : Nat) : Int))) (HS.callOwn ap (i := 8) rfl) (by first | omega | (dsimp only; omega)) (by first | omega | (dsimp only; omega)) hT (by first | omega | (dsimp only; omega))) ?_
          rintro _ ef ⟨a8, bT, d6, cR, aw, rfl, dw, eF⟩
          replace aw := HS.backOwn ap (i := 8) rfl rfl (fun _ hb => hb) aw
          have aw : HS _ _ _ [_, _, _, _, _, _, _, _, [(V, .cells [(.int .i64 bT.n)] none false)]] _ := aw
          refine wro 2 11 [] 122 123 [] [(122, (.int .i64 (1 + a8))), (123, (.pointer (some ⟨O, 1, none⟩)))] (vA (vi (n := 1 + a8) (by first | omega | (dsimp only; omega))) trivial) (by kernel_rfl) rfl fun _ => ?_
          refine wo_rk (rs_rec (q := 6) aw rfl rfl rfl rfl rfl rfl rfl rfl rfl) rfl ?_
          rintro _ eg _ ⟨aQ, _⟩
          have aQ : HS _ _ _ [_, _, _, _, _, _, [(O, .cells [(.slice z xi.length A), (.int .i64 2), (.int .i64 0), (.int .i64 0), (.int .i64 0)] none false)], _, _] _ := aQ
          refine wro 1 14 [] 124 124 [] [(124, (.pointer (some ⟨O, 2, none⟩)))] trivial (by kernel_rfl) rfl fun _ => ?_
          refine wo_rk (rs_rec (q := 6) aQ rfl rfl rfl rfl rfl rfl rfl rfl rfl) rfl ?_
          rintro _ eh _ ⟨aR, _⟩
          have aR : HS _ _ _ [_, _, _, _, _, _, [(O, .cells [(.slice z xi.length A), (.int .i64 2), (.int .i64 a7), (.int .i64 0), (.int .i64 0)] none false)], _, _] _ := aR
          refine wro 1 16 [] 125 125 [] [(125, (.pointer (some ⟨O, 3, none⟩)))] trivial (by kernel_rfl) rfl fun _ => ?_
          refine wo_rk (rs_rec (q := 6) aR rfl rfl rfl rfl rfl rfl rfl rfl rfl) rfl ?_
          rintro _ ei _ ⟨aS, _⟩
          have aS : HS _ _ _ [_, _, _, _, _, _, [(O, .cells [(.slice z xi.length A), (.int .i64 2), (.int .i64 a7), (.int .i64 (1 + aG)), (.int .i64 0)] none false)], _, _] _ := aS
          refine wro 1 18 [] 126 126 [] [(126, (.pointer (some ⟨O, 4, none⟩)))] trivial (by kernel_rfl) rfl fun _ => ?_
          refine wo_rk (rs_rec (q := 6) aS rfl rfl rfl rfl rfl rfl rfl rfl rfl) rfl ?_
          rintro _ ej _ ⟨aT, _⟩
          have aT : HS _ _ _ [_, _, _, _, _, _, [(O, .cells [(.slice z xi.length A), (.int .i64 2), (.int .i64 a7), (.int .i64 (1 + aG)), (.int .i64 (1 + a8))] none false)], _, _] _ := aT
          refine wo_end 0 rfl ?_
          exact a6 _ _ ⟨2, a7, 1 + aG, 1 + a8, (⟨bT.n⟩ : DigT), _, (Fz.le_trans (Fz.le_trans (bU) bV) cR), aT, (agC rfl (agC rfl (agC rfl (agC rfl (agC rfl (agC rfl (agC rfl (agC rfl (agC rfl (agC rfl (agC rfl (agC rfl (agC rfl (agC rfl (agC rfl (agC rfl (agC rfl agN))))))))))))))))), (by first | assumption | omega | (simp at *; omega)), (by first | assumption | omega | (simp at *; omega))⟩
      ·
       rintro fE fj ⟨xe, xg, xt, xf, dd, dE, bn, bL, cv, hD, hdd⟩
       refine wk_canon _ cv (fun _ => ?_)
       clear cv
       replace T := T.mono bn
       replace U := U.mono bn
       refine wk_foc 4 rfl ?_
       refine wr 1 [(6, .o (.int .i64 xe))] 150 158 [] [(158, (.bool (((b : Int) == (1 + (if (5 : Int) < ((l.length / 6 : Nat) : Int) then (5 : Int) else ((l.length / 6 : Nat) : Int))) - 1) && (xe == 1))))] (vA (vi (n := (1 + (if (5 : Int) < ((l.length / 6 : Nat) : Int) then (5 : Int) else ((l.length / 6 : Nat) : Int))) - 1) (by first | omega | (dsimp only; omega))) (vA (fun (g1 : ((b : Int) == (1 + (if (5 : Int) < ((l.length / 6 : Nat) : Int) then (5 : Int) else ((l.length / 6 : Nat) : Int))) - 1) = true) => (ql 3 1 (HS.hc bL (i := 6) rfl) rfl rfl)) trivial)) (by kernel_rfl) rfl fun _ => ?_
       refine wk_join (fun f H' => ∃ (ye : Int) (yg : Int) (yt : Int) (F' : Fz), Fz.le dE F' ∧ HS (Base.of H []) F' H' [[(b1, .cells [(.int .i64 0), (.int .i64 0), (.slice none 0 0)] none false)], [(b4, .cells [(.int .i64 params), (.int .i64 (9 + (i : Int))), (.slice J bl.length N)] none false)], [(ag, .cells [(.slice E fi.length I), (.int .i64 1), (.int .i64 0), (.int .i64 1), (.int .i64 0)] none false)], [], a9, Y, [(O, .cells [(.slice z xi.length A), (.int .i64 ye), (.int .i64 yg), (.int .i64 yt), (.int .i64 xf)] none false)], Z, [(V, .cells [(.int .i64 dd.n)] none false)]] R ∧ agrees f [(0, (.slice a_l l.length k_l)), (4, (.pointer (some ⟨b1, 0, none⟩))), (5, (.pointer (some ⟨b4, 0, none⟩))), (6, (.int .i64 (1 + (if (5 : Int) < ((l.length / 6 : Nat) : Int) then (5 : Int) else ((l.length / 6 : Nat) : Int))))), (11, (.int .i64 (b : Int))), (12, (.pointer (some ⟨O, 0, none⟩))), (13, (.int .i64 (k : Int))), (14, (.int .i64 nn)), (15, (.pointer (some ⟨V, 0, none⟩))), (64, (.bool (decide ((b : Int) < 1 + (if (5 : Int) < ((l.length / 6 : Nat) : Int) then (5 : Int) else ((l.length / 6 : Nat) : Int)))))), (77, (.bool ((decide ((k : Int) < 5)) && (decide ((6 * (b : Int)) + (k : Int) < (l.length : Int)))))), (99, (.bool (decide ((6 * (b : Int)) + 5 < (l.length : Int))))), (107, (.agg ⟨[(.int .i64 nn)]⟩)), (108, (.pointer (some ⟨V, 0, none⟩))), (109, (.pointer (some ⟨V, 0, none⟩))), (110, (.int .i64 aq)), (127, (.bool (aq == 0))), (158, (.bool (((b : Int) == (1 + (if (5 : Int) < ((l.length / 6 : Nat) : Int) then (5 : Int) else ((l.length / 6 : Nat) : Int))) - 1) && (xe == 1))))] ∧ ((ye = 1 ∧ 0 ≤ yt ∧ yt < ((1 + (if (5 : Int) < ((l.length / 6 : Nat) : Int) then (5 : Int) else ((l.length / 6 : Nat) : Int)))) + 1 ∧ xf = 0 ∧ yg = 0 ∨ ye = 2 ∧ 0 ≤ yt ∧ yt < ((1 + (if (5 : Int) < ((l.length / 6 : Nat) : Int) then (5 : Int) else ((l.length / 6 : Nat) : Int)))) + 1 ∧ 0 ≤ xf ∧ xf < ((1 + (if (5 : Int) < ((l.length / 6 : Nat) : Int) then (5 : Int) else ((l.length / 6 : Nat) : Int)))) + 1 ∧ 0 ≤ yg ∧ yg < 9 + (i : Int) ∨ ye = 3 ∧ 0 ≤ yg ∧ yg < 9 + (i : Int) ∧ yt = 0 ∧ xf = 0 ∨ ye = 4 ∧ 1 ≤ yt ∧ yt < 33554432 ∧ xf = 0 ∧ yg = 0))) (fun bZ => ?_) ?_
       ·
        refine wk_if 0 0 (v := (((b : Int) == (1 + (if (5 : Int) < ((l.length / 6 : Nat) : Int) then (5 : Int) else ((l.length / 6 : Nat) : Int))) - 1) && (xe == 1))) rfl rfl rfl rfl (fun aJ => ?_) (fun aJ => ?_)
        ·
         have bc := aJ
         try simp only [BS] at bc
         refine wk_region ?_
         refine wro 1 0 [] 159 159 [] [(159, (.pointer (some ⟨O, 1, none⟩)))] trivial (by kernel_rfl) rfl fun _ => ?_
         refine wo_rk (rs_rec (q := 6) bL rfl rfl rfl rfl rfl rfl rfl rfl rfl) rfl ?_
         rintro _ el _ ⟨aV, _⟩
         have aV : HS _ _ _ [_, _, _, _, _, _, [(O, .cells [(.slice z xi.length A), (.int .i64 3), (.int .i64 xg), (.int .i64 xt), (.int .i64 xf)] none false)], _, [(V, .cells [(.int .i64 dd.n)] none false)]] _ := aV
         refine wro 1 2 [] 160 160 [] [(160, (.pointer (some ⟨O, 3, none⟩)))] trivial (by kernel_rfl) rfl fun _ => ?_
         refine wo_rk (rs_rec (q := 6) aV rfl rfl rfl rfl rfl rfl rfl rfl rfl) rfl ?_
         rintro _ em _ ⟨aW, _⟩
         have aW : HS _ _ _ [_, _, _, _, _, _, [(O, .cells [(.slice z xi.length A), (.int .i64 3), (.int .i64 xg), (.int .i64 0), (.int .i64 xf)] none false)], _, _] _ := aW
         refine wro 1 4 [] 161 161 [] [(161, (.pointer (some ⟨O, 2, none⟩)))] trivial (by kernel_rfl) rfl fun _ => ?_
         refine wo_rk (rs_rec (q := 6) aW rfl rfl rfl rfl rfl rfl rfl rfl rfl) rfl ?_
         rintro _ en _ ⟨aX, _⟩
         have aX : HS _ _ _ [_, _, _, _, _, _, [(O, .cells [(.slice z xi.length A), (.int .i64 3), (.int .i64 0), (.int .i64 0), (.int .i64 xf)] none false)], _, _] _ := aX
         refine wo_end 0 rfl ?_
         exact bZ _ _ ⟨3, 0, 0, _, (Fz.le_refl _), aX, (agC rfl (agC rfl (agC rfl (agC rfl (agC rfl (agC rfl (agC rfl (agC rfl (agC rfl (agC rfl (agC rfl (agC rfl (agC rfl (agC rfl (agC rfl (agC rfl (agC rfl (agC rfl agN)))))))))))))))))), (by first | assumption | omega | (simp at *; omega))⟩
        ·
         have bc := aJ
         try simp only [BS] at bc
         exact bZ _ _ ⟨xe, xg, xt, _, (Fz.le_refl _), bL, (agC rfl (agC rfl (agC rfl (agC rfl (agC rfl (agC rfl (agC rfl (agC rfl (agC rfl (agC rfl (agC rfl (agC rfl (agC rfl (agC rfl (agC rfl (agC rfl (agC rfl (agC rfl agN)))))))))))))))))), (by first | assumption | omega | (simp at *; omega))⟩
       ·
        rintro eB ek ⟨ye, yg, yt, d7, aK, aU, bY, hY⟩
        refine wk_canon _ bY (fun _ => ?_)
        clear bY
        replace U := U.mono aK
        refine wk_foc 1 rfl ?_
        refine wk_region ?_
        refine wro 3 0 [(1, .o (.slice J bl.length N)), (2, .o (.agg ⟨[(.slice z xi.length A), (.int .i64 ye), (.int .i64 yg), (.int .i64 yt), (.int .i64 xf)]⟩))] 162 164 [] [(163, (.slice J bl.length N)), (164, (.agg ⟨[(.slice z xi.length A), (.int .i64 ye), (.int .i64 yg), (.int .i64 yt), (.int .i64 xf)]⟩))] (vA (ql 22 2 (HS.hc aU (i := 1) rfl) rfl rfl) (vA (qn 48 0 5 (HS.hc aU (i := 6) rfl) rfl rfl rfl rfl) trivial)) (by kernel_rfl) rfl fun _ => ?_
        obtain ⟨d8, bW, aY, cZ, d1⟩ := OS.frz U aU (i := 7) rfl
        have aY : HS _ _ _ [_, _, _, _, _, _, [(O, .cells [(.slice z xi.length A), (.int .i64 ye), (.int .i64 yg), (.int .i64 yt), (.int .i64 xf)] none false)], [], [(V, .cells [(.int .i64 dd.n)] none false)]] _ := aY
        replace T := (T.mono aK).mono bW
        refine wo_rs (rs_lit (α := BlkT) (ps := [(0, (.agg ⟨[(.slice z xi.length A), (.int .i64 ye), (.int .i64 yg), (.int .i64 yt), (.int .i64 xf)]⟩))]) (cells := [(.slice z xi.length A), (.int .i64 ye), (.int .i64 yg), (.int .i64 yt), (.int .i64 xf)]) ([(⟨xi, ye, yg, yt, xf⟩ : BlkT)] : List BlkT) aY rfl rfl rfl (by kernel_rfl) ⟨[(.slice z xi.length A), (.int .i64 ye), (.int .i64 yg), (.int .i64 yt), (.int .i64 xf)], [], rfl, ⟨z, A, rfl, by first | omega | (dsimp only; omega), by first | omega | (dsimp only; omega), by first | omega | (dsimp only; omega), by first | omega | (dsimp only; omega), cZ⟩, rfl⟩ rfl) rfl rfl ?_
        rintro _ eo ds ⟨ey, eI, rfl, cX, az, _⟩
        have az : HS _ _ _ [_, _, _, _, _, _, _, _, _, ds] _ := az
        refine wo_rs (rs_app (α := BlkT) (q := 5) T az rfl rfl rfl (OS.sv cX az (i := 9) rfl) rfl rfl rfl rfl rfl rfl rfl (by first | omega | (simp only [List.length_append, List.length_cons, List.length_nil]; omega))) rfl rfl ?_
        rintro _ ep cL ⟨b6, cG, rfl, cY, aZ, _⟩
        have aZ : HS _ _ _ [_, _, _, _, _, cL, _, _, _, _] _ := aZ
        refine wro 1 5 [] 167 167 [] [(167, (.pointer (some ⟨b4, 2, none⟩)))] trivial (by kernel_rfl) rfl fun _ => ?_
        refine wo_rk (rs_rec (q := 1) aZ rfl rfl rfl rfl rfl rfl rfl rfl rfl) rfl ?_
        rintro _ er _ ⟨a0, _⟩
        have a0 : HS _ _ _ [_, [(b4, .cells [(.int .i64 params), (.int .i64 (9 + (i : Int))), (.slice b6 (bl ++ ([(⟨xi, ye, yg, yt, xf⟩ : BlkT)] : List BlkT)).length cG)] none false)], _, _, _, _, _, _, _, _] _ := a0
        refine wo_end 2 rfl ?_
        refine wr 1 [] 65 66 [11] [(11, (.int .i64 ((b : Int) + 1)))] (vA (vi (n := (b : Int) + 1) (by first | omega | (dsimp only; omega))) trivial) (by kernel_rfl) rfl fun _ => ?_
        refine dl _ _ _ ?_ ⟨bl ++ ([(⟨xi, ye, yg, yt, xf⟩ : BlkT)] : List BlkT), b + 1, cL, b6, cG, _, (Fz.le_trans (Fz.le_trans (Fz.le_trans (Fz.le_trans (Fz.le_trans (aM) aC) aN) bn) aK) bW), (HS.sub a0 (List.sublist_append_left _ _)), cY, (agC rfl (agC rfl (agC rfl (agC rfl (agC rfl agN))))), rfl, (by simp; omega), (by exact all_snoc e2 (blk_mk z2 (by omega))), (by exact ins_snoc e3 (by first | omega | (dsimp only; omega))), (by exact all_snoc e5 z4), (by exact first_snoc e6 (by omega)), (by first | assumption | omega | (simp at *; omega))⟩
        omega
   ·
    have cd := bf
    try simp only [BS] at cd
    refine wk_region ?_
    refine wro 1 0 [(0, .o (.agg ⟨[(.int .i64 params), (.int .i64 (9 + (i : Int))), (.slice J bl.length N)]⟩))] 168 168 [] [(168, (.agg ⟨[(.int .i64 params), (.int .i64 (9 + (i : Int))), (.slice J bl.length N)]⟩))] (vA (qn 24 0 3 (HS.hc bH (i := 1) rfl) rfl rfl rfl rfl) trivial) (by kernel_rfl) rfl fun _ => ?_
    refine wo_rk (rs_rec (q := 0) bH rfl rfl rfl rfl rfl rfl rfl rfl rfl) rfl ?_
    rintro _ es _ ⟨aA, _⟩
    have aA : HS _ _ _ [[(b1, .cells [(.int .i64 params), (.int .i64 (9 + (i : Int))), (.slice J bl.length N)] none false)], [(b4, .cells [(.int .i64 params), (.int .i64 (9 + (i : Int))), (.slice J bl.length N)] none false)], _, _, _, Y] _ := aA
    refine wo_end 1 rfl ?_
    obtain ⟨d9, cS, a1, c0, d2⟩ := OS.frz T aA (i := 5) rfl
    have a1 : HS _ _ _ [_, _, _, _, _, []] _ := a1
    refine wk_ret ⟨.inr rfl, _, (rC rfl (ldVN rfl rfl (HS.hc aA (i := 0) rfl) rfl) rN), (⟨params, 9 + (i : Int), bl⟩ : VFnT), J, N, _, (Fz.le_trans (Fz.le_trans (Fz.le_trans (Fz.le_trans (bX) aL) bm) aM) cS), (HS.forget a1), rfl, (by first | omega | (dsimp only; omega)), (by first | omega | (dsimp only; omega)), c0, (by exact ⟨val_mk (by omega) (by omega) e2, rfl, by first | omega | (dsimp only; omega), ⟨by first | omega | (dsimp only; omega), by first | omega | (dsimp only; omega)⟩, ins_at e3, e5, fi, e6, by first | omega | (dsimp only; omega), w5⟩)⟩
end Go.Proofs.YtknafdcgpaejlaaDoor.m5
