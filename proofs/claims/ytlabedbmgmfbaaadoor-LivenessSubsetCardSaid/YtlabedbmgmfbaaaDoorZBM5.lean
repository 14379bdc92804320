/-
 The generator of virtual code, whole, by a symbolic run: what it makes is valid. No condition but that the table lies as laid.
-/
import Derived.Test.YtlabedbmgmfbaaaDoorZBM4
noncomputable section
namespace Go.Proofs.YtlabedbmgmfbaaaDoor.m5
open Go.R
set_option maxRecDepth 10000
set_option linter.unusedVariables false
open m1 m2 m3 m4
theorem vin_ldi {params regs r op : Int} (hr : 0 ≤ r ∧ r < regs) (ho : op = 13 ∨ op = 38 ∧ r < params) : vinV params regs ⟨⟨op, r, 0, 0, r⟩, []⟩ = true := by
 rcases ho with rfl | ⟨rfl, hp⟩
 ·
  exact vin_mk (by decide) (.inr rfl) (by simp) rfl (opOK_t (by decide) hr) (opOK_f (by decide) rfl) (opOK_f (by decide) rfl) rfl
 ·
  exact vin_mk (by decide) (.inr rfl) (by simp) rfl (opOK_t (by decide) hr) (opOK_f (by decide) rfl) (opOK_f (by decide) rfl) (decide_eq_true ⟨hr.1, hp⟩)
theorem all_snoc {α : Type} {p : α → Bool} {l : List α} {x : α} (h : l.all p = true) (hx : p x = true) : (l ++ [x]).all p = true := by rw [List.all_append, h]; simp [hx]
theorem blk_mk {params regs nb e g t f : Int} {l : List VInT} (h : l.all (vinV params regs) = true) (z : e = 1 ∧ 0 ≤ t ∧ t < nb ∧ f = 0 ∧ g = 0 ∨ e = 2 ∧ 0 ≤ t ∧ t < nb ∧ 0 ≤ f ∧ f < nb ∧ 0 ≤ g ∧ g < regs ∨ e = 3 ∧ 0 ≤ g ∧ g < regs ∧ t = 0 ∧ f = 0 ∨ e = 4 ∧ 1 ≤ t ∧ t < 33554432 ∧ f = 0 ∧ g = 0) : blkV params regs nb ⟨l, e, g, t, f⟩ = true := blk_yes h (vend_iff.2 z)
theorem ins_snoc {l : List BlkT} {x : BlkT} (h : ∀ y ∈ l, y.ins.length ≤ 11) (hx : x.ins.length ≤ 11) : ∀ y ∈ l ++ [x], y.ins.length ≤ 11 := fun y hy => by
 rcases List.mem_append.1 hy with hy | hy
 ·
  exact h y hy
 ·
  rw [List.mem_singleton] at hy; rw [hy]; exact hx
theorem ins_at {l : List BlkT} (h : ∀ y ∈ l, y.ins.length ≤ 11) (j : Nat) : (l.getD j default).ins.length ≤ 11 := by
 rw [List.getD_eq_getElem?_getD]
 rcases hj : l[j]? with _ | y
 ·
  exact Nat.zero_le _
 ·
  exact h y (List.mem_of_getElem? hj)
def fstOK (fi : List VInT) : Prop := ∀ q : Nat, q < fi.length → (fi.getD q default).i.a = q ∧ ((fi.getD q default).i.op = 13 ∨ (fi.getD q default).i.op = 38)
theorem fst_snoc {fi : List VInT} {x : VInT} (h : fstOK fi) (hx : x.i.a = (fi.length : Int) ∧ (x.i.op = 13 ∨ x.i.op = 38)) : fstOK (fi ++ [x]) := fun q hq => by
 rw [List.length_append] at hq
 simp only [List.length_cons, List.length_nil] at hq
 rcases Nat.lt_or_ge q fi.length with z | z
 ·
  rw [List.getD_eq_getElem?_getD, List.getElem?_append_left z, ← List.getD_eq_getElem?_getD]; exact h q z
 ·
  have : q = fi.length := by omega
  subst this
  rw [List.getD_eq_getElem?_getD, List.getElem?_append_right (Nat.le_refl _), Nat.sub_self]; exact hx
theorem first_snoc {l : List BlkT} {x y : BlkT} (h : l.getD 0 default = x) (hl : 0 < l.length) : (l ++ [y]).getD 0 default = x := by
 rw [List.getD_eq_getElem?_getD, List.getElem?_append_left hl, ← List.getD_eq_getElem?_getD]; exact h
theorem ck_ldi {v : VInT} (ho : v.i.op = 13 ∨ v.i.op = 38) : ckI v = true := decide_eq_true ⟨fun h => by omega, fun h => by omega⟩
structure vfG (x : VFnT) (params : Int) : Prop where
 val : valV x = true
 par : x.params = params
 reg : x.regs = 9 + params
 nb : 2 ≤ x.blocks.length ∧ x.blocks.length ≤ 7
 ins : ∀ j, (x.blocks.getD j default).ins.length ≤ 11
 ck : x.blocks.all (fun y => y.ins.all ckI) = true
 fst : ∃ fi, x.blocks.getD 0 default = ⟨fi, 1, 0, 1, 0⟩ ∧ (fi.length : Int) = x.regs ∧ fstOK fi
theorem val_mk {p r : Int} {l : List BlkT} {n : Int} (h : 0 ≤ p ∧ p ≤ 6 ∧ 0 ≤ r ∧ r ≤ 3000 ∧ 1 ≤ l.length ∧ l.length ≤ 1000) (hn : (l.length : Int) = n) (z : l.all (blkV p r n) = true) : valV ⟨p, r, l⟩ = true := by subst hn; exact (val_yes (c := ⟨p, r, l⟩) h z).symm
set_option maxHeartbeats 2000000 in
theorem vf_c (ex : FuncId) {a_l : Option Addr} {k_l : Nat} (l : List Int) (params : Int) {F : Fz} {H : Heap} {R : List Fp} (hs : HS (.of H []) F H [] R) (hl : SR F (.slice a_l l.length k_l) l) (hT : TB 37 tabC F) (hp : 0 ≤ params ∧ params ≤ 2) (hbl : l.length ≤ 1000) : C Tryd.prog 1 (KT 60 ex 37 tabC) 16 [(.slice a_l l.length k_l), (.int .i64 params)] H fun v H' => ∃ (x : VFnT) (b7 : Option Addr) (cH : Nat) (F' : Fz), Fz.le F F' ∧ HS (.of H []) F' H' [] R ∧ v = .agg ⟨[.int .i64 x.params, .int .i64 x.regs, .slice b7 x.blocks.length cH]⟩ ∧ in64 x.params ∧ in64 x.regs ∧ SR F' (.slice b7 x.blocks.length cH) x.blocks ∧ (vfG x params) := by
 refine c_enter Tryd.func16 rfl rfl ?_
 refine wk_foc 1 rfl ?_
 refine wk_region ?_
 refine wo_rs (rs_new hs rfl) rfl rfl ?_
 rintro _ H2 _ ⟨b1, rfl, cv, _⟩
 have cv : HS _ _ _ [[(b1, .cells [(.int .i64 0), (.int .i64 0), (.slice none 0 0)] none false)]] _ := cv
 refine wo_end 2 rfl ?_
 refine wk_region ?_
 refine wro 2 0 [] 16 17 [] [(17, (.agg ⟨[(.int .i64 params), (.int .i64 9), (.slice none 0 0)]⟩))] trivial (by kernel_rfl) rfl fun _ => ?_
 refine wo_rs (rs_new cv rfl) rfl rfl ?_
 rintro _ H5 _ ⟨b4, rfl, cw, _⟩
 have cw : HS _ _ _ [_, [(b4, .cells [(.int .i64 0), (.int .i64 0), (.slice none 0 0)] none false)]] _ := cw
 refine wo_rk (rs_rec (q := 1) cw rfl rfl rfl rfl rfl rfl rfl rfl rfl) rfl ?_
 rintro _ H6 _ ⟨cx, _⟩
 have cx : HS _ _ _ [_, [(b4, .cells [(.int .i64 params), (.int .i64 9), (.slice none 0 0)] none false)]] _ := cx
 refine wo_end 2 rfl ?_
 refine wr 3 [] 18 22 [6] [(6, (.int .i64 (1 + (if (5 : Int) < ((l.length / 6 : Nat) : Int) then (5 : Int) else ((l.length / 6 : Nat) : Int)))))] (vA (vA (show (6 : Int) ≠ 0 from by decide) (vi (n := ((l.length / 6 : Nat) : Int)) (by first | omega | (dsimp only; omega)))) (vA (vi (n := 1 + (if (5 : Int) < ((l.length / 6 : Nat) : Int) then (5 : Int) else ((l.length / 6 : Nat) : Int))) (by first | omega | (dsimp only; omega))) trivial)) (by kernel_rfl) rfl fun _ => ?_
 have hM : 1 ≤ (1 + (if (5 : Int) < ((l.length / 6 : Nat) : Int) then (5 : Int) else ((l.length / 6 : Nat) : Int))) ∧ (1 + (if (5 : Int) < ((l.length / 6 : Nat) : Int) then (5 : Int) else ((l.length / 6 : Nat) : Int))) ≤ 6 := by omega
 refine wr 2 [] 1 0 [7] [(7, (.int .i64 0))] trivial (by kernel_rfl) rfl fun _ => ?_
 refine wk_loop_inv (fun (mm : Nat) f H' => ∃ (i : Nat) (F' : Fz), Fz.le F F' ∧ HS (Base.of H []) F' H' [[(b1, .cells [(.int .i64 0), (.int .i64 0), (.slice none 0 0)] none false)], [(b4, .cells [(.int .i64 params), (.int .i64 (9 + (i : Int))), (.slice none 0 0)] none false)]] R ∧ agrees f [(0, (.slice a_l l.length k_l)), (1, (.int .i64 params)), (4, (.pointer (some ⟨b1, 0, none⟩))), (5, (.pointer (some ⟨b4, 0, none⟩))), (6, (.int .i64 (1 + (if (5 : Int) < ((l.length / 6 : Nat) : Int) then (5 : Int) else ((l.length / 6 : Nat) : Int))))), (7, (.int .i64 (i : Int)))] ∧ mm = (params - (i : Int)).toNat ∧ ((i : Int) ≤ params)) _ ⟨0, _, (Fz.le_refl _), cx, (agC rfl (agC rfl (agC rfl (agC rfl (agC rfl (agC rfl agN)))))), rfl, (by first | assumption | omega | (simp at *; omega))⟩ ?_
 rintro fM f9 H9 ⟨i, F9, bV, cy, c4, rfl, q1⟩ dP
 refine wk_canon _ c4 (fun _ => ?_)
 clear c4
 replace hT := hT.mono bV
 replace hl := hl.mono bV
 refine wk_foc 2 rfl ?_
 refine wr 1 [] 23 25 [] [(25, (.bool (decide ((i : Int) < params))))] trivial (by kernel_rfl) rfl fun _ => ?_
 refine wk_if 3 5 (v := (decide ((i : Int) < params))) rfl rfl rfl rfl (fun a9 => ?_) (fun a9 => ?_)
 ·
  have b8 := a9
  try simp only [BS] at b8
  refine wk_region ?_
  refine wro 4 0 [(1, .o (.int .i64 (9 + (i : Int))))] 28 31 [] [(30, (.int .i64 ((9 + (i : Int)) + 1))), (31, (.pointer (some ⟨b4, 1, none⟩)))] (vA (ql 3 1 (HS.hc cy (i := 1) rfl) rfl rfl) (vA (vi (n := (9 + (i : Int)) + 1) (by first | omega | (dsimp only; omega))) trivial)) (by kernel_rfl) rfl fun _ => ?_
  refine wo_rk (rs_rec (q := 1) cy rfl rfl rfl rfl rfl rfl rfl rfl rfl) rfl ?_
  rintro _ eQ _ ⟨bn, _⟩
  have bn : HS _ _ _ [_, [(b4, .cells [(.int .i64 params), (.int .i64 ((9 + (i : Int)) + 1)), (.slice none 0 0)] none false)]] _ := bn
  refine wo_end 2 rfl ?_
  refine wr 1 [] 26 27 [7] [(7, (.int .i64 ((i : Int) + 1)))] (vA (vi (n := (i : Int) + 1) (by first | omega | (dsimp only; omega))) trivial) (by kernel_rfl) rfl fun _ => ?_
  refine dP _ _ _ ?_ ⟨i + 1, _, (bV), bn, (agC rfl (agC rfl (agC rfl (agC rfl (agC rfl (agC rfl agN)))))), rfl, (by first | assumption | omega | (simp at *; omega))⟩
  omega
 ·
  have b8 := a9
  try simp only [BS] at b8
  refine wk_region ?_
  refine wo_rs (rs_new cy rfl) rfl rfl ?_
  rintro _ eR _ ⟨ag, rfl, bo, _⟩
  have bo : HS _ _ _ [_, [(b4, .cells [(.int .i64 params), (.int .i64 (9 + (i : Int))), (.slice none 0 0)] none false)], [(ag, .cells [(.slice none 0 0), (.int .i64 0), (.int .i64 0), (.int .i64 0), (.int .i64 0)] none false)]] _ := bo
  refine wo_end 3 rfl ?_
  refine wr 2 [] 1 0 [9] [(9, (.int .i64 0))] trivial (by kernel_rfl) rfl fun _ => ?_
  have br := HS.snoc bo
  have br : HS _ _ _ [_, _, _, []] _ := br
  refine wk_loop_inv (fun (mm : Nat) f H' => ∃ (fi : List VInT) (r : Nat) (ab : Fp) (E : Option Addr) (I : Nat) (F' : Fz), Fz.le F9 F' ∧ HS (Base.of H []) F' H' [[(b1, .cells [(.int .i64 0), (.int .i64 0), (.slice none 0 0)] none false)], [(b4, .cells [(.int .i64 params), (.int .i64 (9 + (i : Int))), (.slice none 0 0)] none false)], [(ag, .cells [(.slice E fi.length I), (.int .i64 0), (.int .i64 0), (.int .i64 0), (.int .i64 0)] none false)], ab] R ∧ OS F' (.slice E fi.length I) fi ab ∧ agrees f [(0, (.slice a_l l.length k_l)), (1, (.int .i64 params)), (4, (.pointer (some ⟨b1, 0, none⟩))), (5, (.pointer (some ⟨b4, 0, none⟩))), (6, (.int .i64 (1 + (if (5 : Int) < ((l.length / 6 : Nat) : Int) then (5 : Int) else ((l.length / 6 : Nat) : Int))))), (8, (.pointer (some ⟨ag, 0, none⟩))), (9, (.int .i64 (r : Int)))] ∧ mm = (9 + (i : Int) - (r : Int)).toNat ∧ (fi.length = r) ∧ (fi.all (vinV params (9 + (i : Int))) = true) ∧ (fi.all ckI = true) ∧ (fstOK fi) ∧ ((r : Int) ≤ 9 + (i : Int))) _ ⟨([] : List VInT), 0, [], none, 0, _, (Fz.le_refl _), br, (OS.nil : OS F9 (.slice none 0 0) ([] : List VInT) []), (agC rfl (agC rfl (agC rfl (agC rfl (agC rfl (agC rfl (agC rfl agN))))))), rfl, (by rfl), (by rfl), (by rfl), (by intro q hq; cases hq), (by first | assumption | omega | (simp at *; omega))⟩ ?_
  rintro eH fv eS ⟨fi, r, ab, E, I, dA, aJ, bp, ah, cm, rfl, w1, w2, w4, w5, w3⟩ di
  refine wk_canon _ cm (fun _ => ?_)
  clear cm
  replace hT := hT.mono aJ
  replace hl := hl.mono aJ
  refine wk_foc 2 rfl ?_
  refine wr 1 [(2, .o (.int .i64 (9 + (i : Int))))] 32 35 [] [(35, (.bool (decide ((r : Int) < 9 + (i : Int)))))] (vA (ql 3 1 (HS.hc bp (i := 1) rfl) rfl rfl) trivial) (by kernel_rfl) rfl fun _ => ?_
  refine wk_if 4 5 (v := (decide ((r : Int) < 9 + (i : Int)))) rfl rfl rfl rfl (fun bb => ?_) (fun bb => ?_)
  ·
   have b9 := bb
   try simp only [BS] at b9
   refine wk_region ?_
   refine wro 3 0 [] 38 40 [] [(40, (.agg ⟨[(.int .i64 13), (.int .i64 (r : Int)), (.int .i64 0), (.int .i64 0), (.int .i64 (r : Int))]⟩))] trivial (by kernel_rfl) rfl fun _ => ?_
   refine wo_rs (rs_new bp rfl) rfl rfl ?_
   rintro _ eT _ ⟨aF, rfl, bt, _⟩
   have bt : HS _ _ _ [_, _, [(ag, .cells [(.slice E fi.length I), (.int .i64 0), (.int .i64 0), (.int .i64 0), (.int .i64 0)] none false)], ab, [(aF, .cells [(.int .i64 0), (.int .i64 0), (.int .i64 0), (.int .i64 0), (.int .i64 0)] none false)]] _ := bt
   refine wo_rk (rs_rec (q := 4) bt rfl rfl rfl rfl rfl rfl rfl rfl rfl) rfl ?_
   rintro _ eU _ ⟨a0, _⟩
   have a0 : HS _ _ _ [_, _, _, _, [(aF, .cells [(.int .i64 13), (.int .i64 (r : Int)), (.int .i64 0), (.int .i64 0), (.int .i64 (r : Int))] none false)]] _ := a0
   refine wo_end 3 rfl ?_
   refine wr 1 [] 41 43 [] [(43, (.bool (decide ((r : Int) < params))))] trivial (by kernel_rfl) rfl fun _ => ?_
   refine wk_join (fun f H' => ∃ (vo : Int) (F' : Fz), Fz.le dA F' ∧ HS (Base.of H []) F' H' [[(b1, .cells [(.int .i64 0), (.int .i64 0), (.slice none 0 0)] none false)], [(b4, .cells [(.int .i64 params), (.int .i64 (9 + (i : Int))), (.slice none 0 0)] none false)], [(ag, .cells [(.slice E fi.length I), (.int .i64 0), (.int .i64 0), (.int .i64 0), (.int .i64 0)] none false)], ab, [(aF, .cells [(.int .i64 vo), (.int .i64 (r : Int)), (.int .i64 0), (.int .i64 0), (.int .i64 (r : Int))] none false)]] R ∧ agrees f [(0, (.slice a_l l.length k_l)), (1, (.int .i64 params)), (4, (.pointer (some ⟨b1, 0, none⟩))), (5, (.pointer (some ⟨b4, 0, none⟩))), (6, (.int .i64 (1 + (if (5 : Int) < ((l.length / 6 : Nat) : Int) then (5 : Int) else ((l.length / 6 : Nat) : Int))))), (8, (.pointer (some ⟨ag, 0, none⟩))), (9, (.int .i64 (r : Int))), (10, (.pointer (some ⟨aF, 0, none⟩))), (35, (.bool (decide ((r : Int) < 9 + (i : Int))))), (40, (.agg ⟨[(.int .i64 13), (.int .i64 (r : Int)), (.int .i64 0), (.int .i64 0), (.int .i64 (r : Int))]⟩)), (43, (.bool (decide ((r : Int) < params))))] ∧ (vo = 13 ∨ vo = 38 ∧ (r : Int) < params)) (fun cB => ?_) ?_
   ·
    refine wk_if 0 0 (v := (decide ((r : Int) < params))) rfl rfl rfl rfl (fun bc => ?_) (fun bc => ?_)
    ·
     have ca := bc
     try simp only [BS] at ca
     refine wk_region ?_
     refine wro 3 0 [] 44 46 [] [(46, (.agg ⟨[(.int .i64 38), (.int .i64 (r : Int)), (.int .i64 0), (.int .i64 0), (.int .i64 (r : Int))]⟩))] trivial (by kernel_rfl) rfl fun _ => ?_
     refine wo_rk (rs_rec (q := 4) a0 rfl rfl rfl rfl rfl rfl rfl rfl rfl) rfl ?_
     rintro _ eW _ ⟨bw, _⟩
     have bw : HS _ _ _ [_, _, _, _, [(aF, .cells [(.int .i64 38), (.int .i64 (r : Int)), (.int .i64 0), (.int .i64 0), (.int .i64 (r : Int))] none false)]] _ := bw
     refine wo_end 0 rfl ?_
     exact cB _ _ ⟨38, _, (Fz.le_refl _), bw, (agC rfl (agC rfl (agC rfl (agC rfl (agC rfl (agC rfl (agC rfl (agC rfl (agC rfl (agC rfl (agC rfl agN))))))))))), (by first | assumption | omega | (simp at *; omega))⟩
    ·
     have ca := bc
     try simp only [BS] at ca
     exact cB _ _ ⟨13, _, (Fz.le_refl _), a0, (agC rfl (agC rfl (agC rfl (agC rfl (agC rfl (agC rfl (agC rfl (agC rfl (agC rfl (agC rfl (agC rfl agN))))))))))), (by first | assumption | omega | (simp at *; omega))⟩
   ·
    rintro fw eV ⟨vo, eL, cj, bu, cn, hvo⟩
    refine wk_canon _ cn (fun _ => ?_)
    clear cn
    replace ah := ah.mono cj
    refine wk_foc 1 rfl ?_
    refine wk_region ?_
    refine wro 4 0 [(1, .o (.slice E fi.length I)), (2, .o (.agg ⟨[(.int .i64 vo), (.int .i64 (r : Int)), (.int .i64 0), (.int .i64 0), (.int .i64 (r : Int))]⟩))] 47 50 [] [(48, (.slice E fi.length I)), (50, (.agg ⟨[(.int .i64 vo), (.int .i64 (r : Int)), (.int .i64 0), (.int .i64 0), (.int .i64 (r : Int)), (.slice none 0 0)]⟩))] (vA (ql 40 0 (HS.hc bu (i := 2) rfl) rfl rfl) (vA (qn 45 0 5 (HS.hc bu (i := 4) rfl) rfl rfl rfl rfl) trivial)) (by kernel_rfl) rfl fun _ => ?_
    refine wo_rs (rs_lit (α := VInT) (ps := [(0, (.agg ⟨[(.int .i64 vo), (.int .i64 (r : Int)), (.int .i64 0), (.int .i64 0), (.int .i64 (r : Int)), (.slice none 0 0)]⟩))]) (cells := [(.int .i64 vo), (.int .i64 (r : Int)), (.int .i64 0), (.int .i64 0), (.int .i64 (r : Int)), (.slice none 0 0)]) ([(⟨(⟨vo, (r : Int), 0, 0, (r : Int)⟩ : InsT), ([] : List Int)⟩ : VInT)] : List VInT) bu rfl rfl rfl (by kernel_rfl) ⟨[(.int .i64 vo), (.int .i64 (r : Int)), (.int .i64 0), (.int .i64 0), (.int .i64 (r : Int)), (.slice none 0 0)], [], rfl, ⟨none, 0, rfl, by first | omega | (dsimp only; omega), by first | omega | (dsimp only; omega), by first | omega | (dsimp only; omega), by first | omega | (dsimp only; omega), by first | omega | (dsimp only; omega), SR.nil⟩, rfl⟩ rfl) rfl rfl ?_
    rintro _ eX dQ ⟨fq, fJ, rfl, da, a1, _⟩
    have a1 : HS _ _ _ [_, _, _, _, [(aF, .cells [(.int .i64 vo), (.int .i64 (r : Int)), (.int .i64 0), (.int .i64 0), (.int .i64 (r : Int))] none false)], dQ] _ := a1
    refine wo_rs (rs_app (α := VInT) (q := 3) ah a1 rfl rfl rfl (OS.sv da a1 (i := 5) rfl) rfl rfl rfl rfl rfl rfl rfl (by first | omega | (simp only [List.length_append, List.length_cons, List.length_nil]; omega))) rfl rfl ?_
    rintro _ eY c6 ⟨c3, c5, rfl, db, bx, _⟩
    have bx : HS _ _ _ [_, _, _, c6, _, _] _ := bx
    refine wro 1 6 [] 53 53 [] [(53, (.pointer (some ⟨ag, 0, none⟩)))] trivial (by kernel_rfl) rfl fun _ => ?_
    refine wo_rk (rs_rec (q := 2) bx rfl rfl rfl rfl rfl rfl rfl rfl rfl) rfl ?_
    rintro _ eZ _ ⟨bz, _⟩
    have bz : HS _ _ _ [_, _, [(ag, .cells [(.slice c3 (fi ++ ([(⟨(⟨vo, (r : Int), 0, 0, (r : Int)⟩ : InsT), ([] : List Int)⟩ : VInT)] : List VInT)).length c5), (.int .i64 0), (.int .i64 0), (.int .i64 0), (.int .i64 0)] none false)], _, _, _] _ := bz
    refine wo_end 2 rfl ?_
    refine wr 1 [] 36 37 [9] [(9, (.int .i64 ((r : Int) + 1)))] (vA (vi (n := (r : Int) + 1) (by first | omega | (dsimp only; omega))) trivial) (by kernel_rfl) rfl fun _ => ?_
    refine di _ _ _ ?_ ⟨fi ++ ([(⟨(⟨vo, (r : Int), 0, 0, (r : Int)⟩ : InsT), ([] : List Int)⟩ : VInT)] : List VInT), r + 1, c6, c3, c5, _, (Fz.le_trans (aJ) cj), (HS.sub bz (List.sublist_append_left _ _)), db, (agC rfl (agC rfl (agC rfl (agC rfl (agC rfl (agC rfl (agC rfl agN))))))), rfl, (by simp; omega), (by exact all_snoc w2 (vin_ldi (by omega) (by omega))), (by exact all_snoc w4 (ck_ldi (by first | omega | (dsimp only; omega)))), (by exact fst_snoc w5 ⟨by rw [w1], by first | omega | (dsimp only; omega)⟩), (by first | assumption | omega | (simp at *; omega))⟩
    omega
  ·
   have b9 := bb
   try simp only [BS] at b9
   refine wk_region ?_
   refine wro 1 0 [] 54 54 [] [(54, (.pointer (some ⟨ag, 1, none⟩)))] trivial (by kernel_rfl) rfl fun _ => ?_
   refine wo_rk (rs_rec (q := 2) bp rfl rfl rfl rfl rfl rfl rfl rfl rfl) rfl ?_
   rintro _ e0 _ ⟨bA, _⟩
   have bA : HS _ _ _ [_, _, [(ag, .cells [(.slice E fi.length I), (.int .i64 1), (.int .i64 0), (.int .i64 0), (.int .i64 0)] none false)], ab] _ := bA
   refine wro 1 2 [] 55 55 [] [(55, (.pointer (some ⟨ag, 3, none⟩)))] trivial (by kernel_rfl) rfl fun _ => ?_
   refine wo_rk (rs_rec (q := 2) bA rfl rfl rfl rfl rfl rfl rfl rfl rfl) rfl ?_
   rintro _ e7 _ ⟨aB, _⟩
   have aB : HS _ _ _ [_, _, [(ag, .cells [(.slice E fi.length I), (.int .i64 1), (.int .i64 0), (.int .i64 1), (.int .i64 0)] none false)], _] _ := aB
   refine wo_end 2 rfl ?_
   refine wk_region ?_
   refine wro 3 0 [(1, .o (.slice none 0 0)), (2, .o (.agg ⟨[(.slice E fi.length I), (.int .i64 1), (.int .i64 0), (.int .i64 1), (.int .i64 0)]⟩))] 56 58 [] [(57, (.slice none 0 0)), (58, (.agg ⟨[(.slice E fi.length I), (.int .i64 1), (.int .i64 0), (.int .i64 1), (.int .i64 0)]⟩))] (vA (ql 22 2 (HS.hc aB (i := 1) rfl) rfl rfl) (vA (qn 42 0 5 (HS.hc aB (i := 2) rfl) rfl rfl rfl rfl) trivial)) (by kernel_rfl) rfl fun _ => ?_
   obtain ⟨b2, bj, bB, dg, eF⟩ := OS.frz ah aB (i := 3) rfl
   have bB : HS _ _ _ [_, _, _, []] _ := bB
   refine wo_rs (rs_lit (α := BlkT) (ps := [(0, (.agg ⟨[(.slice E fi.length I), (.int .i64 1), (.int .i64 0), (.int .i64 1), (.int .i64 0)]⟩))]) (cells := [(.slice E fi.length I), (.int .i64 1), (.int .i64 0), (.int .i64 1), (.int .i64 0)]) ([(⟨fi, 1, 0, 1, 0⟩ : BlkT)] : List BlkT) bB rfl rfl rfl (by kernel_rfl) ⟨[(.slice E fi.length I), (.int .i64 1), (.int .i64 0), (.int .i64 1), (.int .i64 0)], [], rfl, ⟨E, I, rfl, by first | omega | (dsimp only; omega), by first | omega | (dsimp only; omega), by first | omega | (dsimp only; omega), by first | omega | (dsimp only; omega), dg⟩, rfl⟩ rfl) rfl rfl ?_
   rintro _ e8 a7 ⟨ft, fK, rfl, de, bC, _⟩
   have bC : HS _ _ _ [_, _, _, _, a7] _ := bC
   have a2 := HS.snoc bC
   have a2 : HS _ _ _ [_, _, _, _, _, []] _ := a2
   refine wo_rs (rs_app (α := BlkT) (q := 5) (OS.nil : OS b2 (.slice none 0 0) ([] : List BlkT) []) a2 rfl rfl rfl (OS.sv de a2 (i := 4) rfl) rfl rfl rfl rfl rfl rfl rfl (by first | omega | (simp only [List.length_append, List.length_cons, List.length_nil]; omega))) rfl rfl ?_
   rintro _ e9 cJ ⟨b5, cF, rfl, bm, bD, _⟩
   have bD : HS _ _ _ [_, _, _, _, _, cJ] _ := bD
   have bm : OS b2 (.slice b5 ([(⟨fi, 1, 0, 1, 0⟩ : BlkT)] : List BlkT).length cF) ([(⟨fi, 1, 0, 1, 0⟩ : BlkT)] : List BlkT) cJ := bm
   refine wro 1 5 [] 61 61 [] [(61, (.pointer (some ⟨b4, 2, none⟩)))] trivial (by kernel_rfl) rfl fun _ => ?_
   refine wo_rk (rs_rec (q := 1) bD rfl rfl rfl rfl rfl rfl rfl rfl rfl) rfl ?_
   rintro _ fb _ ⟨bE, _⟩
   have bE : HS _ _ _ [_, [(b4, .cells [(.int .i64 params), (.int .i64 (9 + (i : Int))), (.slice b5 ([(⟨fi, 1, 0, 1, 0⟩ : BlkT)] : List BlkT).length cF)] none false)], _, _, _, _] _ := bE
   refine wo_end 3 rfl ?_
   refine wr 2 [] 1 0 [11] [(11, (.int .i64 0))] trivial (by kernel_rfl) rfl fun _ => ?_
   refine wk_loop_inv (fun (mm : Nat) f H' => ∃ (bl : List BlkT) (b : Nat) (Y : Fp) (J : Option Addr) (N : Nat) (F' : Fz), Fz.le b2 F' ∧ HS (Base.of H []) F' H' [[(b1, .cells [(.int .i64 0), (.int .i64 0), (.slice none 0 0)] none false)], [(b4, .cells [(.int .i64 params), (.int .i64 (9 + (i : Int))), (.slice J bl.length N)] none false)], [(ag, .cells [(.slice E fi.length I), (.int .i64 1), (.int .i64 0), (.int .i64 1), (.int .i64 0)] none false)], [], a7, Y] R ∧ OS F' (.slice J bl.length N) bl Y ∧ agrees f [(0, (.slice a_l l.length k_l)), (4, (.pointer (some ⟨b1, 0, none⟩))), (5, (.pointer (some ⟨b4, 0, none⟩))), (6, (.int .i64 (1 + (if (5 : Int) < ((l.length / 6 : Nat) : Int) then (5 : Int) else ((l.length / 6 : Nat) : Int))))), (11, (.int .i64 (b : Int)))] ∧ mm = ((1 + (if (5 : Int) < ((l.length / 6 : Nat) : Int) then (5 : Int) else ((l.length / 6 : Nat) : Int))) - (b : Int)).toNat ∧ (bl.length = b + 1) ∧ (bl.all (blkV params (9 + (i : Int)) ((1 + (if (5 : Int) < ((l.length / 6 : Nat) : Int) then (5 : Int) else ((l.length / 6 : Nat) : Int))) + 1)) = true) ∧ (∀ y ∈ bl, y.ins.length ≤ 11) ∧ (bl.all (fun y => y.ins.all ckI) = true) ∧ (bl.getD 0 default = ⟨fi, 1, 0, 1, 0⟩) ∧ ((b : Int) ≤ (1 + (if (5 : Int) < ((l.length / 6 : Nat) : Int) then (5 : Int) else ((l.length / 6 : Nat) : Int))))) _ ⟨([(⟨fi, 1, 0, 1, 0⟩ : BlkT)] : List BlkT), 0, cJ, b5, cF, _, (Fz.le_refl _), bE, bm, (agC rfl (agC rfl (agC rfl (agC rfl (agC rfl agN))))), rfl, (by rfl), (by exact all_snoc (l := []) rfl (blk_mk w2 (by omega))), (by exact ins_snoc (l := []) (by simp) (by first | omega | (dsimp only; omega))), (by exact all_snoc (l := []) rfl w4), (by rfl), (by first | assumption | omega | (simp at *; omega))⟩ ?_
   rintro eI fy fc ⟨bl, b, Y, J, N, cZ, aK, bF, T, co, rfl, e1, e2, e3, e5, e6, e4⟩ dj
   refine wk_canon _ co (fun _ => ?_)
   clear co
   replace hT := (hT.mono bj).mono aK
   replace hl := (hl.mono bj).mono aK
   refine wk_foc 2 rfl ?_
   refine wr 1 [] 62 64 [] [(64, (.bool (decide ((b : Int) < 1 + (if (5 : Int) < ((l.length / 6 : Nat) : Int) then (5 : Int) else ((l.length / 6 : Nat) : Int))))))] trivial (by kernel_rfl) rfl fun _ => ?_
   refine wk_if 4 5 (v := (decide ((b : Int) < 1 + (if (5 : Int) < ((l.length / 6 : Nat) : Int) then (5 : Int) else ((l.length / 6 : Nat) : Int))))) rfl rfl rfl rfl (fun bd => ?_) (fun bd => ?_)
   ·
    have cb := bd
    try simp only [BS] at cb
    refine wk_region ?_
    refine wo_rs (rs_new bF rfl) rfl rfl ?_
    rintro _ fd _ ⟨O, rfl, bG, _⟩
    have bG : HS _ _ _ [_, [(b4, .cells [(.int .i64 params), (.int .i64 (9 + (i : Int))), (.slice J bl.length N)] none false)], _, _, _, Y, [(O, .cells [(.slice none 0 0), (.int .i64 0), (.int .i64 0), (.int .i64 0), (.int .i64 0)] none false)]] _ := bG
    refine wo_end 3 rfl ?_
    refine wr 2 [] 1 0 [13] [(13, (.int .i64 0))] trivial (by kernel_rfl) rfl fun _ => ?_
    have bH := HS.snoc bG
    have bH : HS _ _ _ [_, _, _, _, _, _, _, []] _ := bH
    refine wk_loop_inv (fun (mm : Nat) f H' => ∃ (xi : List VInT) (k : Nat) (Z : Fp) (z : Option Addr) (A : Nat) (F' : Fz), Fz.le cZ F' ∧ HS (Base.of H []) F' H' [[(b1, .cells [(.int .i64 0), (.int .i64 0), (.slice none 0 0)] none false)], [(b4, .cells [(.int .i64 params), (.int .i64 (9 + (i : Int))), (.slice J bl.length N)] none false)], [(ag, .cells [(.slice E fi.length I), (.int .i64 1), (.int .i64 0), (.int .i64 1), (.int .i64 0)] none false)], [], a7, Y, [(O, .cells [(.slice z xi.length A), (.int .i64 0), (.int .i64 0), (.int .i64 0), (.int .i64 0)] none false)], Z] R ∧ OS F' (.slice z xi.length A) xi Z ∧ agrees f [(0, (.slice a_l l.length k_l)), (4, (.pointer (some ⟨b1, 0, none⟩))), (5, (.pointer (some ⟨b4, 0, none⟩))), (6, (.int .i64 (1 + (if (5 : Int) < ((l.length / 6 : Nat) : Int) then (5 : Int) else ((l.length / 6 : Nat) : Int))))), (11, (.int .i64 (b : Int))), (12, (.pointer (some ⟨O, 0, none⟩))), (13, (.int .i64 (k : Int))), (64, (.bool (decide ((b : Int) < 1 + (if (5 : Int) < ((l.length / 6 : Nat) : Int) then (5 : Int) else ((l.length / 6 : Nat) : Int))))))] ∧ mm = 5 - k ∧ (xi.length = k) ∧ (xi.all (vinV params (9 + (i : Int))) = true) ∧ (xi.all ckI = true) ∧ (k ≤ 5)) _ ⟨([] : List VInT), 0, [], none, 0, _, (Fz.le_refl _), bH, (OS.nil : OS cZ (.slice none 0 0) ([] : List VInT) []), (agC rfl (agC rfl (agC rfl (agC rfl (agC rfl (agC rfl (agC rfl (agC rfl agN)))))))), rfl, (by rfl), (by rfl), (by rfl), (by first | assumption | omega | (simp at *; omega))⟩ ?_
    rintro eJ fA c0 ⟨xi, k, Z, z, A, eM, aA, ai, U, cp, rfl, z1, z2, z4, z3⟩ dk
    refine wk_canon _ cp (fun _ => ?_)
    clear cp
    replace hT := hT.mono aA
    replace hl := hl.mono aA
    replace T := T.mono aA
    refine wk_foc 2 rfl ?_
    refine wr 1 [] 67 77 [] [(77, (.bool ((decide ((k : Int) < 5)) && (decide ((6 * (b : Int)) + (k : Int) < (l.length : Int))))))] (vA (fun (g1 : (decide ((k : Int) < 5)) = true) => (vi (n := 6 * (b : Int)) (by (try simp only [BS] at g1); (first | omega | (dsimp only; omega))))) (vA (fun (g1 : (decide ((k : Int) < 5)) = true) => (vi (n := (6 * (b : Int)) + (k : Int)) (by (try simp only [BS] at g1); (first | omega | (dsimp only; omega))))) trivial)) (by kernel_rfl) rfl fun _ => ?_
    refine wk_if 3 5 (v := ((decide ((k : Int) < 5)) && (decide ((6 * (b : Int)) + (k : Int) < (l.length : Int))))) rfl rfl rfl rfl (fun be => ?_) (fun be => ?_)
    ·
     have cc := be
     try simp only [BS] at cc
     refine wf_region rfl ?_
     refine wf_pure (v := (.pointer (some ⟨O, 0, none⟩))) (id := .v) (ap_fa rfl rfl) rfl rfl (did_v rfl) (okD_v _) ?_
     refine wf_pure (v := (.slice z xi.length A)) (id := .l O) (ap_ld1 (i := 0) rfl rfl (HS.hc ai.log0 (i := 6) rfl) rfl rfl) rfl rfl (did_l rfl) (⟨.inl rfl, trivial⟩) ?_
     refine fm (.slice a_l l.length k_l) rfl rfl rfl ?_
     refine fm (.int .i64 (b : Int)) rfl rfl rfl ?_
     refine wf_pure (v := (.int .i64 (6 * (b : Int)))) (id := .v) (ap_mul rfl rfl (w_i64 (n := 6 * (b : Int)) (by first | omega | (dsimp only; omega)))) rfl rfl (did_v rfl) (okD_v _) ?_
     refine fm (.int .i64 (k : Int)) rfl rfl rfl ?_
     refine wf_pure (v := (.int .i64 ((6 * (b : Int)) + (k : Int)))) (id := .v) (ap_add rfl rfl (w_i64 (n := (6 * (b : Int)) + (k : Int)) (by first | omega | (dsimp only; omega)))) rfl rfl (did_v rfl) (okD_v _) ?_
     refine wf_pure (v := (.pointer (some ⟨sB (.slice a_l l.length k_l), sO (.slice a_l l.length k_l) + ((6 * b) + k) * Rp.sz Int, none⟩))) (id := .v) (ap_idxV (α := Int) (j := (6 * (b : Int)) + (k : Int)) rfl rfl rfl rfl (SR.sv hl ai.log0) (by first | omega | (dsimp only; omega)) (by first | omega | (dsimp only; omega))) rfl rfl (did_v rfl) (okD_v _) ?_
     obtain ⟨ey, dh, c9⟩ := Sv.at (SR.sv hl ai.log0) (getD_at (x := (0 : Int)) (show (6 * b) + k < l.length from by first | omega | (dsimp only; omega)))
     obtain ⟨rfl, dX⟩ := dh
     refine wf_pure (v := (.int .i64 (l.getD ((6 * b) + k) 0))) (id := .l (sB (.slice a_l l.length k_l))) (ap_ld1 (i := 0) rfl rfl c9 rfl rfl) rfl rfl (did_l rfl) (⟨.inl rfl, ⟨.inl rfl, ⟨.inl rfl, ⟨.inl rfl, ⟨.inl rfl, ⟨.inl rfl, ⟨.inr trivial, ⟨.inr trivial, trivial⟩⟩⟩⟩⟩⟩⟩⟩) ?_
     refine wf_pure (v := (.agg ⟨[(.int .i64 params), (.int .i64 (9 + (i : Int))), (.slice J bl.length N)]⟩)) (id := .l b4) (ap_ldN (i := 0) rfl rfl rfl (HS.hc ai.log0 (i := 1) rfl) rfl rfl rfl) rfl rfl (did_l rfl) (⟨.inr trivial, ⟨.inr trivial, ⟨.inr trivial, ⟨.inr trivial, ⟨.inr trivial, ⟨.inr trivial, ⟨.inr trivial, ⟨.inr trivial, ⟨.inr trivial, trivial⟩⟩⟩⟩⟩⟩⟩⟩⟩) ?_
     refine wf_call (W := []) (ap_call rfl rfl rfl) rfl rfl rfl (m4.vi_c ex (l.getD ((6 * b) + k) 0) (⟨params, 9 + (i : Int), bl⟩ : VFnT) (HS.call ai.log0) (by first | omega | (dsimp only; omega)) (by first | omega | (dsimp only; omega)) (by first | omega | (dsimp only; omega)) hT (by first | omega | (dsimp only; omega))) (⟨.inl rfl, ⟨.inl rfl, ⟨.inl rfl, ⟨.inl rfl, ⟨.inl rfl, ⟨.inl rfl, ⟨.inl rfl, ⟨.inl rfl, ⟨.inr List.not_mem_nil, ⟨.inr trivial, trivial⟩⟩⟩⟩⟩⟩⟩⟩⟩⟩) ?_
     rintro _ dE ⟨aa, aq, av, eN, cl, aj, rfl, dv, dw, dx, dy, dz, b0, fE, eE⟩
     refine ⟨Wr.did aj.log, fun dl cR => ?_⟩
     replace aj := HS.back ai.log0 rfl aj
     replace aj := HS.lg aj ai cR
     generalize ({ dE with log := dl } : Heap) = er at aj ⊢
     have aj : HS _ _ _ [_, _, _, _, _, _, [(O, .cells [(.slice z xi.length A), (.int .i64 0), (.int .i64 0), (.int .i64 0), (.int .i64 0)] none false)], Z] _ := aj
     replace U := U.mono cl
     refine wf_rs (id := .a) (rs_lit (α := VInT) (ps := [(0, (.agg ⟨[(.int .i64 aa.i.op), (.int .i64 aa.i.a), (.int .i64 aa.i.b), (.int .i64 aa.i.c), (.int .i64 aa.i.n), (.slice aq aa.args.length av)]⟩))]) (cells := [(.int .i64 aa.i.op), (.int .i64 aa.i.a), (.int .i64 aa.i.b), (.int .i64 aa.i.c), (.int .i64 aa.i.n), (.slice aq aa.args.length av)]) ([aa] : List VInT) aj.log0 rfl rfl rfl (by kernel_rfl) ⟨[(.int .i64 aa.i.op), (.int .i64 aa.i.a), (.int .i64 aa.i.b), (.int .i64 aa.i.c), (.int .i64 aa.i.n), (.slice aq aa.args.length av)], [], rfl, ⟨aq, av, rfl, by first | omega | (dsimp only; omega), by first | omega | (dsimp only; omega), by first | omega | (dsimp only; omega), by first | omega | (dsimp only; omega), by first | omega | (dsimp only; omega), b0⟩, rfl⟩ rfl) rfl rfl (fun _ _ _ _ => did_a rfl rfl rfl) (⟨.inl rfl, ⟨.inl rfl, ⟨.inl rfl, ⟨.inl rfl, ⟨.inl rfl, ⟨.inl rfl, ⟨.inl rfl, ⟨.inl rfl, ⟨.inl rfl, ⟨.inr trivial, ⟨.inr trivial, trivial⟩⟩⟩⟩⟩⟩⟩⟩⟩⟩⟩) ?_
     rintro _ dF dR ⟨fu, fL, rfl, df, al, _⟩ dm cS
     replace al := HS.lg al aj cS
     generalize ({ dF with log := dm } : Heap) = es at al ⊢
     have al : HS _ _ _ [_, _, _, _, _, _, _, _, dR] _ := al
     refine wf_rs (id := .x (Z.map Prod.fst)) (rs_app (α := VInT) (q := 7) U al.log0 rfl rfl rfl (OS.sv df al.log0 (i := 8) rfl) rfl rfl rfl rfl rfl rfl rfl (by first | omega | (simp only [List.length_append, List.length_cons, List.length_nil]; omega))) rfl rfl (by rintro _ _ cL ⟨b6, cG, rfl, cu, _, hwr⟩; exact did_x rfl rfl (Wr.did hwr)) (⟨.inl rfl, ⟨.inl rfl, ⟨.inl rfl, ⟨.inl rfl, ⟨.inl rfl, ⟨.inl rfl, ⟨.inl rfl, ⟨.inl rfl, ⟨.inl rfl, ⟨.inl rfl, ⟨.inl rfl, ⟨.inl rfl, trivial⟩⟩⟩⟩⟩⟩⟩⟩⟩⟩⟩⟩) ?_
     rintro _ dG cL ⟨b6, cG, rfl, cu, ap, _⟩ dn cT
     replace ap := HS.lg ap al cT
     generalize ({ dG with log := dn } : Heap) = et at ap ⊢
     have ap : HS _ _ _ [_, _, _, _, _, _, _, cL, _] _ := ap
     refine wf_pure (v := (.pointer (some ⟨O, 0, none⟩))) (id := .v) (ap_fa rfl rfl) rfl rfl (did_v rfl) (okD_v _) ?_
     refine wf_rk (id := .x [O]) (rs_rec (q := 6) ap.log0 rfl rfl rfl rfl rfl rfl rfl rfl rfl) rfl (by rintro _ _ _ ⟨_, hwr⟩; exact did_x rfl rfl (Wr.did hwr)) (⟨.inl rfl, ⟨.inl rfl, ⟨.inl rfl, ⟨.inl rfl, ⟨.inl rfl, ⟨.inl rfl, ⟨.inl rfl, ⟨.inl rfl, ⟨.inl rfl, ⟨.inl rfl, ⟨.inl rfl, ⟨.inl rfl, ⟨.inl rfl, ⟨.inl rfl, trivial⟩⟩⟩⟩⟩⟩⟩⟩⟩⟩⟩⟩⟩⟩) ?_
     rintro _ dH _ ⟨aw, _⟩ dp cU
     replace aw := HS.lg aw ap cU
     generalize ({ dH with log := dp } : Heap) = eu at aw ⊢
     have aw : HS _ _ _ [_, _, _, _, _, _, [(O, .cells [(.slice b6 (xi ++ ([aa] : List VInT)).length cG), (.int .i64 0), (.int .i64 0), (.int .i64 0), (.int .i64 0)] none false)], _, _] _ := aw
     refine wf_nil ?_
     refine wk_foc 2 rfl ?_
     refine wr 1 [] 78 79 [13] [(13, (.int .i64 ((k : Int) + 1)))] (vA (vi (n := (k : Int) + 1) (by first | omega | (dsimp only; omega))) trivial) (by kernel_rfl) rfl fun _ => ?_
     refine dk _ _ _ ?_ ⟨xi ++ ([aa] : List VInT), k + 1, cL, b6, cG, _, (Fz.le_trans (aA) cl), (HS.sub aw (List.sublist_append_left _ _)), cu, (agC rfl (agC rfl (agC rfl (agC rfl (agC rfl (agC rfl (agC rfl (agC rfl agN)))))))), rfl, (by simp; omega), (by exact all_snoc z2 (by assumption)), (by exact all_snoc z4 (by assumption)), (by first | assumption | omega | (simp at *; omega))⟩
     omega
    ·
     have cc := be
     try simp only [BS] at cc
     refine wr 3 [] 1 0 [14] [(14, (.int .i64 0))] trivial (by kernel_rfl) rfl fun _ => ?_
     refine wr 1 [] 94 99 [] [(99, (.bool (decide ((6 * (b : Int)) + 5 < (l.length : Int)))))] (vA (vi (n := 6 * (b : Int)) (by first | omega | (dsimp only; omega))) (vA (vi (n := (6 * (b : Int)) + 5) (by first | omega | (dsimp only; omega))) trivial)) (by kernel_rfl) rfl fun _ => ?_
     refine wk_join (fun f H' => ∃ (nn : Int), H' = c0 ∧ agrees f [(0, (.slice a_l l.length k_l)), (4, (.pointer (some ⟨b1, 0, none⟩))), (5, (.pointer (some ⟨b4, 0, none⟩))), (6, (.int .i64 (1 + (if (5 : Int) < ((l.length / 6 : Nat) : Int) then (5 : Int) else ((l.length / 6 : Nat) : Int))))), (11, (.int .i64 (b : Int))), (12, (.pointer (some ⟨O, 0, none⟩))), (13, (.int .i64 (k : Int))), (14, (.int .i64 nn)), (64, (.bool (decide ((b : Int) < 1 + (if (5 : Int) < ((l.length / 6 : Nat) : Int) then (5 : Int) else ((l.length / 6 : Nat) : Int)))))), (77, (.bool ((decide ((k : Int) < 5)) && (decide ((6 * (b : Int)) + (k : Int) < (l.length : Int)))))), (99, (.bool (decide ((6 * (b : Int)) + 5 < (l.length : Int)))))] ∧ (in64 nn)) (fun cC => ?_) ?_
     ·
      refine wk_if 0 0 (v := (decide ((6 * (b : Int)) + 5 < (l.length : Int)))) rfl rfl rfl rfl (fun bf => ?_) (fun bf => ?_)
      ·
       have cd := bf
       try simp only [BS] at cd
       obtain ⟨ew, cz⟩ := Sv.view (SR.sv hl ai)
       have fD := fI (cz ((6 * b) + 5))
       refine wr 0 [(5, .o (.int .i64 (l.getD ((6 * b) + 5) 0)))] 100 105 [14] [(14, (.int .i64 (l.getD ((6 * b) + 5) 0)))] (vA (vi (n := 6 * (b : Int)) (by first | omega | (dsimp only; omega))) (vA (vi (n := (6 * (b : Int)) + 5) (by first | omega | (dsimp only; omega))) (vA (Sv.ix (j := (6 * (b : Int)) + 5) (SR.sv hl ai) (by first | omega | (dsimp only; omega)) (by first | omega | (dsimp only; omega))) (vA (ql 3 0 (vI (cz ((6 * b) + 5)) (by first | omega | (dsimp only; omega))) rfl rfl) trivial)))) (by kernel_rfl) rfl fun _ => ?_
       exact cC _ _ ⟨(l.getD ((6 * b) + 5) 0), rfl, (agC rfl (agC rfl (agC rfl (agC rfl (agC rfl (agC rfl (agC rfl (agC rfl (agC rfl (agC rfl (agC rfl agN))))))))))), (by first | assumption | omega | (simp at *; omega))⟩
      ·
       have cd := bf
       try simp only [BS] at cd
       exact cC _ _ ⟨0, rfl, (agC rfl (agC rfl (agC rfl (agC rfl (agC rfl (agC rfl (agC rfl (agC rfl (agC rfl (agC rfl (agC rfl agN))))))))))), (by first | assumption | omega | (simp at *; omega))⟩
     ·
      rintro fB c0 ⟨nn, rfl, cr, hnn⟩
      refine wk_canon _ cr (fun _ => ?_)
      clear cr
      refine wk_foc 2 rfl ?_
      refine wk_region ?_
      refine wro 2 0 [] 106 107 [] [(107, (.agg ⟨[(.int .i64 nn)]⟩))] trivial (by kernel_rfl) rfl fun _ => ?_
      refine wo_rs (rs_box ai rfl rfl) rfl rfl ?_
      rintro _ fe _ ⟨V, rfl, a3, _⟩
      have a3 : HS _ _ _ [_, _, _, _, _, _, [(O, .cells [(.slice z xi.length A), (.int .i64 0), (.int .i64 0), (.int .i64 0), (.int .i64 0)] none false)], Z, [(V, .cells [(.int .i64 nn)] none false)]] _ := a3
      refine wa (.pointer (some ⟨V, 0, none⟩)) rfl rfl rfl ?_
      refine wo_end 3 rfl ?_
      refine wk_region ?_
      refine wm (.pointer (some ⟨V, 0, none⟩)) rfl rfl rfl ?_
      refine wo_call (ap_call rfl rfl rfl) rfl rfl (m4.next_c ex (⟨nn⟩ : DigT) (6) (HS.callOwn a3 (i := 8) rfl) (by first | omega | (dsimp only; omega)) (by first | omega | (dsimp only; omega)) hT (by first | omega | (dsimp only; omega))) ?_
      rintro _ ff ⟨ao, az, dB, aL, ad, rfl, dM, fF⟩
      replace ad := HS.backOwn a3 (i := 8) rfl rfl (fun _ hb => hb) ad
      have ad : HS _ _ _ [_, _, _, _, _, _, _, _, [(V, .cells [(.int .i64 az.n)] none false)]] _ := ad
      replace hT := hT.mono aL
      replace T := T.mono aL
      replace U := U.mono aL
      refine wo_end 3 rfl ?_
      refine wr 1 [] 127 128 [] [(127, (.bool (ao == 0)))] trivial (by kernel_rfl) rfl fun _ => ?_
      refine wk_join (fun f H' => ∃ (xe : Int) (xg : Int) (xt : Int) (xf : Int) (dd : DigT) (F' : Fz), Fz.le dB F' ∧ HS (Base.of H []) F' H' [[(b1, .cells [(.int .i64 0), (.int .i64 0), (.slice none 0 0)] none false)], [(b4, .cells [(.int .i64 params), (.int .i64 (9 + (i : Int))), (.slice J bl.length N)] none false)], [(ag, .cells [(.slice E fi.length I), (.int .i64 1), (.int .i64 0), (.int .i64 1), (.int .i64 0)] none false)], [], a7, Y, [(O, .cells [(.slice z xi.length A), (.int .i64 xe), (.int .i64 xg), (.int .i64 xt), (.int .i64 xf)] none false)], Z, [(V, .cells [(.int .i64 dd.n)] none false)]] R ∧ agrees f [(0, (.slice a_l l.length k_l)), (4, (.pointer (some ⟨b1, 0, none⟩))), (5, (.pointer (some ⟨b4, 0, none⟩))), (6, (.int .i64 (1 + (if (5 : Int) < ((l.length / 6 : Nat) : Int) then (5 : Int) else ((l.length / 6 : Nat) : Int))))), (11, (.int .i64 (b : Int))), (12, (.pointer (some ⟨O, 0, none⟩))), (13, (.int .i64 (k : Int))), (14, (.int .i64 nn)), (15, (.pointer (some ⟨V, 0, none⟩))), (64, (.bool (decide ((b : Int) < 1 + (if (5 : Int) < ((l.length / 6 : Nat) : Int) then (5 : Int) else ((l.length / 6 : Nat) : Int)))))), (77, (.bool ((decide ((k : Int) < 5)) && (decide ((6 * (b : Int)) + (k : Int) < (l.length : Int)))))), (99, (.bool (decide ((6 * (b : Int)) + 5 < (l.length : Int))))), (107, (.agg ⟨[(.int .i64 nn)]⟩)), (108, (.pointer (some ⟨V, 0, none⟩))), (109, (.pointer (some ⟨V, 0, none⟩))), (110, (.int .i64 ao)), (127, (.bool (ao == 0)))] ∧ ((xe = 1 ∧ 0 ≤ xt ∧ xt < ((1 + (if (5 : Int) < ((l.length / 6 : Nat) : Int) then (5 : Int) else ((l.length / 6 : Nat) : Int)))) + 1 ∧ xf = 0 ∧ xg = 0 ∨ xe = 2 ∧ 0 ≤ xt ∧ xt < ((1 + (if (5 : Int) < ((l.length / 6 : Nat) : Int) then (5 : Int) else ((l.length / 6 : Nat) : Int)))) + 1 ∧ 0 ≤ xf ∧ xf < ((1 + (if (5 : Int) < ((l.length / 6 : Nat) : Int) then (5 : Int) else ((l.length / 6 : Nat) : Int)))) + 1 ∧ 0 ≤ xg ∧ xg < 9 + (i : Int) ∨ xe = 3 ∧ 0 ≤ xg ∧ xg < 9 + (i : Int) ∧ xt = 0 ∧ xf = 0 ∨ xe = 4 ∧ 1 ≤ xt ∧ xt < 33554432 ∧ xf = 0 ∧ xg = 0)) ∧ (in64 dd.n)) (fun a4 => ?_) ?_
      ·
       refine wk_if 0 1 (v := (ao == 0)) rfl rfl rfl rfl (fun bg => ?_) (fun bg => ?_)
       ·
        have ce := bg
        try simp only [BS] at ce
        refine wk_region ?_
        refine wro 2 0 [] 129 130 [] [(129, (.pointer (some ⟨V, 0, none⟩))), (130, (.int .i64 (1 + (if (5 : Int) < ((l.length / 6 : Nat) : Int) then (5 : Int) else ((l.length / 6 : Nat) : Int)))))] trivial (by kernel_rfl) rfl fun _ => ?_
        refine wo_call (ap_call rfl rfl rfl) rfl rfl (m4.next_c ex (⟨az.n⟩ : DigT) (1 + (if (5 : Int) < ((l.length / 6 : Nat) : Int) then (5 : Int) else ((l.length / 6 : Nat) : Int))) (HS.callOwn ad (i := 8) rfl) (by first | omega | (dsimp only; omega)) (by first | omega | (dsimp only; omega)) hT (by first | omega | (dsimp only; omega))) ?_
        rintro _ fh ⟨bY, ch, eO, c7, aC, rfl, dN, fG⟩
        replace aC := HS.backOwn ad (i := 8) rfl rfl (fun _ hb => hb) aC
        have aC : HS _ _ _ [_, _, _, _, _, _, _, _, [(V, .cells [(.int .i64 ch.n)] none false)]] _ := aC
        refine wro 2 3 [] 132 133 [] [(132, (.int .i64 (1 + bY))), (133, (.pointer (some ⟨O, 1, none⟩)))] (vA (vi (n := 1 + bY) (by first | omega | (dsimp only; omega))) trivial) (by kernel_rfl) rfl fun _ => ?_
        refine wo_rk (rs_rec (q := 6) aC rfl rfl rfl rfl rfl rfl rfl rfl rfl) rfl ?_
        rintro _ fj _ ⟨bK, _⟩
        have bK : HS _ _ _ [_, _, _, _, _, _, [(O, .cells [(.slice z xi.length A), (.int .i64 1), (.int .i64 0), (.int .i64 0), (.int .i64 0)] none false)], _, _] _ := bK
        refine wro 1 6 [] 134 134 [] [(134, (.pointer (some ⟨O, 3, none⟩)))] trivial (by kernel_rfl) rfl fun _ => ?_
        refine wo_rk (rs_rec (q := 6) bK rfl rfl rfl rfl rfl rfl rfl rfl rfl) rfl ?_
        rintro _ fk _ ⟨bL, _⟩
        have bL : HS _ _ _ [_, _, _, _, _, _, [(O, .cells [(.slice z xi.length A), (.int .i64 1), (.int .i64 0), (.int .i64 (1 + bY)), (.int .i64 0)] none false)], _, _] _ := bL
        refine wo_end 0 rfl ?_
        exact a4 _ _ ⟨1, 0, 1 + bY, 0, (⟨ch.n⟩ : DigT), _, (c7), bL, (agC rfl (agC rfl (agC rfl (agC rfl (agC rfl (agC rfl (agC rfl (agC rfl (agC rfl (agC rfl (agC rfl (agC rfl (agC rfl (agC rfl (agC rfl (agC rfl (agC rfl agN))))))))))))))))), (by first | assumption | omega | (simp at *; omega)), (by first | assumption | omega | (simp at *; omega))⟩
       ·
        have ce := bg
        try simp only [BS] at ce
        refine wr 1 [] 135 136 [] [(135, (.bool (ao == 1)))] trivial (by kernel_rfl) rfl fun _ => ?_
        refine wk_if 0 1 (v := (ao == 1)) rfl rfl rfl rfl (fun bh => ?_) (fun bh => ?_)
        ·
         have cg := bh
         try simp only [BS] at cg
         refine wk_region ?_
         refine wm (.pointer (some ⟨V, 0, none⟩)) rfl rfl rfl ?_
         refine wo_call (ap_call rfl rfl rfl) rfl rfl (m4.next_c ex (⟨az.n⟩ : DigT) (9) (HS.callOwn ad (i := 8) rfl) (by first | omega | (dsimp only; omega)) (by first | omega | (dsimp only; omega)) hT (by first | omega | (dsimp only; omega))) ?_
         rintro _ fl ⟨bZ, ci, eP, c8, aD, rfl, dO, fH⟩
         replace aD := HS.backOwn ad (i := 8) rfl rfl (fun _ hb => hb) aD
         have aD : HS _ _ _ [_, _, _, _, _, _, _, _, [(V, .cells [(.int .i64 ci.n)] none false)]] _ := aD
         refine wro 2 2 [] 139 140 [] [(139, (.int .i64 (1 + bZ))), (140, (.pointer (some ⟨O, 1, none⟩)))] (vA (vi (n := 1 + bZ) (by first | omega | (dsimp only; omega))) trivial) (by kernel_rfl) rfl fun _ => ?_
         refine wo_rk (rs_rec (q := 6) aD rfl rfl rfl rfl rfl rfl rfl rfl rfl) rfl ?_
         rintro _ fo _ ⟨bM, _⟩
         have bM : HS _ _ _ [_, _, _, _, _, _, [(O, .cells [(.slice z xi.length A), (.int .i64 4), (.int .i64 0), (.int .i64 0), (.int .i64 0)] none false)], _, _] _ := bM
         refine wro 1 5 [] 141 141 [] [(141, (.pointer (some ⟨O, 3, none⟩)))] trivial (by kernel_rfl) rfl fun _ => ?_
         refine wo_rk (rs_rec (q := 6) bM rfl rfl rfl rfl rfl rfl rfl rfl rfl) rfl ?_
         rintro _ fp _ ⟨bN, _⟩
         have bN : HS _ _ _ [_, _, _, _, _, _, [(O, .cells [(.slice z xi.length A), (.int .i64 4), (.int .i64 0), (.int .i64 (1 + bZ)), (.int .i64 0)] none false)], _, _] _ := bN
         refine wo_end 0 rfl ?_
         exact a4 _ _ ⟨4, 0, 1 + bZ, 0, (⟨ci.n⟩ : DigT), _, (c8), bN, (agC rfl (agC rfl (agC rfl (agC rfl (agC rfl (agC rfl (agC rfl (agC rfl (agC rfl (agC rfl (agC rfl (agC rfl (agC rfl (agC rfl (agC rfl (agC rfl (agC rfl agN))))))))))))))))), (by first | assumption | omega | (simp at *; omega)), (by first | assumption | omega | (simp at *; omega))⟩
        ·
         have cg := bh
         try simp only [BS] at cg
         refine wr 1 [] 142 143 [] [(142, (.bool (ao == 2)))] trivial (by kernel_rfl) rfl fun _ => ?_
         refine wk_if 0 0 (v := (ao == 2)) rfl rfl rfl rfl (fun aG => ?_) (fun aG => ?_)
         ·
          have a8 := aG
          try simp only [BS] at a8
          refine wk_region ?_
          refine wro 3 0 [(2, .o (.int .i64 (9 + (i : Int))))] 144 146 [] [(144, (.pointer (some ⟨V, 0, none⟩))), (146, (.int .i64 (9 + (i : Int))))] (vA (ql 3 1 (HS.hc ad (i := 1) rfl) rfl rfl) trivial) (by kernel_rfl) rfl fun _ => ?_
          refine wo_call (ap_call rfl rfl rfl) rfl rfl (m4.next_c ex (⟨az.n⟩ : DigT) (9 + (i : Int)) (HS.callOwn ad (i := 8) rfl) (by first | omega | (dsimp only; omega)) (by first | omega | (dsimp only; omega)) hT (by first | omega | (dsimp only; omega))) ?_
          rintro _ d8 ⟨cM, bO, d1, cO, ar, rfl, dr, eA⟩
          replace ar := HS.backOwn ad (i := 8) rfl rfl (fun _ hb => hb) ar
          have ar : HS _ _ _ [_, _, _, _, _, _, _, _, [(V, .cells [(.int .i64 bO.n)] none false)]] _ := ar
          refine wro 1 4 [] 148 148 [] [(148, (.pointer (some ⟨O, 1, none⟩)))] trivial (by kernel_rfl) rfl fun _ => ?_
          refine wo_rk (rs_rec (q := 6) ar rfl rfl rfl rfl rfl rfl rfl rfl rfl) rfl ?_
          rintro _ d9 _ ⟨aM, _⟩
          have aM : HS _ _ _ [_, _, _, _, _, _, [(O, .cells [(.slice z xi.length A), (.int .i64 3), (.int .i64 0), (.int .i64 0), (.int .i64 0)] none false)], _, _] _ := aM
          refine wro 1 6 [] 149 149 [] [(149, (.pointer (some ⟨O, 2, none⟩)))] trivial (by kernel_rfl) rfl fun _ => ?_
          refine wo_rk (rs_rec (q := 6) aM rfl rfl rfl rfl rfl rfl rfl rfl rfl) rfl ?_
          rintro _ ea _ ⟨aN, _⟩
          have aN : HS _ _ _ [_, _, _, _, _, _, [(O, .cells [(.slice z xi.length A), (.int .i64 3), (.int .i64 cM), (.int .i64 0), (.int .i64 0)] none false)], _, _] _ := aN
          refine wo_end 0 rfl ?_
          exact a4 _ _ ⟨3, cM, 0, 0, (⟨bO.n⟩ : DigT), _, (cO), aN, (agC rfl (agC rfl (agC rfl (agC rfl (agC rfl (agC rfl (agC rfl (agC rfl (agC rfl (agC rfl (agC rfl (agC rfl (agC rfl (agC rfl (agC rfl (agC rfl (agC rfl agN))))))))))))))))), (by first | assumption | omega | (simp at *; omega)), (by first | assumption | omega | (simp at *; omega))⟩
         ·
          have a8 := aG
          try simp only [BS] at a8
          refine wk_region ?_
          refine wro 3 0 [(2, .o (.int .i64 (9 + (i : Int))))] 111 113 [] [(111, (.pointer (some ⟨V, 0, none⟩))), (113, (.int .i64 (9 + (i : Int))))] (vA (ql 3 1 (HS.hc ad (i := 1) rfl) rfl rfl) trivial) (by kernel_rfl) rfl fun _ => ?_
          refine wo_call (ap_call rfl rfl rfl) rfl rfl (m4.next_c ex (⟨az.n⟩ : DigT) (9 + (i : Int)) (HS.callOwn ad (i := 8) rfl) (by first | omega | (dsimp only; omega)) (by first | omega | (dsimp only; omega)) hT (by first | omega | (dsimp only; omega))) ?_
          rintro _ eb ⟨a5, bP, d2, bS, am, rfl, ds, eB⟩
          replace am := HS.backOwn ad (i := 8) rfl rfl (fun _ hb => hb) am
          have am : HS _ _ _ [_, _, _, _, _, _, _, _, [(V, .cells [(.int .i64 bP.n)] none false)]] _ := am
          replace hT := hT.mono bS
          refine wro 2 4 [] 115 116 [] [(115, (.pointer (some ⟨V, 0, none⟩))), (116, (.int .i64 (1 + (if (5 : Int) < ((l.length / 6 : Nat) : Int) then (5 : Int) else ((l.length / 6 : Nat) : Int)))))] trivial (by kernel_rfl) rfl fun _ => ?_
          refine wo_call (ap_call rfl rfl rfl) rfl rfl (m4.next_c ex (⟨bP.n⟩ : DigT) (1 + (if (5 : Int) < ((l.length / 6 : Nat) : Int) then (5 : Int) else ((l.length / 6 : Nat) : Int))) (HS.callOwn am (i := 8) rfl) (by first | omega | (dsimp only; omega)) (by first | omega | (dsimp only; omega)) hT (by first | omega | (dsimp only; omega))) ?_
          rintro _ ec ⟨aE, bQ, d3, bT, an, rfl, dt, eC⟩
          replace an := HS.backOwn am (i := 8) rfl rfl (fun _ hb => hb) an
          have an : HS _ _ _ [_, _, _, _, _, _, _, _, [(V, .cells [(.int .i64 bQ.n)] none false)]] _ := an
          replace hT := hT.mono bT
          refine wro 3 7 [] 118 120 [] [(118, (.int .i64 (1 + aE))), (119, (.pointer (some ⟨V, 0, none⟩))), (120, (.int .i64 (1 + (if (5 : Int) < ((l.length / 6 : Nat) : Int) then (5 : Int) else ((l.length / 6 : Nat) : Int)))))] (vA (vi (n := 1 + aE) (by first | omega | (dsimp only; omega))) trivial) (by kernel_rfl) rfl fun _ => ?_
          refine wo_call (ap_call rfl rfl rfl) rfl rfl (m4.next_c ex (⟨bQ.n⟩ : DigT) (1 + (if (5 : Int) < ((l.length / 6 : Nat) : Int) then (5 : Int) else ((l.length / 6 : Nat) : Int))) (HS.callOwn an (i := 8) rfl) (by first | omega | (dsimp only; omega)) (by first | omega | (dsimp only; omega)) hT (by first | omega | (dsimp only; omega))) ?_
          rintro _ ed ⟨a6, bR, d4, cP, au, rfl, du, eD⟩
          replace au := HS.backOwn an (i := 8) rfl rfl (fun _ hb => hb) au
          have au : HS _ _ _ [_, _, _, _, _, _, _, _, [(V, .cells [(.int .i64 bR.n)] none false)]] _ := au
          refine wro 2 11 [] 122 123 [] [(122, (.int .i64 (1 + a6))), (123, (.pointer (some ⟨O, 1, none⟩)))] (vA (vi (n := 1 + a6) (by first | omega | (dsimp only; omega))) trivial) (by kernel_rfl) rfl fun _ => ?_
          refine wo_rk (rs_rec (q := 6) au rfl rfl rfl rfl rfl rfl rfl rfl rfl) rfl ?_
          rintro _ ee _ ⟨aO, _⟩
          have aO : HS _ _ _ [_, _, _, _, _, _, [(O, .cells [(.slice z xi.length A), (.int .i64 2), (.int .i64 0), (.int .i64 0), (.int .i64 0)] none false)], _, _] _ := aO
          refine wro 1 14 [] 124 124 [] [(124, (.pointer (some ⟨O, 2, none⟩)))] trivial (by kernel_rfl) rfl fun _ => ?_
          refine wo_rk (rs_rec (q := 6) aO rfl rfl rfl rfl rfl rfl rfl rfl rfl) rfl ?_
          rintro _ ef _ ⟨aP, _⟩
          have aP : HS _ _ _ [_, _, _, _, _, _, [(O, .cells [(.slice z xi.length A), (.int .i64 2), (.int .i64 a5), (.int .i64 0), (.int .i64 0)] none false)], _, _] _ := aP
          refine wro 1 16 [] 125 125 [] [(125, (.pointer (some ⟨O, 3, none⟩)))] trivial (by kernel_rfl) rfl fun _ => ?_
          refine wo_rk (rs_rec (q := 6) aP rfl rfl rfl rfl rfl rfl rfl rfl rfl) rfl ?_
          rintro _ eg _ ⟨aQ, _⟩
          have aQ : HS _ _ _ [_, _, _, _, _, _, [(O, .cells [(.slice z xi.length A), (.int .i64 2), (.int .i64 a5), (.int .i64 (1 + aE)), (.int .i64 0)] none false)], _, _] _ := aQ
          refine wro 1 18 [] 126 126 [] [(126, (.pointer (some ⟨O, 4, none⟩)))] trivial (by kernel_rfl) rfl fun _ => ?_
          refine wo_rk (rs_rec (q := 6) aQ rfl rfl rfl rfl rfl rfl rfl rfl rfl) rfl ?_
          rintro _ eh _ ⟨aR, _⟩
          have aR : HS _ _ _ [_, _, _, _, _, _, [(O, .cells [(.slice z xi.length A), (.int .i64 2), (.int .i64 a5), (.int .i64 (1 + aE)), (.int .i64 (1 + a6))] none false)], _, _] _ := aR
          refine wo_end 0 rfl ?_
          exact a4 _ _ ⟨2, a5, 1 + aE, 1 + a6, (⟨bR.n⟩ : DigT), _, (Fz.le_trans (Fz.le_trans (bS) bT) cP), aR, (agC rfl (agC rfl (agC rfl (agC rfl (agC rfl (agC rfl (agC rfl (agC rfl (agC rfl (agC rfl (agC rfl (agC rfl (agC rfl (agC rfl (agC rfl (agC rfl (agC rfl agN))))))))))))))))), (by first | assumption | omega | (simp at *; omega)), (by first | assumption | omega | (simp at *; omega))⟩
      ·
       rintro fC fg ⟨xe, xg, xt, xf, dd, dC, bk, bJ, ct, hD, hdd⟩
       refine wk_canon _ ct (fun _ => ?_)
       clear ct
       replace T := T.mono bk
       replace U := U.mono bk
       refine wk_foc 4 rfl ?_
       refine wr 1 [(6, .o (.int .i64 xe))] 150 158 [] [(158, (.bool (((b : Int) == (1 + (if (5 : Int) < ((l.length / 6 : Nat) : Int) then (5 : Int) else ((l.length / 6 : Nat) : Int))) - 1) && (xe == 1))))] (vA (vi (n := (1 + (if (5 : Int) < ((l.length / 6 : Nat) : Int) then (5 : Int) else ((l.length / 6 : Nat) : Int))) - 1) (by first | omega | (dsimp only; omega))) (vA (fun (g1 : ((b : Int) == (1 + (if (5 : Int) < ((l.length / 6 : Nat) : Int) then (5 : Int) else ((l.length / 6 : Nat) : Int))) - 1) = true) => (ql 3 1 (HS.hc bJ (i := 6) rfl) rfl rfl)) trivial)) (by kernel_rfl) rfl fun _ => ?_
       refine wk_join (fun f H' => ∃ (ye : Int) (yg : Int) (yt : Int) (F' : Fz), Fz.le dC F' ∧ HS (Base.of H []) F' H' [[(b1, .cells [(.int .i64 0), (.int .i64 0), (.slice none 0 0)] none false)], [(b4, .cells [(.int .i64 params), (.int .i64 (9 + (i : Int))), (.slice J bl.length N)] none false)], [(ag, .cells [(.slice E fi.length I), (.int .i64 1), (.int .i64 0), (.int .i64 1), (.int .i64 0)] none false)], [], a7, Y, [(O, .cells [(.slice z xi.length A), (.int .i64 ye), (.int .i64 yg), (.int .i64 yt), (.int .i64 xf)] none false)], Z, [(V, .cells [(.int .i64 dd.n)] none false)]] R ∧ agrees f [(0, (.slice a_l l.length k_l)), (4, (.pointer (some ⟨b1, 0, none⟩))), (5, (.pointer (some ⟨b4, 0, none⟩))), (6, (.int .i64 (1 + (if (5 : Int) < ((l.length / 6 : Nat) : Int) then (5 : Int) else ((l.length / 6 : Nat) : Int))))), (11, (.int .i64 (b : Int))), (12, (.pointer (some ⟨O, 0, none⟩))), (13, (.int .i64 (k : Int))), (14, (.int .i64 nn)), (15, (.pointer (some ⟨V, 0, none⟩))), (64, (.bool (decide ((b : Int) < 1 + (if (5 : Int) < ((l.length / 6 : Nat) : Int) then (5 : Int) else ((l.length / 6 : Nat) : Int)))))), (77, (.bool ((decide ((k : Int) < 5)) && (decide ((6 * (b : Int)) + (k : Int) < (l.length : Int)))))), (99, (.bool (decide ((6 * (b : Int)) + 5 < (l.length : Int))))), (107, (.agg ⟨[(.int .i64 nn)]⟩)), (108, (.pointer (some ⟨V, 0, none⟩))), (109, (.pointer (some ⟨V, 0, none⟩))), (110, (.int .i64 ao)), (127, (.bool (ao == 0))), (158, (.bool (((b : Int) == (1 + (if (5 : Int) < ((l.length / 6 : Nat) : Int) then (5 : Int) else ((l.length / 6 : Nat) : Int))) - 1) && (xe == 1))))] ∧ ((ye = 1 ∧ 0 ≤ yt ∧ yt < ((1 + (if (5 : Int) < ((l.length / 6 : Nat) : Int) then (5 : Int) else ((l.length / 6 : Nat) : Int)))) + 1 ∧ xf = 0 ∧ yg = 0 ∨ ye = 2 ∧ 0 ≤ yt ∧ yt < ((1 + (if (5 : Int) < ((l.length / 6 : Nat) : Int) then (5 : Int) else ((l.length / 6 : Nat) : Int)))) + 1 ∧ 0 ≤ xf ∧ xf < ((1 + (if (5 : Int) < ((l.length / 6 : Nat) : Int) then (5 : Int) else ((l.length / 6 : Nat) : Int)))) + 1 ∧ 0 ≤ yg ∧ yg < 9 + (i : Int) ∨ ye = 3 ∧ 0 ≤ yg ∧ yg < 9 + (i : Int) ∧ yt = 0 ∧ xf = 0 ∨ ye = 4 ∧ 1 ≤ yt ∧ yt < 33554432 ∧ xf = 0 ∧ yg = 0))) (fun bX => ?_) ?_
       ·
        refine wk_if 0 0 (v := (((b : Int) == (1 + (if (5 : Int) < ((l.length / 6 : Nat) : Int) then (5 : Int) else ((l.length / 6 : Nat) : Int))) - 1) && (xe == 1))) rfl rfl rfl rfl (fun aH => ?_) (fun aH => ?_)
        ·
         have ba := aH
         try simp only [BS] at ba
         refine wk_region ?_
         refine wro 1 0 [] 159 159 [] [(159, (.pointer (some ⟨O, 1, none⟩)))] trivial (by kernel_rfl) rfl fun _ => ?_
         refine wo_rk (rs_rec (q := 6) bJ rfl rfl rfl rfl rfl rfl rfl rfl rfl) rfl ?_
         rintro _ ej _ ⟨aT, _⟩
         have aT : HS _ _ _ [_, _, _, _, _, _, [(O, .cells [(.slice z xi.length A), (.int .i64 3), (.int .i64 xg), (.int .i64 xt), (.int .i64 xf)] none false)], _, [(V, .cells [(.int .i64 dd.n)] none false)]] _ := aT
         refine wro 1 2 [] 160 160 [] [(160, (.pointer (some ⟨O, 3, none⟩)))] trivial (by kernel_rfl) rfl fun _ => ?_
         refine wo_rk (rs_rec (q := 6) aT rfl rfl rfl rfl rfl rfl rfl rfl rfl) rfl ?_
         rintro _ ek _ ⟨aU, _⟩
         have aU : HS _ _ _ [_, _, _, _, _, _, [(O, .cells [(.slice z xi.length A), (.int .i64 3), (.int .i64 xg), (.int .i64 0), (.int .i64 xf)] none false)], _, _] _ := aU
         refine wro 1 4 [] 161 161 [] [(161, (.pointer (some ⟨O, 2, none⟩)))] trivial (by kernel_rfl) rfl fun _ => ?_
         refine wo_rk (rs_rec (q := 6) aU rfl rfl rfl rfl rfl rfl rfl rfl rfl) rfl ?_
         rintro _ el _ ⟨aV, _⟩
         have aV : HS _ _ _ [_, _, _, _, _, _, [(O, .cells [(.slice z xi.length A), (.int .i64 3), (.int .i64 0), (.int .i64 0), (.int .i64 xf)] none false)], _, _] _ := aV
         refine wo_end 0 rfl ?_
         exact bX _ _ ⟨3, 0, 0, _, (Fz.le_refl _), aV, (agC rfl (agC rfl (agC rfl (agC rfl (agC rfl (agC rfl (agC rfl (agC rfl (agC rfl (agC rfl (agC rfl (agC rfl (agC rfl (agC rfl (agC rfl (agC rfl (agC rfl (agC rfl agN)))))))))))))))))), (by first | assumption | omega | (simp at *; omega))⟩
        ·
         have ba := aH
         try simp only [BS] at ba
         exact bX _ _ ⟨xe, xg, xt, _, (Fz.le_refl _), bJ, (agC rfl (agC rfl (agC rfl (agC rfl (agC rfl (agC rfl (agC rfl (agC rfl (agC rfl (agC rfl (agC rfl (agC rfl (agC rfl (agC rfl (agC rfl (agC rfl (agC rfl (agC rfl agN)))))))))))))))))), (by first | assumption | omega | (simp at *; omega))⟩
       ·
        rintro ez ei ⟨ye, yg, yt, d5, aI, aS, bW, hY⟩
        refine wk_canon _ bW (fun _ => ?_)
        clear bW
        replace U := U.mono aI
        refine wk_foc 1 rfl ?_
        refine wk_region ?_
        refine wro 3 0 [(1, .o (.slice J bl.length N)), (2, .o (.agg ⟨[(.slice z xi.length A), (.int .i64 ye), (.int .i64 yg), (.int .i64 yt), (.int .i64 xf)]⟩))] 162 164 [] [(163, (.slice J bl.length N)), (164, (.agg ⟨[(.slice z xi.length A), (.int .i64 ye), (.int .i64 yg), (.int .i64 yt), (.int .i64 xf)]⟩))] (vA (ql 22 2 (HS.hc aS (i := 1) rfl) rfl rfl) (vA (qn 42 0 5 (HS.hc aS (i := 6) rfl) rfl rfl rfl rfl) trivial)) (by kernel_rfl) rfl fun _ => ?_
        obtain ⟨d6, bU, aW, cX, dY⟩ := OS.frz U aS (i := 7) rfl
        have aW : HS _ _ _ [_, _, _, _, _, _, [(O, .cells [(.slice z xi.length A), (.int .i64 ye), (.int .i64 yg), (.int .i64 yt), (.int .i64 xf)] none false)], [], [(V, .cells [(.int .i64 dd.n)] none false)]] _ := aW
        replace T := (T.mono aI).mono bU
        refine wo_rs (rs_lit (α := BlkT) (ps := [(0, (.agg ⟨[(.slice z xi.length A), (.int .i64 ye), (.int .i64 yg), (.int .i64 yt), (.int .i64 xf)]⟩))]) (cells := [(.slice z xi.length A), (.int .i64 ye), (.int .i64 yg), (.int .i64 yt), (.int .i64 xf)]) ([(⟨xi, ye, yg, yt, xf⟩ : BlkT)] : List BlkT) aW rfl rfl rfl (by kernel_rfl) ⟨[(.slice z xi.length A), (.int .i64 ye), (.int .i64 yg), (.int .i64 yt), (.int .i64 xf)], [], rfl, ⟨z, A, rfl, by first | omega | (dsimp only; omega), by first | omega | (dsimp only; omega), by first | omega | (dsimp only; omega), by first | omega | (dsimp only; omega), cX⟩, rfl⟩ rfl) rfl rfl ?_
        rintro _ em dq ⟨ev, eG, rfl, cV, ax, _⟩
        have ax : HS _ _ _ [_, _, _, _, _, _, _, _, _, dq] _ := ax
        refine wo_rs (rs_app (α := BlkT) (q := 5) T ax rfl rfl rfl (OS.sv cV ax (i := 9) rfl) rfl rfl rfl rfl rfl rfl rfl (by first | omega | (simp only [List.length_append, List.length_cons, List.length_nil]; omega))) rfl rfl ?_
        rintro _ en cI ⟨b3, cE, rfl, cW, aX, _⟩
        have aX : HS _ _ _ [_, _, _, _, _, cI, _, _, _, _] _ := aX
        refine wro 1 5 [] 167 167 [] [(167, (.pointer (some ⟨b4, 2, none⟩)))] trivial (by kernel_rfl) rfl fun _ => ?_
        refine wo_rk (rs_rec (q := 1) aX rfl rfl rfl rfl rfl rfl rfl rfl rfl) rfl ?_
        rintro _ eo _ ⟨aY, _⟩
        have aY : HS _ _ _ [_, [(b4, .cells [(.int .i64 params), (.int .i64 (9 + (i : Int))), (.slice b3 (bl ++ ([(⟨xi, ye, yg, yt, xf⟩ : BlkT)] : List BlkT)).length cE)] none false)], _, _, _, _, _, _, _, _] _ := aY
        refine wo_end 2 rfl ?_
        refine wr 1 [] 65 66 [11] [(11, (.int .i64 ((b : Int) + 1)))] (vA (vi (n := (b : Int) + 1) (by first | omega | (dsimp only; omega))) trivial) (by kernel_rfl) rfl fun _ => ?_
        refine dj _ _ _ ?_ ⟨bl ++ ([(⟨xi, ye, yg, yt, xf⟩ : BlkT)] : List BlkT), b + 1, cI, b3, cE, _, (Fz.le_trans (Fz.le_trans (Fz.le_trans (Fz.le_trans (Fz.le_trans (aK) aA) aL) bk) aI) bU), (HS.sub aY (List.sublist_append_left _ _)), cW, (agC rfl (agC rfl (agC rfl (agC rfl (agC rfl agN))))), rfl, (by simp; omega), (by exact all_snoc e2 (blk_mk z2 (by omega))), (by exact ins_snoc e3 (by first | omega | (dsimp only; omega))), (by exact all_snoc e5 z4), (by exact first_snoc e6 (by omega)), (by first | assumption | omega | (simp at *; omega))⟩
        omega
   ·
    have cb := bd
    try simp only [BS] at cb
    refine wk_region ?_
    refine wro 1 0 [(0, .o (.agg ⟨[(.int .i64 params), (.int .i64 (9 + (i : Int))), (.slice J bl.length N)]⟩))] 168 168 [] [(168, (.agg ⟨[(.int .i64 params), (.int .i64 (9 + (i : Int))), (.slice J bl.length N)]⟩))] (vA (qn 24 0 3 (HS.hc bF (i := 1) rfl) rfl rfl rfl rfl) trivial) (by kernel_rfl) rfl fun _ => ?_
    refine wo_rk (rs_rec (q := 0) bF rfl rfl rfl rfl rfl rfl rfl rfl rfl) rfl ?_
    rintro _ ep _ ⟨ay, _⟩
    have ay : HS _ _ _ [[(b1, .cells [(.int .i64 params), (.int .i64 (9 + (i : Int))), (.slice J bl.length N)] none false)], [(b4, .cells [(.int .i64 params), (.int .i64 (9 + (i : Int))), (.slice J bl.length N)] none false)], _, _, _, Y] _ := ay
    refine wo_end 1 rfl ?_
    obtain ⟨d7, cQ, aZ, cY, dZ⟩ := OS.frz T ay (i := 5) rfl
    have aZ : HS _ _ _ [_, _, _, _, _, []] _ := aZ
    refine wk_ret ⟨.inr rfl, _, (rC rfl (ldVN rfl rfl (HS.hc ay (i := 0) rfl) rfl) rN), (⟨params, 9 + (i : Int), bl⟩ : VFnT), J, N, _, (Fz.le_trans (Fz.le_trans (Fz.le_trans (Fz.le_trans (bV) aJ) bj) aK) cQ), (HS.forget aZ), rfl, (by first | omega | (dsimp only; omega)), (by first | omega | (dsimp only; omega)), cY, (by exact ⟨val_mk (by omega) (by omega) e2, rfl, by first | omega | (dsimp only; omega), ⟨by first | omega | (dsimp only; omega), by first | omega | (dsimp only; omega)⟩, ins_at e3, e5, fi, e6, by first | omega | (dsimp only; omega), w5⟩)⟩
end Go.Proofs.YtlabedbmgmfbaaaDoor.m5
