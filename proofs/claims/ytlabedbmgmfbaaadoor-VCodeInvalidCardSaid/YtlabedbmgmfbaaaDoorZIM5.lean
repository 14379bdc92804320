/-
 The generator of virtual code, whole, by a symbolic run: what it makes is valid. No condition but that the table lies as laid.
-/
import Derived.Test.YtlabedbmgmfbaaaDoorZIM4
import Derived.Test.YtlabedbmgmfbaaaDoorZIRC
noncomputable section
namespace Go.Proofs.YtlabedbmgmfbaaaDoor.m5
open Go.R
set_option maxRecDepth 10000
set_option linter.unusedVariables false
open m1 m2 m3 m4
theorem vin_ldi {params regs r op : Int} (hr : 0 ≤ r ∧ r < regs) (ho : op = 13 ∨ op = 38 ∧ r < params) : ey params regs ⟨⟨op, r, 0, 0, r⟩, []⟩ = true := by
 rcases ho with rfl | ⟨rfl, hp⟩
 ·
  exact vin_mk (by decide) (.inr rfl) (by simp) rfl (opOK_t (by decide) hr) (ji (by decide) rfl) (ji (by decide) rfl) rfl
 ·
  exact vin_mk (by decide) (.inr rfl) (by simp) rfl (opOK_t (by decide) hr) (ji (by decide) rfl) (ji (by decide) rfl) (decide_eq_true ⟨hr.1, hp⟩)
theorem ei {α : Type} {p : α → Bool} {l : List α} {x : α} (h : l.all p = true) (hx : p x = true) : (l ++ [x]).all p = true := by rw [List.all_append, h]; simp [hx]
theorem blk_mk {params regs nb e g t f : Int} {l : List VInT} (h : l.all (ey params regs) = true) (z : e = 1 ∧ 0 ≤ t ∧ t < nb ∧ f = 0 ∧ g = 0 ∨ e = 2 ∧ 0 ≤ t ∧ t < nb ∧ 0 ≤ f ∧ f < nb ∧ 0 ≤ g ∧ g < regs ∨ e = 3 ∧ 0 ≤ g ∧ g < regs ∧ t = 0 ∧ f = 0 ∨ e = 4 ∧ 1 ≤ t ∧ t < 33554432 ∧ f = 0 ∧ g = 0) : kQ params regs nb ⟨l, e, g, t, f⟩ = true := gQ h (bN.2 z)
theorem ins_snoc {l : List BlkT} {x : BlkT} (h : ∀ y ∈ l, y.ins.length ≤ 11) (hx : x.ins.length ≤ 11) : ∀ y ∈ l ++ [x], y.ins.length ≤ 11 := fun y hy => by
 rcases List.mem_append.1 hy with hy | hy
 ·
  exact h y hy
 ·
  rw [List.mem_singleton] at hy; rw [hy]; exact hx
theorem ins_at {l : List BlkT} (h : ∀ y ∈ l, y.ins.length ≤ 11) (j : Nat) : (l.getD j default).ins.length ≤ 11 := by
 rw [List.getD_eq_getElem?_getD]
 rcases hj : l[j]? with _ | y
 ·
  exact Nat.zero_le _
 ·
  exact h y (List.mem_of_getElem? hj)
def fstOK (fi : List VInT) : Prop := ∀ q : Nat, q < fi.length → (fi.getD q default).i.a = q ∧ ((fi.getD q default).i.op = 13 ∨ (fi.getD q default).i.op = 38)
theorem fst_snoc {fi : List VInT} {x : VInT} (h : fstOK fi) (hx : x.i.a = (fi.length : Int) ∧ (x.i.op = 13 ∨ x.i.op = 38)) : fstOK (fi ++ [x]) := fun q hq => by
 rw [List.length_append] at hq
 simp only [List.length_cons, List.length_nil] at hq
 rcases Nat.lt_or_ge q fi.length with z | z
 ·
  rw [List.getD_eq_getElem?_getD, List.getElem?_append_left z, ← List.getD_eq_getElem?_getD]; exact h q z
 ·
  have : q = fi.length := by omega
  subst this
  rw [List.getD_eq_getElem?_getD, List.getElem?_append_right (Nat.le_refl _), Nat.sub_self]; exact hx
theorem first_snoc {l : List BlkT} {x y : BlkT} (h : l.getD 0 default = x) (hl : 0 < l.length) : (l ++ [y]).getD 0 default = x := by
 rw [List.getD_eq_getElem?_getD, List.getElem?_append_left hl, ← List.getD_eq_getElem?_getD]; exact h
theorem ck_ldi {v : VInT} (ho : v.i.op = 13 ∨ v.i.op = 38) : ckI v = true := decide_eq_true ⟨fun h => by omega, fun h => by omega⟩
structure vfG (x : VFnT) (params : Int) : Prop where
 val : eS x = true
 par : x.params = params
 reg : x.regs = 9 + params
 nb : 2 ≤ x.blocks.length ∧ x.blocks.length ≤ 7
 ins : ∀ j, (x.blocks.getD j default).ins.length ≤ 11
 ck : x.blocks.all (fun y => y.ins.all ckI) = true
 fst : ∃ fi, x.blocks.getD 0 default = ⟨fi, 1, 0, 1, 0⟩ ∧ (fi.length : Int) = x.regs ∧ fstOK fi
theorem val_mk {p r : Int} {l : List BlkT} {n : Int} (h : 0 ≤ p ∧ p ≤ 6 ∧ 0 ≤ r ∧ r ≤ 3000 ∧ 1 ≤ l.length ∧ l.length ≤ 1000) (hn : (l.length : Int) = n) (z : l.all (kQ p r n) = true) : eS ⟨p, r, l⟩ = true := by subst hn; exact (val_yes (c := ⟨p, r, l⟩) h z).symm
set_option maxHeartbeats 2000000 in
theorem vf_c (ex : FuncId) {a_l : Option Addr} {k_l : Nat} (l : List Int) (params : Int) {F : Fz} {H : Heap} {R : List Fp} (hs : HS (.of H []) F H [] R) (hl : SR F (.slice a_l l.length k_l) l) (hT : TB 37 tabC F) (hp : 0 ≤ params ∧ params ≤ 2) (hbl : l.length ≤ 1000) : C Tryd.prog 1 (KT 60 ex 37 tabC) 16 [(.slice a_l l.length k_l), (iI params)] H fun v H' => ∃ (x : VFnT) (h4 : Option Addr) (k5 : Nat) (F' : Fz), Fz.le F F' ∧ HS (.of H []) F' H' [] R ∧ v = .agg ⟨[.int .i64 x.params, .int .i64 x.regs, .slice h4 x.blocks.length k5]⟩ ∧ in64 x.params ∧ in64 x.regs ∧ SR F' (.slice h4 x.blocks.length k5) x.blocks ∧ (vfG x params) := by
 refine aJ Tryd.func16 rfl rfl ?_
 refine ao 1 rfl ?_
 refine ab ?_
 refine aP (bp hs rfl) rfl rfl ?_
 rintro _ H2 _ ⟨b1, rfl, kk, _⟩
 let b5 : Fp := [(b1, .cells [(iI 0), (iI 0), (.slice none 0 0)] none false)]
 have kk : HS _ _ _ [b5] _ := kk
 refine ai 2 rfl ?_
 refine ab ?_
 refine wRo 2 0 [] 16 17 [] [(17, (.agg ⟨[(iI params), (iI 9), (.slice none 0 0)]⟩))] trivial rfl fun _ => ?_
 refine aP (bp kk rfl) rfl rfl ?_
 rintro _ H5 _ ⟨b4, rfl, kl, _⟩
 have kl : HS _ _ _ [_, [(b4, .cells [(iI 0), (iI 0), (.slice none 0 0)] none false)]] _ := kl
 refine aD (ax (q := 1) kl rfl rfl rfl rfl rfl rfl rfl rfl rfl) rfl ?_
 rintro _ H6 _ ⟨kn, _⟩
 have kn : HS _ _ _ [_, [(b4, .cells [(iI params), (iI 9), (.slice none 0 0)] none false)]] _ := kn
 refine ai 2 rfl ?_
 refine wR 3 [] 18 22 [6] [(6, (iI (1 + (if (5 : Int) < ((l.length / 6 : Nat) : Int) then (5 : Int) else ((l.length / 6 : Nat) : Int)))))] (vA (vA (show (6 : Int) ≠ 0 from by decide) (vi (n := ((l.length / 6 : Nat) : Int)) (by omega))) (vA (vi (n := 1 + (if (5 : Int) < ((l.length / 6 : Nat) : Int) then (5 : Int) else ((l.length / 6 : Nat) : Int))) (by omega)) trivial)) rfl fun _ => ?_
 have hM : 1 ≤ (1 + (if (5 : Int) < ((l.length / 6 : Nat) : Int) then (5 : Int) else ((l.length / 6 : Nat) : Int))) ∧ (1 + (if (5 : Int) < ((l.length / 6 : Nat) : Int) then (5 : Int) else ((l.length / 6 : Nat) : Int))) ≤ 6 := by omega
 refine wR 2 [] 1 0 [7] [(7, (iI 0))] trivial rfl fun _ => ?_
 refine aE (fun (mm : Nat) f H' => ∃ (i : Nat) (F' : Fz), Fz.le F F' ∧ HS (Base.of H []) F' H' [b5, [(b4, .cells [(iI params), (iI (9 + (i : Int))), (.slice none 0 0)] none false)]] R ∧ aS f [(0, (.slice a_l l.length k_l)), (1, (iI params)), (4, (.pointer (some ⟨b1, 0, none⟩))), (5, (.pointer (some ⟨b4, 0, none⟩))), (6, (iI (1 + (if (5 : Int) < ((l.length / 6 : Nat) : Int) then (5 : Int) else ((l.length / 6 : Nat) : Int))))), (7, (iI (i : Int)))] ∧ mm = (params - (i : Int)).toNat ∧ ((i : Int) ≤ params)) _ ⟨0, _, fR, kn, ⟨rfl, rfl, rfl, rfl, rfl, rfl, trivial⟩, rfl, (by omega)⟩ ?_
 rintro oo f9 H9 ⟨i, F9, hP, kp, lB, rfl, q1⟩ mn
 refine aF _ lB (fun _ => ?_)
 clear lB
 replace hT := hT.mono hP
 replace hl := hl.mono hP
 refine ao 2 rfl ?_
 refine wR 1 [] 23 25 [] [(25, (.bool (decide ((i : Int) < params))))] trivial rfl fun _ => ?_
 refine aj 3 5 (v := (decide ((i : Int) < params))) rfl rfl rfl rfl (fun h5 => ?_) (fun h5 => ?_)
 ·
  try simp only [BS] at h5
  refine ab ?_
  refine wRo 4 0 [(1, .o (iI (9 + (i : Int))))] 28 31 [] [(30, (iI ((9 + (i : Int)) + 1))), (31, (.pointer (some ⟨b4, 1, none⟩)))] (vA (ql 3 1 (HS.hc kp (i := 1) rfl) rfl rfl) (vA (vi (n := (9 + (i : Int)) + 1) (by omega)) trivial)) rfl fun _ => ?_
  refine aD (ax (q := 1) kp rfl rfl rfl rfl rfl rfl rfl rfl rfl) rfl ?_
  rintro _ nC _ ⟨g6, _⟩
  have g6 : HS _ _ _ [_, [(b4, .cells [(iI params), (iI ((9 + (i : Int)) + 1)), (.slice none 0 0)] none false)]] _ := g6
  refine ai 2 rfl ?_
  refine wR 1 [] 26 27 [7] [(7, (iI ((i : Int) + 1)))] (vA (vi (n := (i : Int) + 1) (by omega)) trivial) rfl fun _ => ?_
  refine mn _ _ _ ?_ ⟨i + 1, _, (hP), g6, ⟨rfl, rfl, rfl, rfl, rfl, rfl, trivial⟩, rfl, (by omega)⟩
  omega
 ·
  try simp only [BS] at h5
  refine ab ?_
  refine aP (bp kp rfl) rfl rfl ?_
  rintro _ nD _ ⟨a3, rfl, g7, _⟩
  let lf : Fp := [(b4, .cells [(iI params), (iI (9 + (i : Int))), (.slice none 0 0)] none false)]
  have g7 : HS _ _ _ [_, lf, [(a3, .cells [(.slice none 0 0), (iI 0), (iI 0), (iI 0), (iI 0)] none false)]] _ := g7
  refine ai 3 rfl ?_
  refine wR 2 [] 1 0 [9] [(9, (iI 0))] trivial rfl fun _ => ?_
  have ha := HS.snoc g7
  have ha : HS _ _ _ [_, _, _, []] _ := ha
  refine aE (fun (mm : Nat) f H' => ∃ (fi : List VInT) (r : Nat) (aq : Fp) (I : Option Addr) (J : Nat) (F' : Fz), Fz.le F9 F' ∧ HS (Base.of H []) F' H' [b5, lf, [(a3, .cells [(.slice I fi.length J), (iI 0), (iI 0), (iI 0), (iI 0)] none false)], aq] R ∧ OS F' (.slice I fi.length J) fi aq ∧ aS f [(0, (.slice a_l l.length k_l)), (1, (iI params)), (4, (.pointer (some ⟨b1, 0, none⟩))), (5, (.pointer (some ⟨b4, 0, none⟩))), (6, (iI (1 + (if (5 : Int) < ((l.length / 6 : Nat) : Int) then (5 : Int) else ((l.length / 6 : Nat) : Int))))), (8, (.pointer (some ⟨a3, 0, none⟩))), (9, (iI (r : Int)))] ∧ mm = (9 + (i : Int) - (r : Int)).toNat ∧ (fi.length = r) ∧ (fi.all (ey params (9 + (i : Int))) = true) ∧ (fi.all ckI = true) ∧ (fstOK fi) ∧ ((r : Int) ≤ 9 + (i : Int))) _ ⟨([] : List VInT), 0, [], none, 0, _, fR, ha, (OS.nil : OS F9 (.slice none 0 0) ([] : List VInT) []), ⟨rfl, rfl, rfl, rfl, rfl, rfl, rfl, trivial⟩, rfl, (by rfl), (by rfl), (by rfl), (by intro q hq; cases hq), (by omega)⟩ ?_
  rintro nt n6 nE ⟨fi, r, aq, I, J, l6, c6, g9, a0, jb, rfl, w1, w2, w4, w5, w3⟩ lP
  refine aF _ jb (fun _ => ?_)
  clear jb
  replace hT := hT.mono c6
  replace hl := hl.mono c6
  refine ao 2 rfl ?_
  refine wR 1 [(2, .o (iI (9 + (i : Int))))] 32 35 [] [(35, (.bool (decide ((r : Int) < 9 + (i : Int)))))] (vA (ql 3 1 (HS.hc g9 (i := 1) rfl) rfl rfl) trivial) rfl fun _ => ?_
  refine aj 4 5 (v := (decide ((r : Int) < 9 + (i : Int)))) rfl rfl rfl rfl (fun h6 => ?_) (fun h6 => ?_)
  ·
   try simp only [BS] at h6
   refine ab ?_
   let lE : Value := (.agg ⟨[(iI 13), (iI (r : Int)), (iI 0), (iI 0), (iI (r : Int))]⟩)
   refine wRo 3 0 [] 38 40 [] [(40, lE)] trivial rfl fun _ => ?_
   refine aP (bp g9 rfl) rfl rfl ?_
   rintro _ nF _ ⟨c4, rfl, he, _⟩
   let lF : Fp := [(a3, .cells [(.slice I fi.length J), (iI 0), (iI 0), (iI 0), (iI 0)] none false)]
   have he : HS _ _ _ [_, _, lF, aq, [(c4, .cells [(iI 0), (iI 0), (iI 0), (iI 0), (iI 0)] none false)]] _ := he
   refine aD (ax (q := 4) he rfl rfl rfl rfl rfl rfl rfl rfl rfl) rfl ?_
   rintro _ nG _ ⟨et, _⟩
   have et : HS _ _ _ [_, _, _, _, [(c4, .cells [(iI 13), (iI (r : Int)), (iI 0), (iI 0), (iI (r : Int))] none false)]] _ := et
   refine ai 3 rfl ?_
   refine wR 1 [] 41 43 [] [(43, (.bool (decide ((r : Int) < params))))] trivial rfl fun _ => ?_
   refine dp (fun f H' => ∃ (vo : Int) (F' : Fz), Fz.le l6 F' ∧ HS (Base.of H []) F' H' [b5, lf, lF, aq, [(c4, .cells [(iI vo), (iI (r : Int)), (iI 0), (iI 0), (iI (r : Int))] none false)]] R ∧ aS f [(0, (.slice a_l l.length k_l)), (1, (iI params)), (4, (.pointer (some ⟨b1, 0, none⟩))), (5, (.pointer (some ⟨b4, 0, none⟩))), (6, (iI (1 + (if (5 : Int) < ((l.length / 6 : Nat) : Int) then (5 : Int) else ((l.length / 6 : Nat) : Int))))), (8, (.pointer (some ⟨a3, 0, none⟩))), (9, (iI (r : Int))), (10, (.pointer (some ⟨c4, 0, none⟩))), (35, (.bool (decide ((r : Int) < 9 + (i : Int))))), (40, lE), (43, (.bool (decide ((r : Int) < params))))] ∧ (vo = 13 ∨ vo = 38 ∧ (r : Int) < params)) (fun kt => ?_) ?_
   ·
    refine aj 0 0 (v := (decide ((r : Int) < params))) rfl rfl rfl rfl (fun h7 => ?_) (fun h7 => ?_)
    ·
     try simp only [BS] at h7
     refine ab ?_
     refine wRo 3 0 [] 44 46 [] [(46, (.agg ⟨[(iI 38), (iI (r : Int)), (iI 0), (iI 0), (iI (r : Int))]⟩))] trivial rfl fun _ => ?_
     refine aD (ax (q := 4) et rfl rfl rfl rfl rfl rfl rfl rfl rfl) rfl ?_
     rintro _ nI _ ⟨hg, _⟩
     have hg : HS _ _ _ [_, _, _, _, [(c4, .cells [(iI 38), (iI (r : Int)), (iI 0), (iI 0), (iI (r : Int))] none false)]] _ := hg
     refine ai 0 rfl ?_
     exact kt _ _ ⟨38, _, fR, hg, ⟨rfl, rfl, rfl, rfl, rfl, rfl, rfl, rfl, rfl, rfl, rfl, trivial⟩, (by omega)⟩
    ·
     try simp only [BS] at h7
     exact kt _ _ ⟨13, _, fR, et, ⟨rfl, rfl, rfl, rfl, rfl, rfl, rfl, rfl, rfl, rfl, rfl, trivial⟩, (by omega)⟩
   ·
    rintro n7 nH ⟨vo, nx, i2, hf, jq, hvo⟩
    refine aF _ jq (fun _ => ?_)
    clear jq
    replace a0 := a0.mono i2
    refine ao 1 rfl ?_
    refine ab ?_
    let la : Value := (.agg ⟨[(iI vo), (iI (r : Int)), (iI 0), (iI 0), (iI (r : Int)), (.slice none 0 0)]⟩)
    refine wRo 4 0 [(1, .o (.slice I fi.length J)), (2, .o (.agg ⟨[(iI vo), (iI (r : Int)), (iI 0), (iI 0), (iI (r : Int))]⟩))] 47 50 [] [(48, (.slice I fi.length J)), (50, la)] (vA (ql 40 0 (HS.hc hf (i := 2) rfl) rfl rfl) (vA (qn 45 0 5 (HS.hc hf (i := 4) rfl) rfl rfl rfl rfl) trivial)) rfl fun _ => ?_
    refine aP (bZ (α := VInT) (ps := [(0, la)]) (cells := [(iI vo), (iI (r : Int)), (iI 0), (iI 0), (iI (r : Int)), (.slice none 0 0)]) ([(⟨(⟨vo, (r : Int), 0, 0, (r : Int)⟩ : InsT), ([] : List Int)⟩ : VInT)] : List VInT) hf rfl rfl rfl (by kernel_rfl) ⟨[(iI vo), (iI (r : Int)), (iI 0), (iI 0), (iI (r : Int)), (.slice none 0 0)], [], rfl, ⟨none, 0, rfl, by (dsimp only; omega), by (dsimp only; omega), by (dsimp only; omega), by (dsimp only; omega), by (dsimp only; omega), SR.nil⟩, rfl⟩ rfl) rfl rfl ?_
    rintro _ nJ mo ⟨n3, oj, rfl, lJ, ez, _⟩
    have ez : HS _ _ _ [_, _, _, _, [(c4, .cells [(iI vo), (iI (r : Int)), (iI 0), (iI 0), (iI (r : Int))] none false)], mo] _ := ez
    refine aP (cT (α := VInT) (q := 3) a0 ez rfl rfl rfl (OS.sv lJ ez (i := 5) rfl) rfl rfl rfl rfl rfl rfl rfl (by (simp only [List.length_cons, List.length_nil]; omega))) rfl rfl ?_
    rintro _ nK lD ⟨lA, lC, rfl, lK, hh, _⟩
    have hh : HS _ _ _ [_, _, _, lD, _, _] _ := hh
    refine wRo 1 6 [] 53 53 [] [(53, (.pointer (some ⟨a3, 0, none⟩)))] trivial rfl fun _ => ?_
    refine aD (ax (q := 2) hh rfl rfl rfl rfl rfl rfl rfl rfl rfl) rfl ?_
    rintro _ nL _ ⟨hj, _⟩
    have hj : HS _ _ _ [_, _, [(a3, .cells [(.slice lA (fi ++ ([(⟨(⟨vo, (r : Int), 0, 0, (r : Int)⟩ : InsT), ([] : List Int)⟩ : VInT)] : List VInT)).length lC), (iI 0), (iI 0), (iI 0), (iI 0)] none false)], _, _, _] _ := hj
    refine ai 2 rfl ?_
    refine wR 1 [] 36 37 [9] [(9, (iI ((r : Int) + 1)))] (vA (vi (n := (r : Int) + 1) (by omega)) trivial) rfl fun _ => ?_
    refine lP _ _ _ ?_ ⟨fi ++ ([(⟨(⟨vo, (r : Int), 0, 0, (r : Int)⟩ : InsT), ([] : List Int)⟩ : VInT)] : List VInT), r + 1, lD, lA, lC, _, (fT (c6) i2), (HS.sub hj (List.sublist_append_left _ _)), lK, ⟨rfl, rfl, rfl, rfl, rfl, rfl, rfl, trivial⟩, rfl, (by simp; omega), (by exact ei w2 (vin_ldi (by omega) (by omega))), (by exact ei w4 (ck_ldi (by (dsimp only; omega)))), (by exact fst_snoc w5 ⟨by rw [w1], by (dsimp only; omega)⟩), (by omega)⟩
    omega
  ·
   try simp only [BS] at h6
   refine ab ?_
   refine wRo 1 0 [] 54 54 [] [(54, (.pointer (some ⟨a3, 1, none⟩)))] trivial rfl fun _ => ?_
   refine aD (ax (q := 2) g9 rfl rfl rfl rfl rfl rfl rfl rfl rfl) rfl ?_
   rintro _ nM _ ⟨hk, _⟩
   have hk : HS _ _ _ [_, _, [(a3, .cells [(.slice I fi.length J), (iI 1), (iI 0), (iI 0), (iI 0)] none false)], aq] _ := hk
   refine wRo 1 2 [] 55 55 [] [(55, (.pointer (some ⟨a3, 3, none⟩)))] trivial rfl fun _ => ?_
   refine aD (ax (q := 2) hk rfl rfl rfl rfl rfl rfl rfl rfl rfl) rfl ?_
   rintro _ nN _ ⟨ch, _⟩
   let c0 : Fp := [(a3, .cells [(.slice I fi.length J), (iI 1), (iI 0), (iI 1), (iI 0)] none false)]
   have ch : HS _ _ _ [_, _, c0, _] _ := ch
   refine ai 2 rfl ?_
   refine ab ?_
   let hB : Value := (.agg ⟨[(.slice I fi.length J), (iI 1), (iI 0), (iI 1), (iI 0)]⟩)
   refine wRo 3 0 [(1, .o (.slice none 0 0)), (2, .o hB)] 56 58 [] [(57, (.slice none 0 0)), (58, hB)] (vA (ql 22 2 (HS.hc ch (i := 1) rfl) rfl rfl) (vA (qn 42 0 5 (HS.hc ch (i := 2) rfl) rfl rfl rfl rfl) trivial)) rfl fun _ => ?_
   obtain ⟨hX, g3, hm, lN, nr⟩ := OS.frz a0 ch (i := 3) rfl
   have hm : HS _ _ _ [_, _, _, []] _ := hm
   refine aP (bZ (α := BlkT) (ps := [(0, hB)]) (cells := [(.slice I fi.length J), (iI 1), (iI 0), (iI 1), (iI 0)]) ([(⟨fi, 1, 0, 1, 0⟩ : BlkT)] : List BlkT) hm rfl rfl rfl (by kernel_rfl) ⟨[(.slice I fi.length J), (iI 1), (iI 0), (iI 1), (iI 0)], [], rfl, ⟨I, J, rfl, by (dsimp only; omega), by (dsimp only; omega), by (dsimp only; omega), by (dsimp only; omega), lN⟩, rfl⟩ rfl) rfl rfl ?_
   rintro _ nO f7 ⟨n4, ol, rfl, lL, hn, _⟩
   have hn : HS _ _ _ [_, _, _, _, f7] _ := hn
   have e0 := HS.snoc hn
   have e0 : HS _ _ _ [_, _, _, _, _, []] _ := e0
   refine aP (cT (α := BlkT) (q := 5) (OS.nil : OS hX (.slice none 0 0) ([] : List BlkT) []) e0 rfl rfl rfl (OS.sv lL e0 (i := 4) rfl) rfl rfl rfl rfl rfl rfl rfl (by (simp only [List.length_cons, List.length_nil]; omega))) rfl rfl ?_
   rintro _ nP k7 ⟨h2, k3, rfl, g5, ho, _⟩
   have ho : HS _ _ _ [_, _, _, _, _, k7] _ := ho
   have g5 : OS hX (.slice h2 ([(⟨fi, 1, 0, 1, 0⟩ : BlkT)] : List BlkT).length k3) ([(⟨fi, 1, 0, 1, 0⟩ : BlkT)] : List BlkT) k7 := g5
   refine wRo 1 5 [] 61 61 [] [(61, (.pointer (some ⟨b4, 2, none⟩)))] trivial rfl fun _ => ?_
   refine aD (ax (q := 1) ho rfl rfl rfl rfl rfl rfl rfl rfl rfl) rfl ?_
   rintro _ nQ _ ⟨hr, _⟩
   have hr : HS _ _ _ [_, [(b4, .cells [(iI params), (iI (9 + (i : Int))), (.slice h2 ([(⟨fi, 1, 0, 1, 0⟩ : BlkT)] : List BlkT).length k3)] none false)], _, _, _, _] _ := hr
   refine ai 3 rfl ?_
   refine wR 2 [] 1 0 [11] [(11, (iI 0))] trivial rfl fun _ => ?_
   refine aE (fun (mm : Nat) f H' => ∃ (bl : List BlkT) (b : Nat) (ad : Fp) (O : Option Addr) (T : Nat) (F' : Fz), Fz.le hX F' ∧ HS (Base.of H []) F' H' [b5, [(b4, .cells [(iI params), (iI (9 + (i : Int))), (.slice O bl.length T)] none false)], c0, [], f7, ad] R ∧ OS F' (.slice O bl.length T) bl ad ∧ aS f [(0, (.slice a_l l.length k_l)), (4, (.pointer (some ⟨b1, 0, none⟩))), (5, (.pointer (some ⟨b4, 0, none⟩))), (6, (iI (1 + (if (5 : Int) < ((l.length / 6 : Nat) : Int) then (5 : Int) else ((l.length / 6 : Nat) : Int))))), (11, (iI (b : Int)))] ∧ mm = ((1 + (if (5 : Int) < ((l.length / 6 : Nat) : Int) then (5 : Int) else ((l.length / 6 : Nat) : Int))) - (b : Int)).toNat ∧ (bl.length = b + 1) ∧ (bl.all (kQ params (9 + (i : Int)) ((1 + (if (5 : Int) < ((l.length / 6 : Nat) : Int) then (5 : Int) else ((l.length / 6 : Nat) : Int))) + 1)) = true) ∧ (∀ y ∈ bl, y.ins.length ≤ 11) ∧ (bl.all (fun y => y.ins.all ckI) = true) ∧ (bl.getD 0 default = ⟨fi, 1, 0, 1, 0⟩) ∧ ((b : Int) ≤ (1 + (if (5 : Int) < ((l.length / 6 : Nat) : Int) then (5 : Int) else ((l.length / 6 : Nat) : Int))))) _ ⟨([(⟨fi, 1, 0, 1, 0⟩ : BlkT)] : List BlkT), 0, k7, h2, k3, _, fR, hr, g5, ⟨rfl, rfl, rfl, rfl, rfl, trivial⟩, rfl, (by rfl), (by exact ei (l := []) rfl (blk_mk w2 (by omega))), (by exact ins_snoc (l := []) (by simp) (by (dsimp only; omega))), (by exact ei (l := []) rfl w4), (by rfl), (by omega)⟩ ?_
   rintro nu n8 nR ⟨bl, b, ad, O, T, ly, c7, ht, U, j0, rfl, e1, e2, e3, e5, e6, e4⟩ lQ
   refine aF _ j0 (fun _ => ?_)
   clear j0
   replace hT := (hT.mono g3).mono c7
   replace hl := (hl.mono g3).mono c7
   refine ao 2 rfl ?_
   refine wR 1 [] 62 64 [] [(64, (.bool (decide ((b : Int) < 1 + (if (5 : Int) < ((l.length / 6 : Nat) : Int) then (5 : Int) else ((l.length / 6 : Nat) : Int))))))] trivial rfl fun _ => ?_
   refine aj 4 5 (v := (decide ((b : Int) < 1 + (if (5 : Int) < ((l.length / 6 : Nat) : Int) then (5 : Int) else ((l.length / 6 : Nat) : Int))))) rfl rfl rfl rfl (fun h8 => ?_) (fun h8 => ?_)
   ·
    try simp only [BS] at h8
    refine ab ?_
    refine aP (bp ht rfl) rfl rfl ?_
    rintro _ nS _ ⟨E, rfl, hu, _⟩
    let f6 : Fp := [(b4, .cells [(iI params), (iI (9 + (i : Int))), (.slice O bl.length T)] none false)]
    have hu : HS _ _ _ [_, f6, _, _, _, ad, [(E, .cells [(.slice none 0 0), (iI 0), (iI 0), (iI 0), (iI 0)] none false)]] _ := hu
    refine ai 3 rfl ?_
    refine wR 2 [] 1 0 [13] [(13, (iI 0))] trivial rfl fun _ => ?_
    have hv := HS.snoc hu
    have hv : HS _ _ _ [_, _, _, _, _, _, _, []] _ := hv
    refine aE (fun (mm : Nat) f H' => ∃ (xi : List VInT) (k : Nat) (ag : Fp) (z : Option Addr) (A : Nat) (F' : Fz), Fz.le ly F' ∧ HS (Base.of H []) F' H' [b5, f6, c0, [], f7, ad, [(E, .cells [(.slice z xi.length A), (iI 0), (iI 0), (iI 0), (iI 0)] none false)], ag] R ∧ OS F' (.slice z xi.length A) xi ag ∧ aS f [(0, (.slice a_l l.length k_l)), (4, (.pointer (some ⟨b1, 0, none⟩))), (5, (.pointer (some ⟨b4, 0, none⟩))), (6, (iI (1 + (if (5 : Int) < ((l.length / 6 : Nat) : Int) then (5 : Int) else ((l.length / 6 : Nat) : Int))))), (11, (iI (b : Int))), (12, (.pointer (some ⟨E, 0, none⟩))), (13, (iI (k : Int))), (64, (.bool (decide ((b : Int) < 1 + (if (5 : Int) < ((l.length / 6 : Nat) : Int) then (5 : Int) else ((l.length / 6 : Nat) : Int))))))] ∧ mm = 5 - k ∧ (xi.length = k) ∧ (xi.all (ey params (9 + (i : Int))) = true) ∧ (xi.all ckI = true) ∧ (k ≤ 5)) _ ⟨([] : List VInT), 0, [], none, 0, _, fR, hv, (OS.nil : OS ly (.slice none 0 0) ([] : List VInT) []), ⟨rfl, rfl, rfl, rfl, rfl, rfl, rfl, rfl, trivial⟩, rfl, (by rfl), (by rfl), (by rfl), (by omega)⟩ ?_
    rintro nv n9 lz ⟨xi, k, ag, z, A, ny, cd, a1, V, j1, rfl, z1, z2, z4, z3⟩ lR
    refine aF _ j1 (fun _ => ?_)
    clear j1
    replace hT := hT.mono cd
    replace hl := hl.mono cd
    replace U := U.mono cd
    refine ao 2 rfl ?_
    refine wR 1 [] 67 77 [] [(77, (.bool ((decide ((k : Int) < 5)) && (decide ((6 * (b : Int)) + (k : Int) < (l.length : Int))))))] (vA (fun (g1 : (decide ((k : Int) < 5)) = true) => (vi (n := 6 * (b : Int)) (by (try simp only [BS] at g1); (first | omega | (dsimp only; omega))))) (vA (fun (g1 : (decide ((k : Int) < 5)) = true) => (vi (n := (6 * (b : Int)) + (k : Int)) (by (try simp only [BS] at g1); (first | omega | (dsimp only; omega))))) trivial)) rfl fun _ => ?_
    refine aj 3 5 (v := ((decide ((k : Int) < 5)) && (decide ((6 * (b : Int)) + (k : Int) < (l.length : Int))))) rfl rfl rfl rfl (fun h9 => ?_) (fun h9 => ?_)
    ·
     try simp only [BS] at h9
     refine aG rfl ?_
     refine wfv (v := (.pointer (some ⟨E, 0, none⟩))) (aR rfl rfl) ?_
     refine au (v := (.slice z xi.length A)) (id := .l E) (aA (i := 0) rfl rfl (HS.hc a1.log0 (i := 6) rfl) rfl rfl) rfl rfl (aL rfl) (kb rfl) ?_
     refine fm (.slice a_l l.length k_l) rfl rfl rfl ?_
     refine fm (iI (b : Int)) rfl rfl rfl ?_
     refine wfv (v := (iI (6 * (b : Int)))) (ap_mul rfl rfl (km (n := 6 * (b : Int)) (by omega))) ?_
     refine fm (iI (k : Int)) rfl rfl rfl ?_
     refine wfv (v := (iI ((6 * (b : Int)) + (k : Int)))) (ap_add rfl rfl (km (n := (6 * (b : Int)) + (k : Int)) (by omega))) ?_
     refine wfv (v := (.pointer (some ⟨sB (.slice a_l l.length k_l), sO (.slice a_l l.length k_l) + ((6 * b) + k) * Rp.sz Int, none⟩))) (bd (α := Int) (j := (6 * (b : Int)) + (k : Int)) rfl rfl rfl rfl (SR.sv hl a1.log0) (by omega) (by omega)) ?_
     obtain ⟨nh, lO, lI⟩ := Sv.at (SR.sv hl a1.log0) (aI (x := (0 : Int)) (show (6 * b) + k < l.length from by omega))
     obtain ⟨rfl, mw⟩ := lO
     refine au (v := (iI (l.getD ((6 * b) + k) 0))) (id := .l (sB (.slice a_l l.length k_l))) (aA (i := 0) rfl rfl lI rfl rfl) rfl rfl (aL rfl) (kb rfl) ?_
     refine au (v := (.agg ⟨[(iI params), (iI (9 + (i : Int))), (.slice O bl.length T)]⟩)) (id := .l b4) (fk (i := 0) rfl rfl rfl (HS.hc a1.log0 (i := 1) rfl) rfl rfl rfl) rfl rfl (aL rfl) (kb rfl) ?_
     refine bg (W := []) (aw rfl rfl rfl) rfl rfl rfl (m4.vi_c ex (l.getD ((6 * b) + k) 0) (⟨params, 9 + (i : Int), bl⟩ : VFnT) (HS.call a1.log0) (by omega) (by (dsimp only; omega)) (by (dsimp only; omega)) hT (by (dsimp only; omega))) (⟨.inl rfl, ⟨.inl rfl, ⟨.inl rfl, ⟨.inl rfl, ⟨.inl rfl, ⟨.inl rfl, ⟨.inl rfl, ⟨.inl rfl, ⟨.inr List.not_mem_nil, ⟨.inr trivial, trivial⟩⟩⟩⟩⟩⟩⟩⟩⟩⟩) ?_
     rintro _ ma ⟨ap, a9, b2, nz, i3, a2, rfl, l1, l2, l3, l4, l5, hW, oe, nq⟩
     refine ⟨Wr.did a2.log, fun lS ln => ?_⟩
     replace a2 := HS.back a1.log0 rfl a2
     replace a2 := HS.lg a2 a1 ln
     generalize ({ ma with log := lS } : Heap) = mY at a2 ⊢
     have a2 : HS _ _ _ [_, _, _, _, _, _, [(E, .cells [(.slice z xi.length A), (iI 0), (iI 0), (iI 0), (iI 0)] none false)], ag] _ := a2
     replace V := V.mono i3
     refine dJ (id := .a) (bZ (α := VInT) (ps := [(0, (.agg ⟨[(iI ap.i.op), (iI ap.i.a), (iI ap.i.b), (iI ap.i.c), (iI ap.i.n), (.slice a9 ap.args.length b2)]⟩))]) (cells := [(iI ap.i.op), (iI ap.i.a), (iI ap.i.b), (iI ap.i.c), (iI ap.i.n), (.slice a9 ap.args.length b2)]) ([ap] : List VInT) a2.log0 rfl rfl rfl (by kernel_rfl) ⟨[(iI ap.i.op), (iI ap.i.a), (iI ap.i.b), (iI ap.i.c), (iI ap.i.n), (.slice a9 ap.args.length b2)], [], rfl, ⟨a9, b2, rfl, by omega, by omega, by omega, by omega, by omega, hW⟩, rfl⟩ rfl) rfl rfl (fun _ _ _ _ => gN rfl rfl rfl) (kb rfl) ?_
     rintro _ mb mp ⟨n5, om, rfl, lM, a4, _⟩ lT lp
     replace a4 := HS.lg a4 a2 lp
     generalize ({ mb with log := lT } : Heap) = mZ at a4 ⊢
     have a4 : HS _ _ _ [_, _, _, _, _, _, _, _, mp] _ := a4
     refine dJ (id := .x (ag.map Prod.fst)) (cT (α := VInT) (q := 7) V a4.log0 rfl rfl rfl (OS.sv lM a4.log0 (i := 8) rfl) rfl rfl rfl rfl rfl rfl rfl (by (simp only [List.length_cons, List.length_nil]; omega))) rfl rfl (by rintro _ _ k8 ⟨h3, k4, rfl, ki, _, hwr⟩; exact cE rfl rfl (Wr.did hwr)) (kb rfl) ?_
     rintro _ mc k8 ⟨h3, k4, rfl, ki, a8, _⟩ lU lq
     replace a8 := HS.lg a8 a4 lq
     generalize ({ mc with log := lU } : Heap) = m0 at a8 ⊢
     have a8 : HS _ _ _ [_, _, _, _, _, _, _, k8, _] _ := a8
     refine wfv (v := (.pointer (some ⟨E, 0, none⟩))) (aR rfl rfl) ?_
     refine ed (id := .x [E]) (ax (q := 6) a8.log0 rfl rfl rfl rfl rfl rfl rfl rfl rfl) rfl (by rintro _ _ _ ⟨_, hwr⟩; exact cE rfl rfl (Wr.did hwr)) (kb rfl) ?_
     rintro _ md _ ⟨b3, _⟩ lV lr
     replace b3 := HS.lg b3 a8 lr
     generalize ({ md with log := lV } : Heap) = na at b3 ⊢
     have b3 : HS _ _ _ [_, _, _, _, _, _, [(E, .cells [(.slice h3 (xi ++ ([ap] : List VInT)).length k4), (iI 0), (iI 0), (iI 0), (iI 0)] none false)], _, _] _ := b3
     refine bw ?_
     refine ao 2 rfl ?_
     refine wR 1 [] 78 79 [13] [(13, (iI ((k : Int) + 1)))] (vA (vi (n := (k : Int) + 1) (by omega)) trivial) rfl fun _ => ?_
     refine lR _ _ _ ?_ ⟨xi ++ ([ap] : List VInT), k + 1, k8, h3, k4, _, (fT (cd) i3), (HS.sub b3 (List.sublist_append_left _ _)), ki, ⟨rfl, rfl, rfl, rfl, rfl, rfl, rfl, rfl, trivial⟩, rfl, (by simp; omega), (by exact ei z2 (by assumption)), (by exact ei z4 (by assumption)), (by omega)⟩
     omega
    ·
     try simp only [BS] at h9
     refine wR 3 [] 1 0 [14] [(14, (iI 0))] trivial rfl fun _ => ?_
     refine wR 1 [] 94 99 [] [(99, (.bool (decide ((6 * (b : Int)) + 5 < (l.length : Int)))))] (vA (vi (n := 6 * (b : Int)) (by omega)) (vA (vi (n := (6 * (b : Int)) + 5) (by omega)) trivial)) rfl fun _ => ?_
     refine dp (fun f H' => ∃ (nn : Int), H' = lz ∧ aS f [(0, (.slice a_l l.length k_l)), (4, (.pointer (some ⟨b1, 0, none⟩))), (5, (.pointer (some ⟨b4, 0, none⟩))), (6, (iI (1 + (if (5 : Int) < ((l.length / 6 : Nat) : Int) then (5 : Int) else ((l.length / 6 : Nat) : Int))))), (11, (iI (b : Int))), (12, (.pointer (some ⟨E, 0, none⟩))), (13, (iI (k : Int))), (14, (iI nn)), (64, (.bool (decide ((b : Int) < 1 + (if (5 : Int) < ((l.length / 6 : Nat) : Int) then (5 : Int) else ((l.length / 6 : Nat) : Int)))))), (77, (.bool ((decide ((k : Int) < 5)) && (decide ((6 * (b : Int)) + (k : Int) < (l.length : Int)))))), (99, (.bool (decide ((6 * (b : Int)) + 5 < (l.length : Int)))))] ∧ (in64 nn)) (fun kv => ?_) ?_
     ·
      refine aj 0 0 (v := (decide ((6 * (b : Int)) + 5 < (l.length : Int)))) rfl rfl rfl rfl (fun ih => ?_) (fun ih => ?_)
      ·
       try simp only [BS] at ih
       obtain ⟨ng, kr⟩ := Sv.view (SR.sv hl a1)
       have od := fI (kr ((6 * b) + 5))
       refine wR 0 [(5, .o (iI (l.getD ((6 * b) + 5) 0)))] 100 105 [14] [(14, (iI (l.getD ((6 * b) + 5) 0)))] (vA (vi (n := 6 * (b : Int)) (by omega)) (vA (vi (n := (6 * (b : Int)) + 5) (by omega)) (vA (Sv.ix (j := (6 * (b : Int)) + 5) (SR.sv hl a1) (by omega) (by omega)) (vA (ql 3 0 (vI (kr ((6 * b) + 5)) (by omega)) rfl rfl) trivial)))) rfl fun _ => ?_
       exact kv _ _ ⟨(l.getD ((6 * b) + 5) 0), rfl, ⟨rfl, rfl, rfl, rfl, rfl, rfl, rfl, rfl, rfl, rfl, rfl, trivial⟩, (by omega)⟩
      ·
       try simp only [BS] at ih
       exact kv _ _ ⟨0, rfl, ⟨rfl, rfl, rfl, rfl, rfl, rfl, rfl, rfl, rfl, rfl, rfl, trivial⟩, (by omega)⟩
     ·
      rintro ob lz ⟨nn, rfl, j2, hnn⟩
      refine aF _ j2 (fun _ => ?_)
      clear j2
      refine ao 2 rfl ?_
      refine ab ?_
      refine wRo 2 0 [] 106 107 [] [(107, (.agg ⟨[(iI nn)]⟩))] trivial rfl fun _ => ?_
      refine aP (b8 a1 rfl rfl) rfl rfl ?_
      rintro _ nT _ ⟨Z, rfl, e9, _⟩
      have e9 : HS _ _ _ [_, _, _, _, _, _, [(E, .cells [(.slice z xi.length A), (iI 0), (iI 0), (iI 0), (iI 0)] none false)], ag, [(Z, .cells [(iI nn)] none false)]] _ := e9
      refine wa (.pointer (some ⟨Z, 0, none⟩)) rfl rfl rfl ?_
      refine ai 3 rfl ?_
      refine ab ?_
      refine wm (.pointer (some ⟨Z, 0, none⟩)) rfl rfl rfl ?_
      refine aC (aw rfl rfl rfl) rfl rfl (m4.cL ex (⟨nn⟩ : DigT) (6) (HS.callOwn e9 (i := 8) rfl) (by omega) (by omega) hT (by omega)) ?_
      rintro _ nU ⟨a7, b9, l7, c8, ar, rfl, mi, og⟩
      replace ar := HS.backOwn e9 (i := 8) rfl rfl (fun _ hb => hb) ar
      have ar : HS _ _ _ [_, _, _, _, _, _, _, _, [(Z, .cells [(iI b9.n)] none false)]] _ := ar
      replace hT := hT.mono c8
      replace U := U.mono c8
      replace V := V.mono c8
      refine ai 3 rfl ?_
      refine wR 1 [] 127 128 [] [(127, (.bool (a7 == 0)))] trivial rfl fun _ => ?_
      refine dp (fun f H' => ∃ (xe : Int) (xg : Int) (xt : Int) (xf : Int) (dd : DigT) (F' : Fz), Fz.le l7 F' ∧ HS (Base.of H []) F' H' [b5, f6, c0, [], f7, ad, [(E, .cells [(.slice z xi.length A), (iI xe), (iI xg), (iI xt), (iI xf)] none false)], ag, [(Z, .cells [(iI dd.n)] none false)]] R ∧ aS f [(0, (.slice a_l l.length k_l)), (4, (.pointer (some ⟨b1, 0, none⟩))), (5, (.pointer (some ⟨b4, 0, none⟩))), (6, (iI (1 + (if (5 : Int) < ((l.length / 6 : Nat) : Int) then (5 : Int) else ((l.length / 6 : Nat) : Int))))), (11, (iI (b : Int))), (12, (.pointer (some ⟨E, 0, none⟩))), (13, (iI (k : Int))), (14, (iI nn)), (15, (.pointer (some ⟨Z, 0, none⟩))), (64, (.bool (decide ((b : Int) < 1 + (if (5 : Int) < ((l.length / 6 : Nat) : Int) then (5 : Int) else ((l.length / 6 : Nat) : Int)))))), (77, (.bool ((decide ((k : Int) < 5)) && (decide ((6 * (b : Int)) + (k : Int) < (l.length : Int)))))), (99, (.bool (decide ((6 * (b : Int)) + 5 < (l.length : Int))))), (107, (.agg ⟨[(iI nn)]⟩)), (108, (.pointer (some ⟨Z, 0, none⟩))), (109, (.pointer (some ⟨Z, 0, none⟩))), (110, (iI a7)), (127, (.bool (a7 == 0)))] ∧ ((xe = 1 ∧ 0 ≤ xt ∧ xt < ((1 + (if (5 : Int) < ((l.length / 6 : Nat) : Int) then (5 : Int) else ((l.length / 6 : Nat) : Int)))) + 1 ∧ xf = 0 ∧ xg = 0 ∨ xe = 2 ∧ 0 ≤ xt ∧ xt < ((1 + (if (5 : Int) < ((l.length / 6 : Nat) : Int) then (5 : Int) else ((l.length / 6 : Nat) : Int)))) + 1 ∧ 0 ≤ xf ∧ xf < ((1 + (if (5 : Int) < ((l.length / 6 : Nat) : Int) then (5 : Int) else ((l.length / 6 : Nat) : Int)))) + 1 ∧ 0 ≤ xg ∧ xg < 9 + (i : Int) ∨ xe = 3 ∧ 0 ≤ xg ∧ xg < 9 + (i : Int) ∧ xt = 0 ∧ xf = 0 ∨ xe = 4 ∧ 1 ≤ xt ∧ xt < 33554432 ∧ xf = 0 ∧ xg = 0)) ∧ (in64 dd.n)) (fun fd => ?_) ?_
      ·
       refine aj 0 1 (v := (a7 == 0)) rfl rfl rfl rfl (fun ii => ?_) (fun ii => ?_)
       ·
        try simp only [BS] at ii
        refine ab ?_
        refine wRo 2 0 [] 129 130 [] [(129, (.pointer (some ⟨Z, 0, none⟩))), (130, (iI (1 + (if (5 : Int) < ((l.length / 6 : Nat) : Int) then (5 : Int) else ((l.length / 6 : Nat) : Int)))))] trivial rfl fun _ => ?_
        refine aC (aw rfl rfl rfl) rfl rfl (m4.cL ex (⟨b9.n⟩ : DigT) (1 + (if (5 : Int) < ((l.length / 6 : Nat) : Int) then (5 : Int) else ((l.length / 6 : Nat) : Int))) (HS.callOwn ar (i := 8) rfl) (by omega) (by omega) hT (by omega)) ?_
        rintro _ nW ⟨hS, iv, nA, lG, ci, rfl, mj, oh⟩
        replace ci := HS.backOwn ar (i := 8) rfl rfl (fun _ hb => hb) ci
        have ci : HS _ _ _ [_, _, _, _, _, _, _, _, [(Z, .cells [(iI iv.n)] none false)]] _ := ci
        refine wRo 2 3 [] 132 133 [] [(132, (iI (1 + hS))), (133, (.pointer (some ⟨E, 1, none⟩)))] (vA (vi (n := 1 + hS) (by omega)) trivial) rfl fun _ => ?_
        refine aD (ax (q := 6) ci rfl rfl rfl rfl rfl rfl rfl rfl rfl) rfl ?_
        rintro _ nX _ ⟨hx, _⟩
        have hx : HS _ _ _ [_, _, _, _, _, _, [(E, .cells [(.slice z xi.length A), (iI 1), (iI 0), (iI 0), (iI 0)] none false)], _, _] _ := hx
        refine wRo 1 6 [] 134 134 [] [(134, (.pointer (some ⟨E, 3, none⟩)))] trivial rfl fun _ => ?_
        refine aD (ax (q := 6) hx rfl rfl rfl rfl rfl rfl rfl rfl rfl) rfl ?_
        rintro _ nY _ ⟨hy, _⟩
        have hy : HS _ _ _ [_, _, _, _, _, _, [(E, .cells [(.slice z xi.length A), (iI 1), (iI 0), (iI (1 + hS)), (iI 0)] none false)], _, _] _ := hy
        refine ai 0 rfl ?_
        exact fd _ _ ⟨1, 0, 1 + hS, 0, (⟨iv.n⟩ : DigT), _, (lG), hy, ⟨rfl, rfl, rfl, rfl, rfl, rfl, rfl, rfl, rfl, rfl, rfl, rfl, rfl, rfl, rfl, rfl, rfl, trivial⟩, (by omega), (by omega)⟩
       ·
        try simp only [BS] at ii
        refine wR 1 [] 135 136 [] [(135, (.bool (a7 == 1)))] trivial rfl fun _ => ?_
        refine aj 0 1 (v := (a7 == 1)) rfl rfl rfl rfl (fun ik => ?_) (fun ik => ?_)
        ·
         try simp only [BS] at ik
         refine ab ?_
         refine wm (.pointer (some ⟨Z, 0, none⟩)) rfl rfl rfl ?_
         refine aC (aw rfl rfl rfl) rfl rfl (m4.cL ex (⟨b9.n⟩ : DigT) (9) (HS.callOwn ar (i := 8) rfl) (by omega) (by omega) hT (by omega)) ?_
         rintro _ nZ ⟨hV, i1, nB, lH, co, rfl, ml, oi⟩
         replace co := HS.backOwn ar (i := 8) rfl rfl (fun _ hb => hb) co
         have co : HS _ _ _ [_, _, _, _, _, _, _, _, [(Z, .cells [(iI i1.n)] none false)]] _ := co
         refine wRo 2 2 [] 139 140 [] [(139, (iI (1 + hV))), (140, (.pointer (some ⟨E, 1, none⟩)))] (vA (vi (n := 1 + hV) (by omega)) trivial) rfl fun _ => ?_
         refine aD (ax (q := 6) co rfl rfl rfl rfl rfl rfl rfl rfl rfl) rfl ?_
         rintro _ n1 _ ⟨hz, _⟩
         have hz : HS _ _ _ [_, _, _, _, _, _, [(E, .cells [(.slice z xi.length A), (iI 4), (iI 0), (iI 0), (iI 0)] none false)], _, _] _ := hz
         refine wRo 1 5 [] 141 141 [] [(141, (.pointer (some ⟨E, 3, none⟩)))] trivial rfl fun _ => ?_
         refine aD (ax (q := 6) hz rfl rfl rfl rfl rfl rfl rfl rfl rfl) rfl ?_
         rintro _ n2 _ ⟨hA, _⟩
         have hA : HS _ _ _ [_, _, _, _, _, _, [(E, .cells [(.slice z xi.length A), (iI 4), (iI 0), (iI (1 + hV)), (iI 0)] none false)], _, _] _ := hA
         refine ai 0 rfl ?_
         exact fd _ _ ⟨4, 0, 1 + hV, 0, (⟨i1.n⟩ : DigT), _, (lH), hA, ⟨rfl, rfl, rfl, rfl, rfl, rfl, rfl, rfl, rfl, rfl, rfl, rfl, rfl, rfl, rfl, rfl, rfl, trivial⟩, (by omega), (by omega)⟩
        ·
         try simp only [BS] at ik
         refine wR 1 [] 142 143 [] [(142, (.bool (a7 == 2)))] trivial rfl fun _ => ?_
         refine aj 0 0 (v := (a7 == 2)) rfl rfl rfl rfl (fun gj => ?_) (fun gj => ?_)
         ·
          try simp only [BS] at gj
          refine ab ?_
          refine wRo 3 0 [(2, .o (iI (9 + (i : Int))))] 144 146 [] [(144, (.pointer (some ⟨Z, 0, none⟩))), (146, (iI (9 + (i : Int))))] (vA (ql 3 1 (HS.hc ar (i := 1) rfl) rfl rfl) trivial) rfl fun _ => ?_
          refine aC (aw rfl rfl rfl) rfl rfl (m4.cL ex (⟨b9.n⟩ : DigT) (9 + (i : Int)) (HS.callOwn ar (i := 8) rfl) (by omega) (by omega) hT (by omega)) ?_
          rintro _ mG ⟨k9, hE, mz, lj, bb, rfl, lX, nj⟩
          replace bb := HS.backOwn ar (i := 8) rfl rfl (fun _ hb => hb) bb
          have bb : HS _ _ _ [_, _, _, _, _, _, _, _, [(Z, .cells [(iI hE.n)] none false)]] _ := bb
          refine wRo 1 4 [] 148 148 [] [(148, (.pointer (some ⟨E, 1, none⟩)))] trivial rfl fun _ => ?_
          refine aD (ax (q := 6) bb rfl rfl rfl rfl rfl rfl rfl rfl rfl) rfl ?_
          rintro _ mH _ ⟨c9, _⟩
          have c9 : HS _ _ _ [_, _, _, _, _, _, [(E, .cells [(.slice z xi.length A), (iI 3), (iI 0), (iI 0), (iI 0)] none false)], _, _] _ := c9
          refine wRo 1 6 [] 149 149 [] [(149, (.pointer (some ⟨E, 2, none⟩)))] trivial rfl fun _ => ?_
          refine aD (ax (q := 6) c9 rfl rfl rfl rfl rfl rfl rfl rfl rfl) rfl ?_
          rintro _ mI _ ⟨dk, _⟩
          have dk : HS _ _ _ [_, _, _, _, _, _, [(E, .cells [(.slice z xi.length A), (iI 3), (iI k9), (iI 0), (iI 0)] none false)], _, _] _ := dk
          refine ai 0 rfl ?_
          exact fd _ _ ⟨3, k9, 0, 0, (⟨hE.n⟩ : DigT), _, (lj), dk, ⟨rfl, rfl, rfl, rfl, rfl, rfl, rfl, rfl, rfl, rfl, rfl, rfl, rfl, rfl, rfl, rfl, rfl, trivial⟩, (by omega), (by omega)⟩
         ·
          try simp only [BS] at gj
          refine ab ?_
          refine wRo 3 0 [(2, .o (iI (9 + (i : Int))))] 111 113 [] [(111, (.pointer (some ⟨Z, 0, none⟩))), (113, (iI (9 + (i : Int))))] (vA (ql 3 1 (HS.hc ar (i := 1) rfl) rfl rfl) trivial) rfl fun _ => ?_
          refine aC (aw rfl rfl rfl) rfl rfl (m4.cL ex (⟨b9.n⟩ : DigT) (9 + (i : Int)) (HS.callOwn ar (i := 8) rfl) (by omega) (by omega) hT (by omega)) ?_
          rintro _ mJ ⟨f1, hF, mA, hI, a5, rfl, lY, nk⟩
          replace a5 := HS.backOwn ar (i := 8) rfl rfl (fun _ hb => hb) a5
          have a5 : HS _ _ _ [_, _, _, _, _, _, _, _, [(Z, .cells [(iI hF.n)] none false)]] _ := a5
          replace hT := hT.mono hI
          refine wRo 2 4 [] 115 116 [] [(115, (.pointer (some ⟨Z, 0, none⟩))), (116, (iI (1 + (if (5 : Int) < ((l.length / 6 : Nat) : Int) then (5 : Int) else ((l.length / 6 : Nat) : Int)))))] trivial rfl fun _ => ?_
          refine aC (aw rfl rfl rfl) rfl rfl (m4.cL ex (⟨hF.n⟩ : DigT) (1 + (if (5 : Int) < ((l.length / 6 : Nat) : Int) then (5 : Int) else ((l.length / 6 : Nat) : Int))) (HS.callOwn a5 (i := 8) rfl) (by omega) (by omega) hT (by omega)) ?_
          rintro _ mK ⟨cv, hG, mB, hK, a6, rfl, lZ, nm⟩
          replace a6 := HS.backOwn a5 (i := 8) rfl rfl (fun _ hb => hb) a6
          have a6 : HS _ _ _ [_, _, _, _, _, _, _, _, [(Z, .cells [(iI hG.n)] none false)]] _ := a6
          replace hT := hT.mono hK
          refine wRo 3 7 [] 118 120 [] [(118, (iI (1 + cv))), (119, (.pointer (some ⟨Z, 0, none⟩))), (120, (iI (1 + (if (5 : Int) < ((l.length / 6 : Nat) : Int) then (5 : Int) else ((l.length / 6 : Nat) : Int)))))] (vA (vi (n := 1 + cv) (by omega)) trivial) rfl fun _ => ?_
          refine aC (aw rfl rfl rfl) rfl rfl (m4.cL ex (⟨hG.n⟩ : DigT) (1 + (if (5 : Int) < ((l.length / 6 : Nat) : Int) then (5 : Int) else ((l.length / 6 : Nat) : Int))) (HS.callOwn a6 (i := 8) rfl) (by omega) (by omega) hT (by omega)) ?_
          rintro _ mL ⟨f2, hH, mC, ll, b0, rfl, l0, np⟩
          replace b0 := HS.backOwn a6 (i := 8) rfl rfl (fun _ hb => hb) b0
          have b0 : HS _ _ _ [_, _, _, _, _, _, _, _, [(Z, .cells [(iI hH.n)] none false)]] _ := b0
          refine wRo 2 11 [] 122 123 [] [(122, (iI (1 + f2))), (123, (.pointer (some ⟨E, 1, none⟩)))] (vA (vi (n := 1 + f2) (by omega)) trivial) rfl fun _ => ?_
          refine aD (ax (q := 6) b0 rfl rfl rfl rfl rfl rfl rfl rfl rfl) rfl ?_
          rintro _ mM _ ⟨dl, _⟩
          have dl : HS _ _ _ [_, _, _, _, _, _, [(E, .cells [(.slice z xi.length A), (iI 2), (iI 0), (iI 0), (iI 0)] none false)], _, _] _ := dl
          refine wRo 1 14 [] 124 124 [] [(124, (.pointer (some ⟨E, 2, none⟩)))] trivial rfl fun _ => ?_
          refine aD (ax (q := 6) dl rfl rfl rfl rfl rfl rfl rfl rfl rfl) rfl ?_
          rintro _ mN _ ⟨dn, _⟩
          have dn : HS _ _ _ [_, _, _, _, _, _, [(E, .cells [(.slice z xi.length A), (iI 2), (iI f1), (iI 0), (iI 0)] none false)], _, _] _ := dn
          refine wRo 1 16 [] 125 125 [] [(125, (.pointer (some ⟨E, 3, none⟩)))] trivial rfl fun _ => ?_
          refine aD (ax (q := 6) dn rfl rfl rfl rfl rfl rfl rfl rfl rfl) rfl ?_
          rintro _ mO _ ⟨ds, _⟩
          have ds : HS _ _ _ [_, _, _, _, _, _, [(E, .cells [(.slice z xi.length A), (iI 2), (iI f1), (iI (1 + cv)), (iI 0)] none false)], _, _] _ := ds
          refine wRo 1 18 [] 126 126 [] [(126, (.pointer (some ⟨E, 4, none⟩)))] trivial rfl fun _ => ?_
          refine aD (ax (q := 6) ds rfl rfl rfl rfl rfl rfl rfl rfl rfl) rfl ?_
          rintro _ mP _ ⟨dt, _⟩
          have dt : HS _ _ _ [_, _, _, _, _, _, [(E, .cells [(.slice z xi.length A), (iI 2), (iI f1), (iI (1 + cv)), (iI (1 + f2))] none false)], _, _] _ := dt
          refine ai 0 rfl ?_
          exact fd _ _ ⟨2, f1, 1 + cv, 1 + f2, (⟨hH.n⟩ : DigT), _, (fT (fT (hI) hK) ll), dt, ⟨rfl, rfl, rfl, rfl, rfl, rfl, rfl, rfl, rfl, rfl, rfl, rfl, rfl, rfl, rfl, rfl, rfl, trivial⟩, (by omega), (by omega)⟩
      ·
       rintro oc nV ⟨xe, xg, xt, xf, dd, l8, g4, hw, kd, hD, hdd⟩
       refine aF _ kd (fun _ => ?_)
       clear kd
       replace U := U.mono g4
       replace V := V.mono g4
       refine ao 4 rfl ?_
       refine wR 1 [(6, .o (iI xe))] 150 158 [] [(158, (.bool (((b : Int) == (1 + (if (5 : Int) < ((l.length / 6 : Nat) : Int) then (5 : Int) else ((l.length / 6 : Nat) : Int))) - 1) && (xe == 1))))] (vA (vi (n := (1 + (if (5 : Int) < ((l.length / 6 : Nat) : Int) then (5 : Int) else ((l.length / 6 : Nat) : Int))) - 1) (by omega)) (vA (fun (g1 : ((b : Int) == (1 + (if (5 : Int) < ((l.length / 6 : Nat) : Int) then (5 : Int) else ((l.length / 6 : Nat) : Int))) - 1) = true) => (ql 3 1 (HS.hc hw (i := 6) rfl) rfl rfl)) trivial)) rfl fun _ => ?_
       refine dp (fun f H' => ∃ (ye : Int) (yg : Int) (yt : Int) (F' : Fz), Fz.le l8 F' ∧ HS (Base.of H []) F' H' [b5, f6, c0, [], f7, ad, [(E, .cells [(.slice z xi.length A), (iI ye), (iI yg), (iI yt), (iI xf)] none false)], ag, [(Z, .cells [(iI dd.n)] none false)]] R ∧ aS f [(0, (.slice a_l l.length k_l)), (4, (.pointer (some ⟨b1, 0, none⟩))), (5, (.pointer (some ⟨b4, 0, none⟩))), (6, (iI (1 + (if (5 : Int) < ((l.length / 6 : Nat) : Int) then (5 : Int) else ((l.length / 6 : Nat) : Int))))), (11, (iI (b : Int))), (12, (.pointer (some ⟨E, 0, none⟩))), (13, (iI (k : Int))), (14, (iI nn)), (15, (.pointer (some ⟨Z, 0, none⟩))), (64, (.bool (decide ((b : Int) < 1 + (if (5 : Int) < ((l.length / 6 : Nat) : Int) then (5 : Int) else ((l.length / 6 : Nat) : Int)))))), (77, (.bool ((decide ((k : Int) < 5)) && (decide ((6 * (b : Int)) + (k : Int) < (l.length : Int)))))), (99, (.bool (decide ((6 * (b : Int)) + 5 < (l.length : Int))))), (107, (.agg ⟨[(iI nn)]⟩)), (108, (.pointer (some ⟨Z, 0, none⟩))), (109, (.pointer (some ⟨Z, 0, none⟩))), (110, (iI a7)), (127, (.bool (a7 == 0))), (158, (.bool (((b : Int) == (1 + (if (5 : Int) < ((l.length / 6 : Nat) : Int) then (5 : Int) else ((l.length / 6 : Nat) : Int))) - 1) && (xe == 1))))] ∧ ((ye = 1 ∧ 0 ≤ yt ∧ yt < ((1 + (if (5 : Int) < ((l.length / 6 : Nat) : Int) then (5 : Int) else ((l.length / 6 : Nat) : Int)))) + 1 ∧ xf = 0 ∧ yg = 0 ∨ ye = 2 ∧ 0 ≤ yt ∧ yt < ((1 + (if (5 : Int) < ((l.length / 6 : Nat) : Int) then (5 : Int) else ((l.length / 6 : Nat) : Int)))) + 1 ∧ 0 ≤ xf ∧ xf < ((1 + (if (5 : Int) < ((l.length / 6 : Nat) : Int) then (5 : Int) else ((l.length / 6 : Nat) : Int)))) + 1 ∧ 0 ≤ yg ∧ yg < 9 + (i : Int) ∨ ye = 3 ∧ 0 ≤ yg ∧ yg < 9 + (i : Int) ∧ yt = 0 ∧ xf = 0 ∨ ye = 4 ∧ 1 ≤ yt ∧ yt < 33554432 ∧ xf = 0 ∧ yg = 0))) (fun hR => ?_) ?_
       ·
        refine aj 0 0 (v := (((b : Int) == (1 + (if (5 : Int) < ((l.length / 6 : Nat) : Int) then (5 : Int) else ((l.length / 6 : Nat) : Int))) - 1) && (xe == 1))) rfl rfl rfl rfl (fun g2 => ?_) (fun g2 => ?_)
        ·
         try simp only [BS] at g2
         refine ab ?_
         refine wRo 1 0 [] 159 159 [] [(159, (.pointer (some ⟨E, 1, none⟩)))] trivial rfl fun _ => ?_
         refine aD (ax (q := 6) hw rfl rfl rfl rfl rfl rfl rfl rfl rfl) rfl ?_
         rintro _ mR _ ⟨d1, _⟩
         have d1 : HS _ _ _ [_, _, _, _, _, _, [(E, .cells [(.slice z xi.length A), (iI 3), (iI xg), (iI xt), (iI xf)] none false)], _, [(Z, .cells [(iI dd.n)] none false)]] _ := d1
         refine wRo 1 2 [] 160 160 [] [(160, (.pointer (some ⟨E, 3, none⟩)))] trivial rfl fun _ => ?_
         refine aD (ax (q := 6) d1 rfl rfl rfl rfl rfl rfl rfl rfl rfl) rfl ?_
         rintro _ mS _ ⟨d2, _⟩
         have d2 : HS _ _ _ [_, _, _, _, _, _, [(E, .cells [(.slice z xi.length A), (iI 3), (iI xg), (iI 0), (iI xf)] none false)], _, _] _ := d2
         refine wRo 1 4 [] 161 161 [] [(161, (.pointer (some ⟨E, 2, none⟩)))] trivial rfl fun _ => ?_
         refine aD (ax (q := 6) d2 rfl rfl rfl rfl rfl rfl rfl rfl rfl) rfl ?_
         rintro _ mT _ ⟨ea, _⟩
         have ea : HS _ _ _ [_, _, _, _, _, _, [(E, .cells [(.slice z xi.length A), (iI 3), (iI 0), (iI 0), (iI xf)] none false)], _, _] _ := ea
         refine ai 0 rfl ?_
         exact hR _ _ ⟨3, 0, 0, _, fR, ea, ⟨rfl, rfl, rfl, rfl, rfl, rfl, rfl, rfl, rfl, rfl, rfl, rfl, rfl, rfl, rfl, rfl, rfl, rfl, trivial⟩, (by omega)⟩
        ·
         try simp only [BS] at g2
         exact hR _ _ ⟨xe, xg, xt, _, fR, hw, ⟨rfl, rfl, rfl, rfl, rfl, rfl, rfl, rfl, rfl, rfl, rfl, rfl, rfl, rfl, rfl, rfl, rfl, rfl, trivial⟩, (by omega)⟩
       ·
        rintro ni mQ ⟨ye, yg, yt, mD, c5, dv, hQ, hY⟩
        refine aF _ hQ (fun _ => ?_)
        clear hQ
        replace V := V.mono c5
        refine ao 1 rfl ?_
        refine ab ?_
        let hC : Value := (.agg ⟨[(.slice z xi.length A), (iI ye), (iI yg), (iI yt), (iI xf)]⟩)
        refine wRo 3 0 [(1, .o (.slice O bl.length T)), (2, .o hC)] 162 164 [] [(163, (.slice O bl.length T)), (164, hC)] (vA (ql 22 2 (HS.hc dv (i := 1) rfl) rfl rfl) (vA (qn 42 0 5 (HS.hc dv (i := 6) rfl) rfl rfl rfl rfl) trivial)) rfl fun _ => ?_
        obtain ⟨mE, hN, eb, lw, mx⟩ := OS.frz V dv (i := 7) rfl
        have eb : HS _ _ _ [_, _, _, _, _, _, [(E, .cells [(.slice z xi.length A), (iI ye), (iI yg), (iI yt), (iI xf)] none false)], [], [(Z, .cells [(iI dd.n)] none false)]] _ := eb
        replace U := (U.mono c5).mono hN
        refine aP (bZ (α := BlkT) (ps := [(0, hC)]) (cells := [(.slice z xi.length A), (iI ye), (iI yg), (iI yt), (iI xf)]) ([(⟨xi, ye, yg, yt, xf⟩ : BlkT)] : List BlkT) eb rfl rfl rfl (by kernel_rfl) ⟨[(.slice z xi.length A), (iI ye), (iI yg), (iI yt), (iI xf)], [], rfl, ⟨z, A, rfl, by (dsimp only; omega), by (dsimp only; omega), by (dsimp only; omega), by (dsimp only; omega), lw⟩, rfl⟩ rfl) rfl rfl ?_
        rintro _ mU lW ⟨ne, ns, rfl, lu, b6, _⟩
        have b6 : HS _ _ _ [_, _, _, _, _, _, _, _, _, lW] _ := b6
        refine aP (cT (α := BlkT) (q := 5) U b6 rfl rfl rfl (OS.sv lu b6 (i := 9) rfl) rfl rfl rfl rfl rfl rfl rfl (by (simp only [List.length_cons, List.length_nil]; omega))) rfl rfl ?_
        rintro _ mV k6 ⟨h1, k0, rfl, lv, ec, _⟩
        have ec : HS _ _ _ [_, _, _, _, _, k6, _, _, _, _] _ := ec
        refine wRo 1 5 [] 167 167 [] [(167, (.pointer (some ⟨b4, 2, none⟩)))] trivial rfl fun _ => ?_
        refine aD (ax (q := 1) ec rfl rfl rfl rfl rfl rfl rfl rfl rfl) rfl ?_
        rintro _ mW _ ⟨em, _⟩
        have em : HS _ _ _ [_, [(b4, .cells [(iI params), (iI (9 + (i : Int))), (.slice h1 (bl ++ ([(⟨xi, ye, yg, yt, xf⟩ : BlkT)] : List BlkT)).length k0)] none false)], _, _, _, _, _, _, _, _] _ := em
        refine ai 2 rfl ?_
        refine wR 1 [] 65 66 [11] [(11, (iI ((b : Int) + 1)))] (vA (vi (n := (b : Int) + 1) (by omega)) trivial) rfl fun _ => ?_
        refine lQ _ _ _ ?_ ⟨bl ++ ([(⟨xi, ye, yg, yt, xf⟩ : BlkT)] : List BlkT), b + 1, k6, h1, k0, _, (fT (fT (fT (fT (fT (c7) cd) c8) g4) c5) hN), (HS.sub em (List.sublist_append_left _ _)), lv, ⟨rfl, rfl, rfl, rfl, rfl, trivial⟩, rfl, (by simp; omega), (by exact ei e2 (blk_mk z2 (by omega))), (by exact ins_snoc e3 (by (dsimp only; omega))), (by exact ei e5 z4), (by exact first_snoc e6 (by omega)), (by omega)⟩
        omega
   ·
    try simp only [BS] at h8
    refine ab ?_
    let ld : Value := (.agg ⟨[(iI params), (iI (9 + (i : Int))), (.slice O bl.length T)]⟩)
    refine wRo 1 0 [(0, .o ld)] 168 168 [] [(168, ld)] (vA (qn 24 0 3 (HS.hc ht (i := 1) rfl) rfl rfl rfl rfl) trivial) rfl fun _ => ?_
    refine aD (ax (q := 0) ht rfl rfl rfl rfl rfl rfl rfl rfl rfl) rfl ?_
    rintro _ mX _ ⟨b7, _⟩
    have b7 : HS _ _ _ [[(b1, .cells [(iI params), (iI (9 + (i : Int))), (.slice O bl.length T)] none false)], [(b4, .cells [(iI params), (iI (9 + (i : Int))), (.slice O bl.length T)] none false)], _, _, _, ad] _ := b7
    refine ai 1 rfl ?_
    obtain ⟨mF, lm, es, lx, my⟩ := OS.frz U b7 (i := 5) rfl
    have es : HS _ _ _ [_, _, _, _, _, []] _ := es
    refine ah ⟨.inr rfl, _, (rC rfl (ldVN rfl rfl (HS.hc b7 (i := 0) rfl) rfl) rN), (⟨params, 9 + (i : Int), bl⟩ : VFnT), O, T, _, (fT (fT (fT (fT (hP) c6) g3) c7) lm), (HS.forget es), rfl, (by (dsimp only; omega)), (by (dsimp only; omega)), lx, (by exact ⟨val_mk (by omega) (by omega) e2, rfl, by (dsimp only; omega), ⟨by (dsimp only; omega), by (dsimp only; omega)⟩, ins_at e3, e5, fi, e6, by (dsimp only; omega), w5⟩)⟩
end Go.Proofs.YtlabedbmgmfbaaaDoor.m5
