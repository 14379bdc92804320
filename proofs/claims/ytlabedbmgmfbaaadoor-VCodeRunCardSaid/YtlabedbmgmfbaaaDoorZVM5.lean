/-
 The generator of virtual code, whole, by a symbolic run: what it makes is valid. No condition but that the table lies as laid.
-/
import Derived.Test.YtlabedbmgmfbaaaDoorZVM4
noncomputable section
namespace Go.Proofs.YtlabedbmgmfbaaaDoor.m5
open Go.R
set_option maxRecDepth 10000
set_option linter.unusedVariables false
open m1 m2 m3 m4
theorem vin_ldi {params regs r op : Int} (hr : 0 ≤ r ∧ r < regs) (ho : op = 13 ∨ op = 38 ∧ r < params) : eO params regs ⟨⟨op, r, 0, 0, r⟩, []⟩ = true := by
 rcases ho with rfl | ⟨rfl, hp⟩
 ·
  exact vin_mk (by decide) (.inr rfl) (by simp) rfl (hU (by decide) hr) (fG (by decide) rfl) (fG (by decide) rfl) rfl
 ·
  exact vin_mk (by decide) (.inr rfl) (by simp) rfl (hU (by decide) hr) (fG (by decide) rfl) (fG (by decide) rfl) (decide_eq_true ⟨hr.1, hp⟩)
theorem eh {α : Type} {p : α → Bool} {l : List α} {x : α} (h : l.all p = true) (hx : p x = true) : (l ++ [x]).all p = true := by rw [List.all_append, h]; simp [hx]
theorem blk_mk {params regs nb e g t f : Int} {l : List VInT} (h : l.all (eO params regs) = true) (z : e = 1 ∧ 0 ≤ t ∧ t < nb ∧ f = 0 ∧ g = 0 ∨ e = 2 ∧ 0 ≤ t ∧ t < nb ∧ 0 ≤ f ∧ f < nb ∧ 0 ≤ g ∧ g < regs ∨ e = 3 ∧ 0 ≤ g ∧ g < regs ∧ t = 0 ∧ f = 0 ∨ e = 4 ∧ 1 ≤ t ∧ t < 33554432 ∧ f = 0 ∧ g = 0) : blkV params regs nb ⟨l, e, g, t, f⟩ = true := gU h (bQ.2 z)
theorem ins_snoc {l : List BlkT} {x : BlkT} (h : ∀ y ∈ l, y.ins.length ≤ 11) (hx : x.ins.length ≤ 11) : ∀ y ∈ l ++ [x], y.ins.length ≤ 11 := fun y hy => by
 rcases List.mem_append.1 hy with hy | hy
 ·
  exact h y hy
 ·
  rw [List.mem_singleton] at hy; rw [hy]; exact hx
theorem ins_at {l : List BlkT} (h : ∀ y ∈ l, y.ins.length ≤ 11) (j : Nat) : (l.getD j default).ins.length ≤ 11 := by
 rw [List.getD_eq_getElem?_getD]
 rcases hj : l[j]? with _ | y
 ·
  exact Nat.zero_le _
 ·
  exact h y (List.mem_of_getElem? hj)
def fstOK (fi : List VInT) : Prop := ∀ q : Nat, q < fi.length → (fi.getD q default).i.a = q ∧ ((fi.getD q default).i.op = 13 ∨ (fi.getD q default).i.op = 38)
theorem fst_snoc {fi : List VInT} {x : VInT} (h : fstOK fi) (hx : x.i.a = (fi.length : Int) ∧ (x.i.op = 13 ∨ x.i.op = 38)) : fstOK (fi ++ [x]) := fun q hq => by
 rw [List.length_append] at hq
 simp only [List.length_cons, List.length_nil] at hq
 rcases Nat.lt_or_ge q fi.length with z | z
 ·
  rw [List.getD_eq_getElem?_getD, List.getElem?_append_left z, ← List.getD_eq_getElem?_getD]; exact h q z
 ·
  have : q = fi.length := by omega
  subst this
  rw [List.getD_eq_getElem?_getD, List.getElem?_append_right (Nat.le_refl _), Nat.sub_self]; exact hx
theorem first_snoc {l : List BlkT} {x y : BlkT} (h : l.getD 0 default = x) (hl : 0 < l.length) : (l ++ [y]).getD 0 default = x := by
 rw [List.getD_eq_getElem?_getD, List.getElem?_append_left hl, ← List.getD_eq_getElem?_getD]; exact h
theorem ck_ldi {v : VInT} (ho : v.i.op = 13 ∨ v.i.op = 38) : ckI v = true := decide_eq_true ⟨fun h => by omega, fun h => by omega⟩
structure vfG (x : VFnT) (params : Int) : Prop where
 val : d9 x = true
 par : x.params = params
 reg : x.regs = 9 + params
 nb : 2 ≤ x.blocks.length ∧ x.blocks.length ≤ 7
 ins : ∀ j, (x.blocks.getD j default).ins.length ≤ 11
 ck : x.blocks.all (fun y => y.ins.all ckI) = true
 fst : ∃ fi, x.blocks.getD 0 default = ⟨fi, 1, 0, 1, 0⟩ ∧ (fi.length : Int) = x.regs ∧ fstOK fi
theorem val_mk {p r : Int} {l : List BlkT} {n : Int} (h : 0 ≤ p ∧ p ≤ 6 ∧ 0 ≤ r ∧ r ≤ 3000 ∧ 1 ≤ l.length ∧ l.length ≤ 1000) (hn : (l.length : Int) = n) (z : l.all (blkV p r n) = true) : d9 ⟨p, r, l⟩ = true := by subst hn; exact (val_yes (c := ⟨p, r, l⟩) h z).symm
set_option maxHeartbeats 2000000 in
theorem vf_c (ex : FuncId) {a_l : Option Addr} {k_l : Nat} (l : List Int) (params : Int) {F : Fz} {H : Heap} {R : List Fp} (hs : HS (.of H []) F H [] R) (hl : SR F (.slice a_l l.length k_l) l) (hT : TB 37 tabC F) (hp : 0 ≤ params ∧ params ≤ 2) (hbl : l.length ≤ 1000) : C Tryd.prog 1 (KT 60 ex 37 tabC) 16 [(.slice a_l l.length k_l), (iI params)] H fun v H' => ∃ (x : VFnT) (h3 : Option Addr) (k7 : Nat) (F' : Fz), Fz.le F F' ∧ HS (.of H []) F' H' [] R ∧ v = .agg ⟨[.int .i64 x.params, .int .i64 x.regs, .slice h3 x.blocks.length k7]⟩ ∧ in64 x.params ∧ in64 x.regs ∧ SR F' (.slice h3 x.blocks.length k7) x.blocks ∧ (vfG x params) := by
 refine aL Tryd.func16 rfl rfl ?_
 refine aw 1 rfl ?_
 refine ae ?_
 refine bd (bK hs rfl) rfl rfl ?_
 rintro _ H2 _ ⟨b1, rfl, kn, _⟩
 let b5 : Fp := [(b1, .cells [(iI 0), (iI 0), (.slice none 0 0)] none false)]
 have kn : HS _ _ _ [b5] _ := kn
 refine ao 2 rfl ?_
 refine ae ?_
 refine wRo 2 0 [] 16 17 [] [(17, (.agg ⟨[(iI params), (iI 9), (.slice none 0 0)]⟩))] trivial rfl fun _ => ?_
 refine bd (bK kn rfl) rfl rfl ?_
 rintro _ H5 _ ⟨b4, rfl, kp, _⟩
 have kp : HS _ _ _ [_, [(b4, .cells [(iI 0), (iI 0), (.slice none 0 0)] none false)]] _ := kp
 refine aP (aA (q := 1) kp rfl rfl rfl rfl rfl rfl rfl rfl rfl) rfl ?_
 rintro _ H6 _ ⟨kr, _⟩
 have kr : HS _ _ _ [_, [(b4, .cells [(iI params), (iI 9), (.slice none 0 0)] none false)]] _ := kr
 refine ao 2 rfl ?_
 refine wR 3 [] 18 22 [6] [(6, (iI (1 + (if (5 : Int) < ((l.length / 6 : Nat) : Int) then (5 : Int) else ((l.length / 6 : Nat) : Int)))))] (vA (vA (show (6 : Int) ≠ 0 from by decide) (vi (n := ((l.length / 6 : Nat) : Int)) (by omega))) (vA (vi (n := 1 + (if (5 : Int) < ((l.length / 6 : Nat) : Int) then (5 : Int) else ((l.length / 6 : Nat) : Int))) (by omega)) trivial)) rfl fun _ => ?_
 have hM : 1 ≤ (1 + (if (5 : Int) < ((l.length / 6 : Nat) : Int) then (5 : Int) else ((l.length / 6 : Nat) : Int))) ∧ (1 + (if (5 : Int) < ((l.length / 6 : Nat) : Int) then (5 : Int) else ((l.length / 6 : Nat) : Int))) ≤ 6 := by omega
 refine wR 2 [] 1 0 [7] [(7, (iI 0))] trivial rfl fun _ => ?_
 refine aG (fun (mm : Nat) f H' => ∃ (i : Nat) (F' : Fz), Fz.le F F' ∧ HS (Base.of H []) F' H' [b5, [(b4, .cells [(iI params), (iI (9 + (i : Int))), (.slice none 0 0)] none false)]] R ∧ aZ f [(0, (.slice a_l l.length k_l)), (1, (iI params)), (4, (.pointer (some ⟨b1, 0, none⟩))), (5, (.pointer (some ⟨b4, 0, none⟩))), (6, (iI (1 + (if (5 : Int) < ((l.length / 6 : Nat) : Int) then (5 : Int) else ((l.length / 6 : Nat) : Int))))), (7, (iI (i : Int)))] ∧ mm = (params - (i : Int)).toNat ∧ ((i : Int) ≤ params)) _ ⟨0, _, fR, kr, (agC rfl (agC rfl (agC rfl (agC rfl (agC rfl (agC rfl agN)))))), rfl, (by omega)⟩ ?_
 rintro ox f9 H9 ⟨i, F9, hN, kt, lI, rfl, q1⟩ mv
 refine aN _ lI (fun _ => ?_)
 clear lI
 replace hT := hT.mono hN
 replace hl := hl.mono hN
 refine aw 2 rfl ?_
 refine wR 1 [] 23 25 [] [(25, (.bool (decide ((i : Int) < params))))] trivial rfl fun _ => ?_
 refine am 3 5 (v := (decide ((i : Int) < params))) rfl rfl rfl rfl (fun h4 => ?_) (fun h4 => ?_)
 ·
  try simp only [BS] at h4
  refine ae ?_
  refine wRo 4 0 [(1, .o (iI (9 + (i : Int))))] 28 31 [] [(30, (iI ((9 + (i : Int)) + 1))), (31, (.pointer (some ⟨b4, 1, none⟩)))] (vA (ql 3 1 (HS.hc kt (i := 1) rfl) rfl rfl) (vA (vi (n := (9 + (i : Int)) + 1) (by omega)) trivial)) rfl fun _ => ?_
  refine aP (aA (q := 1) kt rfl rfl rfl rfl rfl rfl rfl rfl rfl) rfl ?_
  rintro _ nI _ ⟨g5, _⟩
  have g5 : HS _ _ _ [_, [(b4, .cells [(iI params), (iI ((9 + (i : Int)) + 1)), (.slice none 0 0)] none false)]] _ := g5
  refine ao 2 rfl ?_
  refine wR 1 [] 26 27 [7] [(7, (iI ((i : Int) + 1)))] (vA (vi (n := (i : Int) + 1) (by omega)) trivial) rfl fun _ => ?_
  refine mv _ _ _ ?_ ⟨i + 1, _, (hN), g5, (agC rfl (agC rfl (agC rfl (agC rfl (agC rfl (agC rfl agN)))))), rfl, (by omega)⟩
  omega
 ·
  try simp only [BS] at h4
  refine ae ?_
  refine bd (bK kt rfl) rfl rfl ?_
  rintro _ nJ _ ⟨a3, rfl, g6, _⟩
  let lp : Fp := [(b4, .cells [(iI params), (iI (9 + (i : Int))), (.slice none 0 0)] none false)]
  have g6 : HS _ _ _ [_, lp, [(a3, .cells [(.slice none 0 0), (iI 0), (iI 0), (iI 0), (iI 0)] none false)]] _ := g6
  refine ao 3 rfl ?_
  refine wR 2 [] 1 0 [9] [(9, (iI 0))] trivial rfl fun _ => ?_
  have g9 := HS.snoc g6
  have g9 : HS _ _ _ [_, _, _, []] _ := g9
  refine aG (fun (mm : Nat) f H' => ∃ (fi : List VInT) (r : Nat) (aq : Fp) (I : Option Addr) (J : Nat) (F' : Fz), Fz.le F9 F' ∧ HS (Base.of H []) F' H' [b5, lp, [(a3, .cells [(.slice I fi.length J), (iI 0), (iI 0), (iI 0), (iI 0)] none false)], aq] R ∧ OS F' (.slice I fi.length J) fi aq ∧ aZ f [(0, (.slice a_l l.length k_l)), (1, (iI params)), (4, (.pointer (some ⟨b1, 0, none⟩))), (5, (.pointer (some ⟨b4, 0, none⟩))), (6, (iI (1 + (if (5 : Int) < ((l.length / 6 : Nat) : Int) then (5 : Int) else ((l.length / 6 : Nat) : Int))))), (8, (.pointer (some ⟨a3, 0, none⟩))), (9, (iI (r : Int)))] ∧ mm = (9 + (i : Int) - (r : Int)).toNat ∧ (fi.length = r) ∧ (fi.all (eO params (9 + (i : Int))) = true) ∧ (fi.all ckI = true) ∧ (fstOK fi) ∧ ((r : Int) ≤ 9 + (i : Int))) _ ⟨([] : List VInT), 0, [], none, 0, _, fR, g9, (OS.nil : OS F9 (.slice none 0 0) ([] : List VInT) []), (agC rfl (agC rfl (agC rfl (agC rfl (agC rfl (agC rfl (agC rfl agN))))))), rfl, (by rfl), (by rfl), (by rfl), (by intro q hq; cases hq), (by omega)⟩ ?_
  rintro nz od nK ⟨fi, r, aq, I, J, md, c5, g7, a0, jb, rfl, w1, w2, w4, w5, w3⟩ lW
  refine aN _ jb (fun _ => ?_)
  clear jb
  replace hT := hT.mono c5
  replace hl := hl.mono c5
  refine aw 2 rfl ?_
  refine wR 1 [(2, .o (iI (9 + (i : Int))))] 32 35 [] [(35, (.bool (decide ((r : Int) < 9 + (i : Int)))))] (vA (ql 3 1 (HS.hc g7 (i := 1) rfl) rfl rfl) trivial) rfl fun _ => ?_
  refine am 4 5 (v := (decide ((r : Int) < 9 + (i : Int)))) rfl rfl rfl rfl (fun h5 => ?_) (fun h5 => ?_)
  ·
   try simp only [BS] at h5
   refine ae ?_
   let lL : Value := (.agg ⟨[(iI 13), (iI (r : Int)), (iI 0), (iI 0), (iI (r : Int))]⟩)
   refine wRo 3 0 [] 38 40 [] [(40, lL)] trivial rfl fun _ => ?_
   refine bd (bK g7 rfl) rfl rfl ?_
   rintro _ nL _ ⟨c3, rfl, ha, _⟩
   let lM : Fp := [(a3, .cells [(.slice I fi.length J), (iI 0), (iI 0), (iI 0), (iI 0)] none false)]
   have ha : HS _ _ _ [_, _, lM, aq, [(c3, .cells [(iI 0), (iI 0), (iI 0), (iI 0), (iI 0)] none false)]] _ := ha
   refine aP (aA (q := 4) ha rfl rfl rfl rfl rfl rfl rfl rfl rfl) rfl ?_
   rintro _ nM _ ⟨es, _⟩
   have es : HS _ _ _ [_, _, _, _, [(c3, .cells [(iI 13), (iI (r : Int)), (iI 0), (iI 0), (iI (r : Int))] none false)]] _ := es
   refine ao 3 rfl ?_
   refine wR 1 [] 41 43 [] [(43, (.bool (decide ((r : Int) < params))))] trivial rfl fun _ => ?_
   refine d3 (fun f H' => ∃ (vo : Int) (F' : Fz), Fz.le md F' ∧ HS (Base.of H []) F' H' [b5, lp, lM, aq, [(c3, .cells [(iI vo), (iI (r : Int)), (iI 0), (iI 0), (iI (r : Int))] none false)]] R ∧ aZ f [(0, (.slice a_l l.length k_l)), (1, (iI params)), (4, (.pointer (some ⟨b1, 0, none⟩))), (5, (.pointer (some ⟨b4, 0, none⟩))), (6, (iI (1 + (if (5 : Int) < ((l.length / 6 : Nat) : Int) then (5 : Int) else ((l.length / 6 : Nat) : Int))))), (8, (.pointer (some ⟨a3, 0, none⟩))), (9, (iI (r : Int))), (10, (.pointer (some ⟨c3, 0, none⟩))), (35, (.bool (decide ((r : Int) < 9 + (i : Int))))), (40, lL), (43, (.bool (decide ((r : Int) < params))))] ∧ (vo = 13 ∨ vo = 38 ∧ (r : Int) < params)) (fun k0 => ?_) ?_
   ·
    refine am 0 0 (v := (decide ((r : Int) < params))) rfl rfl rfl rfl (fun h6 => ?_) (fun h6 => ?_)
    ·
     try simp only [BS] at h6
     refine ae ?_
     refine wRo 3 0 [] 44 46 [] [(46, (.agg ⟨[(iI 38), (iI (r : Int)), (iI 0), (iI 0), (iI (r : Int))]⟩))] trivial rfl fun _ => ?_
     refine aP (aA (q := 4) es rfl rfl rfl rfl rfl rfl rfl rfl rfl) rfl ?_
     rintro _ nO _ ⟨hf, _⟩
     have hf : HS _ _ _ [_, _, _, _, [(c3, .cells [(iI 38), (iI (r : Int)), (iI 0), (iI 0), (iI (r : Int))] none false)]] _ := hf
     refine ao 0 rfl ?_
     exact k0 _ _ ⟨38, _, fR, hf, (agC rfl (agC rfl (agC rfl (agC rfl (agC rfl (agC rfl (agC rfl (agC rfl (agC rfl (agC rfl (agC rfl agN))))))))))), (by omega)⟩
    ·
     try simp only [BS] at h6
     exact k0 _ _ ⟨13, _, fR, es, (agC rfl (agC rfl (agC rfl (agC rfl (agC rfl (agC rfl (agC rfl (agC rfl (agC rfl (agC rfl (agC rfl agN))))))))))), (by omega)⟩
   ·
    rintro oe nN ⟨vo, nD, i2, he, jq, hvo⟩
    refine aN _ jq (fun _ => ?_)
    clear jq
    replace a0 := a0.mono i2
    refine aw 1 rfl ?_
    refine ae ?_
    let lm : Value := (.agg ⟨[(iI vo), (iI (r : Int)), (iI 0), (iI 0), (iI (r : Int)), (.slice none 0 0)]⟩)
    refine wRo 4 0 [(1, .o (.slice I fi.length J)), (2, .o (.agg ⟨[(iI vo), (iI (r : Int)), (iI 0), (iI 0), (iI (r : Int))]⟩))] 47 50 [] [(48, (.slice I fi.length J)), (50, lm)] (vA (ql 40 0 (HS.hc he (i := 2) rfl) rfl rfl) (vA (qn 45 0 5 (HS.hc he (i := 4) rfl) rfl rfl rfl rfl) trivial)) rfl fun _ => ?_
    refine bd (cN (α := VInT) (ps := [(0, lm)]) (cells := [(iI vo), (iI (r : Int)), (iI 0), (iI 0), (iI (r : Int)), (.slice none 0 0)]) ([(⟨(⟨vo, (r : Int), 0, 0, (r : Int)⟩ : InsT), ([] : List Int)⟩ : VInT)] : List VInT) he rfl rfl rfl (by kernel_rfl) ⟨[(iI vo), (iI (r : Int)), (iI 0), (iI 0), (iI (r : Int)), (.slice none 0 0)], [], rfl, ⟨none, 0, rfl, by first | omega | (dsimp only; omega), by first | omega | (dsimp only; omega), by first | omega | (dsimp only; omega), by first | omega | (dsimp only; omega), by first | omega | (dsimp only; omega), SR.nil⟩, rfl⟩ rfl) rfl rfl ?_
    rintro _ nP mw ⟨n9, ou, rfl, lQ, et, _⟩
    have et : HS _ _ _ [_, _, _, _, [(c3, .cells [(iI vo), (iI (r : Int)), (iI 0), (iI 0), (iI (r : Int))] none false)], mw] _ := et
    refine bd (ev (α := VInT) (q := 3) a0 et rfl rfl rfl (OS.sv lQ et (i := 5) rfl) rfl rfl rfl rfl rfl rfl rfl (by first | omega | (simp only [List.length_cons, List.length_nil]; omega))) rfl rfl ?_
    rintro _ nQ lK ⟨lH, lJ, rfl, lR, hg, _⟩
    have hg : HS _ _ _ [_, _, _, lK, _, _] _ := hg
    refine wRo 1 6 [] 53 53 [] [(53, (.pointer (some ⟨a3, 0, none⟩)))] trivial rfl fun _ => ?_
    refine aP (aA (q := 2) hg rfl rfl rfl rfl rfl rfl rfl rfl rfl) rfl ?_
    rintro _ nR _ ⟨hh, _⟩
    have hh : HS _ _ _ [_, _, [(a3, .cells [(.slice lH (fi ++ ([(⟨(⟨vo, (r : Int), 0, 0, (r : Int)⟩ : InsT), ([] : List Int)⟩ : VInT)] : List VInT)).length lJ), (iI 0), (iI 0), (iI 0), (iI 0)] none false)], _, _, _] _ := hh
    refine ao 2 rfl ?_
    refine wR 1 [] 36 37 [9] [(9, (iI ((r : Int) + 1)))] (vA (vi (n := (r : Int) + 1) (by omega)) trivial) rfl fun _ => ?_
    refine lW _ _ _ ?_ ⟨fi ++ ([(⟨(⟨vo, (r : Int), 0, 0, (r : Int)⟩ : InsT), ([] : List Int)⟩ : VInT)] : List VInT), r + 1, lK, lH, lJ, _, (fT (c5) i2), (HS.sub hh (List.sublist_append_left _ _)), lR, (agC rfl (agC rfl (agC rfl (agC rfl (agC rfl (agC rfl (agC rfl agN))))))), rfl, (by simp; omega), (by exact eh w2 (vin_ldi (by omega) (by omega))), (by exact eh w4 (ck_ldi (by first | omega | (dsimp only; omega)))), (by exact fst_snoc w5 ⟨by rw [w1], by first | omega | (dsimp only; omega)⟩), (by first | omega | (dsimp only; omega))⟩
    omega
  ·
   try simp only [BS] at h5
   refine ae ?_
   refine wRo 1 0 [] 54 54 [] [(54, (.pointer (some ⟨a3, 1, none⟩)))] trivial rfl fun _ => ?_
   refine aP (aA (q := 2) g7 rfl rfl rfl rfl rfl rfl rfl rfl rfl) rfl ?_
   rintro _ nS _ ⟨hj, _⟩
   have hj : HS _ _ _ [_, _, [(a3, .cells [(.slice I fi.length J), (iI 1), (iI 0), (iI 0), (iI 0)] none false)], aq] _ := hj
   refine wRo 1 2 [] 55 55 [] [(55, (.pointer (some ⟨a3, 3, none⟩)))] trivial rfl fun _ => ?_
   refine aP (aA (q := 2) hj rfl rfl rfl rfl rfl rfl rfl rfl rfl) rfl ?_
   rintro _ nT _ ⟨ch, _⟩
   let cv : Fp := [(a3, .cells [(.slice I fi.length J), (iI 1), (iI 0), (iI 1), (iI 0)] none false)]
   have ch : HS _ _ _ [_, _, cv, _] _ := ch
   refine ao 2 rfl ?_
   refine ae ?_
   let hA : Value := (.agg ⟨[(.slice I fi.length J), (iI 1), (iI 0), (iI 1), (iI 0)]⟩)
   refine wRo 3 0 [(1, .o (.slice none 0 0)), (2, .o hA)] 56 58 [] [(57, (.slice none 0 0)), (58, hA)] (vA (ql 22 2 (HS.hc ch (i := 1) rfl) rfl rfl) (vA (qn 42 0 5 (HS.hc ch (i := 2) rfl) rfl rfl rfl rfl) trivial)) rfl fun _ => ?_
   obtain ⟨hW, g2, hk, lU, nx⟩ := OS.frz a0 ch (i := 3) rfl
   have hk : HS _ _ _ [_, _, _, []] _ := hk
   refine bd (cN (α := BlkT) (ps := [(0, hA)]) (cells := [(.slice I fi.length J), (iI 1), (iI 0), (iI 1), (iI 0)]) ([(⟨fi, 1, 0, 1, 0⟩ : BlkT)] : List BlkT) hk rfl rfl rfl (by kernel_rfl) ⟨[(.slice I fi.length J), (iI 1), (iI 0), (iI 1), (iI 0)], [], rfl, ⟨I, J, rfl, by first | omega | (dsimp only; omega), by first | omega | (dsimp only; omega), by first | omega | (dsimp only; omega), by first | omega | (dsimp only; omega), lU⟩, rfl⟩ rfl) rfl rfl ?_
   rintro _ nU f6 ⟨ob, ov, rfl, lS, hm, _⟩
   have hm : HS _ _ _ [_, _, _, _, f6] _ := hm
   have ez := HS.snoc hm
   have ez : HS _ _ _ [_, _, _, _, _, []] _ := ez
   refine bd (ev (α := BlkT) (q := 5) (OS.nil : OS hW (.slice none 0 0) ([] : List BlkT) []) ez rfl rfl rfl (OS.sv lS ez (i := 4) rfl) rfl rfl rfl rfl rfl rfl rfl (by first | omega | (simp only [List.length_cons, List.length_nil]; omega))) rfl rfl ?_
   rintro _ nV k9 ⟨h1, k5, rfl, g4, hn, _⟩
   have hn : HS _ _ _ [_, _, _, _, _, k9] _ := hn
   have g4 : OS hW (.slice h1 ([(⟨fi, 1, 0, 1, 0⟩ : BlkT)] : List BlkT).length k5) ([(⟨fi, 1, 0, 1, 0⟩ : BlkT)] : List BlkT) k9 := g4
   refine wRo 1 5 [] 61 61 [] [(61, (.pointer (some ⟨b4, 2, none⟩)))] trivial rfl fun _ => ?_
   refine aP (aA (q := 1) hn rfl rfl rfl rfl rfl rfl rfl rfl rfl) rfl ?_
   rintro _ nW _ ⟨ho, _⟩
   have ho : HS _ _ _ [_, [(b4, .cells [(iI params), (iI (9 + (i : Int))), (.slice h1 ([(⟨fi, 1, 0, 1, 0⟩ : BlkT)] : List BlkT).length k5)] none false)], _, _, _, _] _ := ho
   refine ao 3 rfl ?_
   refine wR 2 [] 1 0 [11] [(11, (iI 0))] trivial rfl fun _ => ?_
   refine aG (fun (mm : Nat) f H' => ∃ (bl : List BlkT) (b : Nat) (ad : Fp) (O : Option Addr) (T : Nat) (F' : Fz), Fz.le hW F' ∧ HS (Base.of H []) F' H' [b5, [(b4, .cells [(iI params), (iI (9 + (i : Int))), (.slice O bl.length T)] none false)], cv, [], f6, ad] R ∧ OS F' (.slice O bl.length T) bl ad ∧ aZ f [(0, (.slice a_l l.length k_l)), (4, (.pointer (some ⟨b1, 0, none⟩))), (5, (.pointer (some ⟨b4, 0, none⟩))), (6, (iI (1 + (if (5 : Int) < ((l.length / 6 : Nat) : Int) then (5 : Int) else ((l.length / 6 : Nat) : Int))))), (11, (iI (b : Int)))] ∧ mm = ((1 + (if (5 : Int) < ((l.length / 6 : Nat) : Int) then (5 : Int) else ((l.length / 6 : Nat) : Int))) - (b : Int)).toNat ∧ (bl.length = b + 1) ∧ (bl.all (blkV params (9 + (i : Int)) ((1 + (if (5 : Int) < ((l.length / 6 : Nat) : Int) then (5 : Int) else ((l.length / 6 : Nat) : Int))) + 1)) = true) ∧ (∀ y ∈ bl, y.ins.length ≤ 11) ∧ (bl.all (fun y => y.ins.all ckI) = true) ∧ (bl.getD 0 default = ⟨fi, 1, 0, 1, 0⟩) ∧ ((b : Int) ≤ (1 + (if (5 : Int) < ((l.length / 6 : Nat) : Int) then (5 : Int) else ((l.length / 6 : Nat) : Int))))) _ ⟨([(⟨fi, 1, 0, 1, 0⟩ : BlkT)] : List BlkT), 0, k9, h1, k5, _, fR, ho, g4, (agC rfl (agC rfl (agC rfl (agC rfl (agC rfl agN))))), rfl, (by rfl), (by exact eh (l := []) rfl (blk_mk w2 (by omega))), (by exact ins_snoc (l := []) (by simp) (by first | omega | (dsimp only; omega))), (by exact eh (l := []) rfl w4), (by rfl), (by first | omega | (dsimp only; omega))⟩ ?_
   rintro nA og nX ⟨bl, b, ad, O, T, lF, c6, hr, U, j2, rfl, e1, e2, e3, e5, e6, e4⟩ lX
   refine aN _ j2 (fun _ => ?_)
   clear j2
   replace hT := (hT.mono g2).mono c6
   replace hl := (hl.mono g2).mono c6
   refine aw 2 rfl ?_
   refine wR 1 [] 62 64 [] [(64, (.bool (decide ((b : Int) < 1 + (if (5 : Int) < ((l.length / 6 : Nat) : Int) then (5 : Int) else ((l.length / 6 : Nat) : Int))))))] trivial rfl fun _ => ?_
   refine am 4 5 (v := (decide ((b : Int) < 1 + (if (5 : Int) < ((l.length / 6 : Nat) : Int) then (5 : Int) else ((l.length / 6 : Nat) : Int))))) rfl rfl rfl rfl (fun h7 => ?_) (fun h7 => ?_)
   ·
    try simp only [BS] at h7
    refine ae ?_
    refine bd (bK hr rfl) rfl rfl ?_
    rintro _ nY _ ⟨E, rfl, ht, _⟩
    let f2 : Fp := [(b4, .cells [(iI params), (iI (9 + (i : Int))), (.slice O bl.length T)] none false)]
    have ht : HS _ _ _ [_, f2, _, _, _, ad, [(E, .cells [(.slice none 0 0), (iI 0), (iI 0), (iI 0), (iI 0)] none false)]] _ := ht
    refine ao 3 rfl ?_
    refine wR 2 [] 1 0 [13] [(13, (iI 0))] trivial rfl fun _ => ?_
    have hu := HS.snoc ht
    have hu : HS _ _ _ [_, _, _, _, _, _, _, []] _ := hu
    refine aG (fun (mm : Nat) f H' => ∃ (xi : List VInT) (k : Nat) (ag : Fp) (z : Option Addr) (A : Nat) (F' : Fz), Fz.le lF F' ∧ HS (Base.of H []) F' H' [b5, f2, cv, [], f6, ad, [(E, .cells [(.slice z xi.length A), (iI 0), (iI 0), (iI 0), (iI 0)] none false)], ag] R ∧ OS F' (.slice z xi.length A) xi ag ∧ aZ f [(0, (.slice a_l l.length k_l)), (4, (.pointer (some ⟨b1, 0, none⟩))), (5, (.pointer (some ⟨b4, 0, none⟩))), (6, (iI (1 + (if (5 : Int) < ((l.length / 6 : Nat) : Int) then (5 : Int) else ((l.length / 6 : Nat) : Int))))), (11, (iI (b : Int))), (12, (.pointer (some ⟨E, 0, none⟩))), (13, (iI (k : Int))), (64, (.bool (decide ((b : Int) < 1 + (if (5 : Int) < ((l.length / 6 : Nat) : Int) then (5 : Int) else ((l.length / 6 : Nat) : Int))))))] ∧ mm = 5 - k ∧ (xi.length = k) ∧ (xi.all (eO params (9 + (i : Int))) = true) ∧ (xi.all ckI = true) ∧ (k ≤ 5)) _ ⟨([] : List VInT), 0, [], none, 0, _, fR, hu, (OS.nil : OS lF (.slice none 0 0) ([] : List VInT) []), (agC rfl (agC rfl (agC rfl (agC rfl (agC rfl (agC rfl (agC rfl (agC rfl agN)))))))), rfl, (by rfl), (by rfl), (by rfl), (by omega)⟩ ?_
    rintro nB oh lG ⟨xi, k, ag, z, A, nE, cd, a1, V, kd, rfl, z1, z2, z4, z3⟩ lY
    refine aN _ kd (fun _ => ?_)
    clear kd
    replace hT := hT.mono cd
    replace hl := hl.mono cd
    replace U := U.mono cd
    refine aw 2 rfl ?_
    refine wR 1 [] 67 77 [] [(77, (.bool ((decide ((k : Int) < 5)) && (decide ((6 * (b : Int)) + (k : Int) < (l.length : Int))))))] (vA (fun (g1 : (decide ((k : Int) < 5)) = true) => (vi (n := 6 * (b : Int)) (by (try simp only [BS] at g1); (first | omega | (dsimp only; omega))))) (vA (fun (g1 : (decide ((k : Int) < 5)) = true) => (vi (n := (6 * (b : Int)) + (k : Int)) (by (try simp only [BS] at g1); (first | omega | (dsimp only; omega))))) trivial)) rfl fun _ => ?_
    refine am 3 5 (v := ((decide ((k : Int) < 5)) && (decide ((6 * (b : Int)) + (k : Int) < (l.length : Int))))) rfl rfl rfl rfl (fun h8 => ?_) (fun h8 => ?_)
    ·
     try simp only [BS] at h8
     refine aI rfl ?_
     refine ab (v := (.pointer (some ⟨E, 0, none⟩))) (id := .v) (aU rfl rfl) rfl rfl (az rfl) (ay _) ?_
     refine ab (v := (.slice z xi.length A)) (id := .l E) (aD (i := 0) rfl rfl (HS.hc a1.log0 (i := 6) rfl) rfl rfl) rfl rfl (aO rfl) (⟨.inl rfl, trivial⟩) ?_
     refine fm (.slice a_l l.length k_l) rfl rfl rfl ?_
     refine fm (iI (b : Int)) rfl rfl rfl ?_
     refine ab (v := (iI (6 * (b : Int)))) (id := .v) (ap_mul rfl rfl (kw (n := 6 * (b : Int)) (by omega))) rfl rfl (az rfl) (ay _) ?_
     refine fm (iI (k : Int)) rfl rfl rfl ?_
     refine ab (v := (iI ((6 * (b : Int)) + (k : Int)))) (id := .v) (ap_add rfl rfl (kw (n := (6 * (b : Int)) + (k : Int)) (by omega))) rfl rfl (az rfl) (ay _) ?_
     refine ab (v := (.pointer (some ⟨sB (.slice a_l l.length k_l), sO (.slice a_l l.length k_l) + ((6 * b) + k) * Rp.sz Int, none⟩))) (id := .v) (bh (α := Int) (j := (6 * (b : Int)) + (k : Int)) rfl rfl rfl rfl (SR.sv hl a1.log0) (by omega) (by omega)) rfl rfl (az rfl) (ay _) ?_
     obtain ⟨nq, lV, lP⟩ := Sv.at (SR.sv hl a1.log0) (aW (x := (0 : Int)) (show (6 * b) + k < l.length from by first | omega | (dsimp only; omega)))
     obtain ⟨rfl, mD⟩ := lV
     refine ab (v := (iI (l.getD ((6 * b) + k) 0))) (id := .l (sB (.slice a_l l.length k_l))) (aD (i := 0) rfl rfl lP rfl rfl) rfl rfl (aO rfl) (⟨.inl rfl, ⟨.inl rfl, ⟨.inl rfl, ⟨.inl rfl, ⟨.inl rfl, ⟨.inl rfl, ⟨.inr trivial, ⟨.inr trivial, trivial⟩⟩⟩⟩⟩⟩⟩⟩) ?_
     refine ab (v := (.agg ⟨[(iI params), (iI (9 + (i : Int))), (.slice O bl.length T)]⟩)) (id := .l b4) (gE (i := 0) rfl rfl rfl (HS.hc a1.log0 (i := 1) rfl) rfl rfl rfl) rfl rfl (aO rfl) (⟨.inr trivial, ⟨.inr trivial, ⟨.inr trivial, ⟨.inr trivial, ⟨.inr trivial, ⟨.inr trivial, ⟨.inr trivial, ⟨.inr trivial, ⟨.inr trivial, trivial⟩⟩⟩⟩⟩⟩⟩⟩⟩) ?_
     refine bm (W := []) (ax rfl rfl rfl) rfl rfl rfl (m4.vi_c ex (l.getD ((6 * b) + k) 0) (⟨params, 9 + (i : Int), bl⟩ : VFnT) (HS.call a1.log0) (by first | omega | (dsimp only; omega)) (by first | omega | (dsimp only; omega)) (by first | omega | (dsimp only; omega)) hT (by first | omega | (dsimp only; omega))) (⟨.inl rfl, ⟨.inl rfl, ⟨.inl rfl, ⟨.inl rfl, ⟨.inl rfl, ⟨.inl rfl, ⟨.inl rfl, ⟨.inl rfl, ⟨.inr List.not_mem_nil, ⟨.inr trivial, trivial⟩⟩⟩⟩⟩⟩⟩⟩⟩⟩) ?_
     rintro _ mh ⟨ap, a9, b2, nF, i3, a2, rfl, l8, l9, ma, mb, mc, hV, om, nw⟩
     refine ⟨Wr.did a2.log, fun lZ lx => ?_⟩
     replace a2 := HS.back a1.log0 rfl a2
     replace a2 := HS.lg a2 a1 lx
     generalize ({ mh with log := lZ } : Heap) = nh at a2 ⊢
     have a2 : HS _ _ _ [_, _, _, _, _, _, [(E, .cells [(.slice z xi.length A), (iI 0), (iI 0), (iI 0), (iI 0)] none false)], ag] _ := a2
     replace V := V.mono i3
     refine dC (id := .a) (cN (α := VInT) (ps := [(0, (.agg ⟨[(iI ap.i.op), (iI ap.i.a), (iI ap.i.b), (iI ap.i.c), (iI ap.i.n), (.slice a9 ap.args.length b2)]⟩))]) (cells := [(iI ap.i.op), (iI ap.i.a), (iI ap.i.b), (iI ap.i.c), (iI ap.i.n), (.slice a9 ap.args.length b2)]) ([ap] : List VInT) a2.log0 rfl rfl rfl (by kernel_rfl) ⟨[(iI ap.i.op), (iI ap.i.a), (iI ap.i.b), (iI ap.i.c), (iI ap.i.n), (.slice a9 ap.args.length b2)], [], rfl, ⟨a9, b2, rfl, by omega, by omega, by omega, by omega, by omega, hV⟩, rfl⟩ rfl) rfl rfl (fun _ _ _ _ => gR rfl rfl rfl) (⟨.inl rfl, ⟨.inl rfl, ⟨.inl rfl, ⟨.inl rfl, ⟨.inl rfl, ⟨.inl rfl, ⟨.inl rfl, ⟨.inl rfl, ⟨.inl rfl, ⟨.inr trivial, ⟨.inr trivial, trivial⟩⟩⟩⟩⟩⟩⟩⟩⟩⟩⟩) ?_
     rintro _ mi mx ⟨oc, ow, rfl, lT, a4, _⟩ l0 ly
     replace a4 := HS.lg a4 a2 ly
     generalize ({ mi with log := l0 } : Heap) = ni at a4 ⊢
     have a4 : HS _ _ _ [_, _, _, _, _, _, _, _, mx] _ := a4
     refine dC (id := .x (ag.map Prod.fst)) (ev (α := VInT) (q := 7) V a4.log0 rfl rfl rfl (OS.sv lT a4.log0 (i := 8) rfl) rfl rfl rfl rfl rfl rfl rfl (by first | omega | (simp only [List.length_cons, List.length_nil]; omega))) rfl rfl (by rintro _ _ la ⟨h2, k6, rfl, kl, _, hwr⟩; exact cE rfl rfl (Wr.did hwr)) (⟨.inl rfl, ⟨.inl rfl, ⟨.inl rfl, ⟨.inl rfl, ⟨.inl rfl, ⟨.inl rfl, ⟨.inl rfl, ⟨.inl rfl, ⟨.inl rfl, ⟨.inl rfl, ⟨.inl rfl, ⟨.inl rfl, trivial⟩⟩⟩⟩⟩⟩⟩⟩⟩⟩⟩⟩) ?_
     rintro _ mj la ⟨h2, k6, rfl, kl, a8, _⟩ l1 lz
     replace a8 := HS.lg a8 a4 lz
     generalize ({ mj with log := l1 } : Heap) = nj at a8 ⊢
     have a8 : HS _ _ _ [_, _, _, _, _, _, _, la, _] _ := a8
     refine ab (v := (.pointer (some ⟨E, 0, none⟩))) (id := .v) (aU rfl rfl) rfl rfl (az rfl) (ay _) ?_
     refine ed (id := .x [E]) (aA (q := 6) a8.log0 rfl rfl rfl rfl rfl rfl rfl rfl rfl) rfl (by rintro _ _ _ ⟨_, hwr⟩; exact cE rfl rfl (Wr.did hwr)) (⟨.inl rfl, ⟨.inl rfl, ⟨.inl rfl, ⟨.inl rfl, ⟨.inl rfl, ⟨.inl rfl, ⟨.inl rfl, ⟨.inl rfl, ⟨.inl rfl, ⟨.inl rfl, ⟨.inl rfl, ⟨.inl rfl, ⟨.inl rfl, ⟨.inl rfl, trivial⟩⟩⟩⟩⟩⟩⟩⟩⟩⟩⟩⟩⟩⟩) ?_
     rintro _ ml _ ⟨b3, _⟩ l2 lA
     replace b3 := HS.lg b3 a8 lA
     generalize ({ ml with log := l2 } : Heap) = nk at b3 ⊢
     have b3 : HS _ _ _ [_, _, _, _, _, _, [(E, .cells [(.slice h2 (xi ++ ([ap] : List VInT)).length k6), (iI 0), (iI 0), (iI 0), (iI 0)] none false)], _, _] _ := b3
     refine bz ?_
     refine aw 2 rfl ?_
     refine wR 1 [] 78 79 [13] [(13, (iI ((k : Int) + 1)))] (vA (vi (n := (k : Int) + 1) (by omega)) trivial) rfl fun _ => ?_
     refine lY _ _ _ ?_ ⟨xi ++ ([ap] : List VInT), k + 1, la, h2, k6, _, (fT (cd) i3), (HS.sub b3 (List.sublist_append_left _ _)), kl, (agC rfl (agC rfl (agC rfl (agC rfl (agC rfl (agC rfl (agC rfl (agC rfl agN)))))))), rfl, (by simp; omega), (by exact eh z2 (by assumption)), (by exact eh z4 (by assumption)), (by omega)⟩
     omega
    ·
     try simp only [BS] at h8
     refine wR 3 [] 1 0 [14] [(14, (iI 0))] trivial rfl fun _ => ?_
     refine wR 1 [] 94 99 [] [(99, (.bool (decide ((6 * (b : Int)) + 5 < (l.length : Int)))))] (vA (vi (n := 6 * (b : Int)) (by omega)) (vA (vi (n := (6 * (b : Int)) + 5) (by omega)) trivial)) rfl fun _ => ?_
     refine d3 (fun f H' => ∃ (nn : Int), H' = lG ∧ aZ f [(0, (.slice a_l l.length k_l)), (4, (.pointer (some ⟨b1, 0, none⟩))), (5, (.pointer (some ⟨b4, 0, none⟩))), (6, (iI (1 + (if (5 : Int) < ((l.length / 6 : Nat) : Int) then (5 : Int) else ((l.length / 6 : Nat) : Int))))), (11, (iI (b : Int))), (12, (.pointer (some ⟨E, 0, none⟩))), (13, (iI (k : Int))), (14, (iI nn)), (64, (.bool (decide ((b : Int) < 1 + (if (5 : Int) < ((l.length / 6 : Nat) : Int) then (5 : Int) else ((l.length / 6 : Nat) : Int)))))), (77, (.bool ((decide ((k : Int) < 5)) && (decide ((6 * (b : Int)) + (k : Int) < (l.length : Int)))))), (99, (.bool (decide ((6 * (b : Int)) + 5 < (l.length : Int)))))] ∧ (in64 nn)) (fun k3 => ?_) ?_
     ·
      refine am 0 0 (v := (decide ((6 * (b : Int)) + 5 < (l.length : Int)))) rfl rfl rfl rfl (fun h9 => ?_) (fun h9 => ?_)
      ·
       try simp only [BS] at h9
       obtain ⟨np, kv⟩ := Sv.view (SR.sv hl a1)
       have ol := fI (kv ((6 * b) + 5))
       refine wR 0 [(5, .o (iI (l.getD ((6 * b) + 5) 0)))] 100 105 [14] [(14, (iI (l.getD ((6 * b) + 5) 0)))] (vA (vi (n := 6 * (b : Int)) (by omega)) (vA (vi (n := (6 * (b : Int)) + 5) (by omega)) (vA (Sv.ix (j := (6 * (b : Int)) + 5) (SR.sv hl a1) (by omega) (by omega)) (vA (ql 3 0 (vI (kv ((6 * b) + 5)) (by omega)) rfl rfl) trivial)))) rfl fun _ => ?_
       exact k3 _ _ ⟨(l.getD ((6 * b) + 5) 0), rfl, (agC rfl (agC rfl (agC rfl (agC rfl (agC rfl (agC rfl (agC rfl (agC rfl (agC rfl (agC rfl (agC rfl agN))))))))))), (by omega)⟩
      ·
       try simp only [BS] at h9
       exact k3 _ _ ⟨0, rfl, (agC rfl (agC rfl (agC rfl (agC rfl (agC rfl (agC rfl (agC rfl (agC rfl (agC rfl (agC rfl (agC rfl agN))))))))))), (by omega)⟩
     ·
      rintro oi lG ⟨nn, rfl, ki, hnn⟩
      refine aN _ ki (fun _ => ?_)
      clear ki
      refine aw 2 rfl ?_
      refine ae ?_
      refine wRo 2 0 [] 106 107 [] [(107, (.agg ⟨[(iI nn)]⟩))] trivial rfl fun _ => ?_
      refine bd (cz a1 rfl rfl) rfl rfl ?_
      rintro _ nZ _ ⟨Z, rfl, e0, _⟩
      have e0 : HS _ _ _ [_, _, _, _, _, _, [(E, .cells [(.slice z xi.length A), (iI 0), (iI 0), (iI 0), (iI 0)] none false)], ag, [(Z, .cells [(iI nn)] none false)]] _ := e0
      refine wa (.pointer (some ⟨Z, 0, none⟩)) rfl rfl rfl ?_
      refine ao 3 rfl ?_
      refine ae ?_
      refine wm (.pointer (some ⟨Z, 0, none⟩)) rfl rfl rfl ?_
      refine aF (ax rfl rfl rfl) rfl rfl (m4.dm ex (⟨nn⟩ : DigT) (6) (HS.callOwn e0 (i := 8) rfl) (by omega) (by omega) hT (by omega)) ?_
      rintro _ n1 ⟨a7, b9, me, c7, ar, rfl, mr, oo⟩
      replace ar := HS.backOwn e0 (i := 8) rfl rfl (fun _ hb => hb) ar
      have ar : HS _ _ _ [_, _, _, _, _, _, _, _, [(Z, .cells [(iI b9.n)] none false)]] _ := ar
      replace hT := hT.mono c7
      replace U := U.mono c7
      replace V := V.mono c7
      refine ao 3 rfl ?_
      refine wR 1 [] 127 128 [] [(127, (.bool (a7 == 0)))] trivial rfl fun _ => ?_
      refine d3 (fun f H' => ∃ (xe : Int) (xg : Int) (xt : Int) (xf : Int) (dd : DigT) (F' : Fz), Fz.le me F' ∧ HS (Base.of H []) F' H' [b5, f2, cv, [], f6, ad, [(E, .cells [(.slice z xi.length A), (iI xe), (iI xg), (iI xt), (iI xf)] none false)], ag, [(Z, .cells [(iI dd.n)] none false)]] R ∧ aZ f [(0, (.slice a_l l.length k_l)), (4, (.pointer (some ⟨b1, 0, none⟩))), (5, (.pointer (some ⟨b4, 0, none⟩))), (6, (iI (1 + (if (5 : Int) < ((l.length / 6 : Nat) : Int) then (5 : Int) else ((l.length / 6 : Nat) : Int))))), (11, (iI (b : Int))), (12, (.pointer (some ⟨E, 0, none⟩))), (13, (iI (k : Int))), (14, (iI nn)), (15, (.pointer (some ⟨Z, 0, none⟩))), (64, (.bool (decide ((b : Int) < 1 + (if (5 : Int) < ((l.length / 6 : Nat) : Int) then (5 : Int) else ((l.length / 6 : Nat) : Int)))))), (77, (.bool ((decide ((k : Int) < 5)) && (decide ((6 * (b : Int)) + (k : Int) < (l.length : Int)))))), (99, (.bool (decide ((6 * (b : Int)) + 5 < (l.length : Int))))), (107, (.agg ⟨[(iI nn)]⟩)), (108, (.pointer (some ⟨Z, 0, none⟩))), (109, (.pointer (some ⟨Z, 0, none⟩))), (110, (iI a7)), (127, (.bool (a7 == 0)))] ∧ ((xe = 1 ∧ 0 ≤ xt ∧ xt < ((1 + (if (5 : Int) < ((l.length / 6 : Nat) : Int) then (5 : Int) else ((l.length / 6 : Nat) : Int)))) + 1 ∧ xf = 0 ∧ xg = 0 ∨ xe = 2 ∧ 0 ≤ xt ∧ xt < ((1 + (if (5 : Int) < ((l.length / 6 : Nat) : Int) then (5 : Int) else ((l.length / 6 : Nat) : Int)))) + 1 ∧ 0 ≤ xf ∧ xf < ((1 + (if (5 : Int) < ((l.length / 6 : Nat) : Int) then (5 : Int) else ((l.length / 6 : Nat) : Int)))) + 1 ∧ 0 ≤ xg ∧ xg < 9 + (i : Int) ∨ xe = 3 ∧ 0 ≤ xg ∧ xg < 9 + (i : Int) ∧ xt = 0 ∧ xf = 0 ∨ xe = 4 ∧ 1 ≤ xt ∧ xt < 33554432 ∧ xf = 0 ∧ xg = 0)) ∧ (in64 dd.n)) (fun e9 => ?_) ?_
      ·
       refine am 0 1 (v := (a7 == 0)) rfl rfl rfl rfl (fun ih => ?_) (fun ih => ?_)
       ·
        try simp only [BS] at ih
        refine ae ?_
        refine wRo 2 0 [] 129 130 [] [(129, (.pointer (some ⟨Z, 0, none⟩))), (130, (iI (1 + (if (5 : Int) < ((l.length / 6 : Nat) : Int) then (5 : Int) else ((l.length / 6 : Nat) : Int)))))] trivial rfl fun _ => ?_
        refine aF (ax rfl rfl rfl) rfl rfl (m4.dm ex (⟨b9.n⟩ : DigT) (1 + (if (5 : Int) < ((l.length / 6 : Nat) : Int) then (5 : Int) else ((l.length / 6 : Nat) : Int))) (HS.callOwn ar (i := 8) rfl) (by omega) (by omega) hT (by omega)) ?_
        rintro _ n3 ⟨hR, iv, nG, lN, ci, rfl, ms, oq⟩
        replace ci := HS.backOwn ar (i := 8) rfl rfl (fun _ hb => hb) ci
        have ci : HS _ _ _ [_, _, _, _, _, _, _, _, [(Z, .cells [(iI iv.n)] none false)]] _ := ci
        refine wRo 2 3 [] 132 133 [] [(132, (iI (1 + hR))), (133, (.pointer (some ⟨E, 1, none⟩)))] (vA (vi (n := 1 + hR) (by omega)) trivial) rfl fun _ => ?_
        refine aP (aA (q := 6) ci rfl rfl rfl rfl rfl rfl rfl rfl rfl) rfl ?_
        rintro _ n4 _ ⟨hw, _⟩
        have hw : HS _ _ _ [_, _, _, _, _, _, [(E, .cells [(.slice z xi.length A), (iI 1), (iI 0), (iI 0), (iI 0)] none false)], _, _] _ := hw
        refine wRo 1 6 [] 134 134 [] [(134, (.pointer (some ⟨E, 3, none⟩)))] trivial rfl fun _ => ?_
        refine aP (aA (q := 6) hw rfl rfl rfl rfl rfl rfl rfl rfl rfl) rfl ?_
        rintro _ n5 _ ⟨hx, _⟩
        have hx : HS _ _ _ [_, _, _, _, _, _, [(E, .cells [(.slice z xi.length A), (iI 1), (iI 0), (iI (1 + hR)), (iI 0)] none false)], _, _] _ := hx
        refine ao 0 rfl ?_
        exact e9 _ _ ⟨1, 0, 1 + hR, 0, (⟨iv.n⟩ : DigT), _, (lN), hx, (agC rfl (agC rfl (agC rfl (agC rfl (agC rfl (agC rfl (agC rfl (agC rfl (agC rfl (agC rfl (agC rfl (agC rfl (agC rfl (agC rfl (agC rfl (agC rfl (agC rfl agN))))))))))))))))), (by omega), (by omega)⟩
       ·
        try simp only [BS] at ih
        refine wR 1 [] 135 136 [] [(135, (.bool (a7 == 1)))] trivial rfl fun _ => ?_
        refine am 0 1 (v := (a7 == 1)) rfl rfl rfl rfl (fun ik => ?_) (fun ik => ?_)
        ·
         try simp only [BS] at ik
         refine ae ?_
         refine wm (.pointer (some ⟨Z, 0, none⟩)) rfl rfl rfl ?_
         refine aF (ax rfl rfl rfl) rfl rfl (m4.dm ex (⟨b9.n⟩ : DigT) (9) (HS.callOwn ar (i := 8) rfl) (by omega) (by omega) hT (by omega)) ?_
         rintro _ n6 ⟨hS, i1, nH, lO, cl, rfl, mu, ot⟩
         replace cl := HS.backOwn ar (i := 8) rfl rfl (fun _ hb => hb) cl
         have cl : HS _ _ _ [_, _, _, _, _, _, _, _, [(Z, .cells [(iI i1.n)] none false)]] _ := cl
         refine wRo 2 2 [] 139 140 [] [(139, (iI (1 + hS))), (140, (.pointer (some ⟨E, 1, none⟩)))] (vA (vi (n := 1 + hS) (by omega)) trivial) rfl fun _ => ?_
         refine aP (aA (q := 6) cl rfl rfl rfl rfl rfl rfl rfl rfl rfl) rfl ?_
         rintro _ n7 _ ⟨hy, _⟩
         have hy : HS _ _ _ [_, _, _, _, _, _, [(E, .cells [(.slice z xi.length A), (iI 4), (iI 0), (iI 0), (iI 0)] none false)], _, _] _ := hy
         refine wRo 1 5 [] 141 141 [] [(141, (.pointer (some ⟨E, 3, none⟩)))] trivial rfl fun _ => ?_
         refine aP (aA (q := 6) hy rfl rfl rfl rfl rfl rfl rfl rfl rfl) rfl ?_
         rintro _ n8 _ ⟨hz, _⟩
         have hz : HS _ _ _ [_, _, _, _, _, _, [(E, .cells [(.slice z xi.length A), (iI 4), (iI 0), (iI (1 + hS)), (iI 0)] none false)], _, _] _ := hz
         refine ao 0 rfl ?_
         exact e9 _ _ ⟨4, 0, 1 + hS, 0, (⟨i1.n⟩ : DigT), _, (lO), hz, (agC rfl (agC rfl (agC rfl (agC rfl (agC rfl (agC rfl (agC rfl (agC rfl (agC rfl (agC rfl (agC rfl (agC rfl (agC rfl (agC rfl (agC rfl (agC rfl (agC rfl agN))))))))))))))))), (by omega), (by omega)⟩
        ·
         try simp only [BS] at ik
         refine wR 1 [] 142 143 [] [(142, (.bool (a7 == 2)))] trivial rfl fun _ => ?_
         refine am 0 0 (v := (a7 == 2)) rfl rfl rfl rfl (fun f7 => ?_) (fun f7 => ?_)
         ·
          try simp only [BS] at f7
          refine ae ?_
          refine wRo 3 0 [(2, .o (iI (9 + (i : Int))))] 144 146 [] [(144, (.pointer (some ⟨Z, 0, none⟩))), (146, (iI (9 + (i : Int))))] (vA (ql 3 1 (HS.hc ar (i := 1) rfl) rfl rfl) trivial) rfl fun _ => ?_
          refine aF (ax rfl rfl rfl) rfl rfl (m4.dm ex (⟨b9.n⟩ : DigT) (9 + (i : Int)) (HS.callOwn ar (i := 8) rfl) (by omega) (by omega) hT (by omega)) ?_
          rintro _ mN ⟨li, hC, mG, lu, bb, rfl, l4, ns⟩
          replace bb := HS.backOwn ar (i := 8) rfl rfl (fun _ hb => hb) bb
          have bb : HS _ _ _ [_, _, _, _, _, _, _, _, [(Z, .cells [(iI hC.n)] none false)]] _ := bb
          refine wRo 1 4 [] 148 148 [] [(148, (.pointer (some ⟨E, 1, none⟩)))] trivial rfl fun _ => ?_
          refine aP (aA (q := 6) bb rfl rfl rfl rfl rfl rfl rfl rfl rfl) rfl ?_
          rintro _ mO _ ⟨c8, _⟩
          have c8 : HS _ _ _ [_, _, _, _, _, _, [(E, .cells [(.slice z xi.length A), (iI 3), (iI 0), (iI 0), (iI 0)] none false)], _, _] _ := c8
          refine wRo 1 6 [] 149 149 [] [(149, (.pointer (some ⟨E, 2, none⟩)))] trivial rfl fun _ => ?_
          refine aP (aA (q := 6) c8 rfl rfl rfl rfl rfl rfl rfl rfl rfl) rfl ?_
          rintro _ mP _ ⟨c9, _⟩
          have c9 : HS _ _ _ [_, _, _, _, _, _, [(E, .cells [(.slice z xi.length A), (iI 3), (iI li), (iI 0), (iI 0)] none false)], _, _] _ := c9
          refine ao 0 rfl ?_
          exact e9 _ _ ⟨3, li, 0, 0, (⟨hC.n⟩ : DigT), _, (lu), c9, (agC rfl (agC rfl (agC rfl (agC rfl (agC rfl (agC rfl (agC rfl (agC rfl (agC rfl (agC rfl (agC rfl (agC rfl (agC rfl (agC rfl (agC rfl (agC rfl (agC rfl agN))))))))))))))))), (by omega), (by omega)⟩
         ·
          try simp only [BS] at f7
          refine ae ?_
          refine wRo 3 0 [(2, .o (iI (9 + (i : Int))))] 111 113 [] [(111, (.pointer (some ⟨Z, 0, none⟩))), (113, (iI (9 + (i : Int))))] (vA (ql 3 1 (HS.hc ar (i := 1) rfl) rfl rfl) trivial) rfl fun _ => ?_
          refine aF (ax rfl rfl rfl) rfl rfl (m4.dm ex (⟨b9.n⟩ : DigT) (9 + (i : Int)) (HS.callOwn ar (i := 8) rfl) (by omega) (by omega) hT (by omega)) ?_
          rintro _ mQ ⟨fd, hE, mH, hH, a5, rfl, l5, nt⟩
          replace a5 := HS.backOwn ar (i := 8) rfl rfl (fun _ hb => hb) a5
          have a5 : HS _ _ _ [_, _, _, _, _, _, _, _, [(Z, .cells [(iI hE.n)] none false)]] _ := a5
          replace hT := hT.mono hH
          refine wRo 2 4 [] 115 116 [] [(115, (.pointer (some ⟨Z, 0, none⟩))), (116, (iI (1 + (if (5 : Int) < ((l.length / 6 : Nat) : Int) then (5 : Int) else ((l.length / 6 : Nat) : Int)))))] trivial rfl fun _ => ?_
          refine aF (ax rfl rfl rfl) rfl rfl (m4.dm ex (⟨hE.n⟩ : DigT) (1 + (if (5 : Int) < ((l.length / 6 : Nat) : Int) then (5 : Int) else ((l.length / 6 : Nat) : Int))) (HS.callOwn a5 (i := 8) rfl) (by omega) (by omega) hT (by omega)) ?_
          rintro _ mR ⟨co, hF, mI, hI, a6, rfl, l6, nu⟩
          replace a6 := HS.backOwn a5 (i := 8) rfl rfl (fun _ hb => hb) a6
          have a6 : HS _ _ _ [_, _, _, _, _, _, _, _, [(Z, .cells [(iI hF.n)] none false)]] _ := a6
          replace hT := hT.mono hI
          refine wRo 3 7 [] 118 120 [] [(118, (iI (1 + co))), (119, (.pointer (some ⟨Z, 0, none⟩))), (120, (iI (1 + (if (5 : Int) < ((l.length / 6 : Nat) : Int) then (5 : Int) else ((l.length / 6 : Nat) : Int)))))] (vA (vi (n := 1 + co) (by omega)) trivial) rfl fun _ => ?_
          refine aF (ax rfl rfl rfl) rfl rfl (m4.dm ex (⟨hF.n⟩ : DigT) (1 + (if (5 : Int) < ((l.length / 6 : Nat) : Int) then (5 : Int) else ((l.length / 6 : Nat) : Int))) (HS.callOwn a6 (i := 8) rfl) (by omega) (by omega) hT (by omega)) ?_
          rintro _ mS ⟨f1, hG, mJ, lv, b0, rfl, l7, nv⟩
          replace b0 := HS.backOwn a6 (i := 8) rfl rfl (fun _ hb => hb) b0
          have b0 : HS _ _ _ [_, _, _, _, _, _, _, _, [(Z, .cells [(iI hG.n)] none false)]] _ := b0
          refine wRo 2 11 [] 122 123 [] [(122, (iI (1 + f1))), (123, (.pointer (some ⟨E, 1, none⟩)))] (vA (vi (n := 1 + f1) (by omega)) trivial) rfl fun _ => ?_
          refine aP (aA (q := 6) b0 rfl rfl rfl rfl rfl rfl rfl rfl rfl) rfl ?_
          rintro _ mT _ ⟨dk, _⟩
          have dk : HS _ _ _ [_, _, _, _, _, _, [(E, .cells [(.slice z xi.length A), (iI 2), (iI 0), (iI 0), (iI 0)] none false)], _, _] _ := dk
          refine wRo 1 14 [] 124 124 [] [(124, (.pointer (some ⟨E, 2, none⟩)))] trivial rfl fun _ => ?_
          refine aP (aA (q := 6) dk rfl rfl rfl rfl rfl rfl rfl rfl rfl) rfl ?_
          rintro _ mU _ ⟨dl, _⟩
          have dl : HS _ _ _ [_, _, _, _, _, _, [(E, .cells [(.slice z xi.length A), (iI 2), (iI fd), (iI 0), (iI 0)] none false)], _, _] _ := dl
          refine wRo 1 16 [] 125 125 [] [(125, (.pointer (some ⟨E, 3, none⟩)))] trivial rfl fun _ => ?_
          refine aP (aA (q := 6) dl rfl rfl rfl rfl rfl rfl rfl rfl rfl) rfl ?_
          rintro _ mV _ ⟨dn, _⟩
          have dn : HS _ _ _ [_, _, _, _, _, _, [(E, .cells [(.slice z xi.length A), (iI 2), (iI fd), (iI (1 + co)), (iI 0)] none false)], _, _] _ := dn
          refine wRo 1 18 [] 126 126 [] [(126, (.pointer (some ⟨E, 4, none⟩)))] trivial rfl fun _ => ?_
          refine aP (aA (q := 6) dn rfl rfl rfl rfl rfl rfl rfl rfl rfl) rfl ?_
          rintro _ mW _ ⟨ds, _⟩
          have ds : HS _ _ _ [_, _, _, _, _, _, [(E, .cells [(.slice z xi.length A), (iI 2), (iI fd), (iI (1 + co)), (iI (1 + f1))] none false)], _, _] _ := ds
          refine ao 0 rfl ?_
          exact e9 _ _ ⟨2, fd, 1 + co, 1 + f1, (⟨hG.n⟩ : DigT), _, (fT (fT (hH) hI) lv), ds, (agC rfl (agC rfl (agC rfl (agC rfl (agC rfl (agC rfl (agC rfl (agC rfl (agC rfl (agC rfl (agC rfl (agC rfl (agC rfl (agC rfl (agC rfl (agC rfl (agC rfl agN))))))))))))))))), (by omega), (by omega)⟩
      ·
       rintro oj n2 ⟨xe, xg, xt, xf, dd, mf, g3, hv, kk, hD, hdd⟩
       refine aN _ kk (fun _ => ?_)
       clear kk
       replace U := U.mono g3
       replace V := V.mono g3
       refine aw 4 rfl ?_
       refine wR 1 [(6, .o (iI xe))] 150 158 [] [(158, (.bool (((b : Int) == (1 + (if (5 : Int) < ((l.length / 6 : Nat) : Int) then (5 : Int) else ((l.length / 6 : Nat) : Int))) - 1) && (xe == 1))))] (vA (vi (n := (1 + (if (5 : Int) < ((l.length / 6 : Nat) : Int) then (5 : Int) else ((l.length / 6 : Nat) : Int))) - 1) (by omega)) (vA (fun (g1 : ((b : Int) == (1 + (if (5 : Int) < ((l.length / 6 : Nat) : Int) then (5 : Int) else ((l.length / 6 : Nat) : Int))) - 1) = true) => (ql 3 1 (HS.hc hv (i := 6) rfl) rfl rfl)) trivial)) rfl fun _ => ?_
       refine d3 (fun f H' => ∃ (ye : Int) (yg : Int) (yt : Int) (F' : Fz), Fz.le mf F' ∧ HS (Base.of H []) F' H' [b5, f2, cv, [], f6, ad, [(E, .cells [(.slice z xi.length A), (iI ye), (iI yg), (iI yt), (iI xf)] none false)], ag, [(Z, .cells [(iI dd.n)] none false)]] R ∧ aZ f [(0, (.slice a_l l.length k_l)), (4, (.pointer (some ⟨b1, 0, none⟩))), (5, (.pointer (some ⟨b4, 0, none⟩))), (6, (iI (1 + (if (5 : Int) < ((l.length / 6 : Nat) : Int) then (5 : Int) else ((l.length / 6 : Nat) : Int))))), (11, (iI (b : Int))), (12, (.pointer (some ⟨E, 0, none⟩))), (13, (iI (k : Int))), (14, (iI nn)), (15, (.pointer (some ⟨Z, 0, none⟩))), (64, (.bool (decide ((b : Int) < 1 + (if (5 : Int) < ((l.length / 6 : Nat) : Int) then (5 : Int) else ((l.length / 6 : Nat) : Int)))))), (77, (.bool ((decide ((k : Int) < 5)) && (decide ((6 * (b : Int)) + (k : Int) < (l.length : Int)))))), (99, (.bool (decide ((6 * (b : Int)) + 5 < (l.length : Int))))), (107, (.agg ⟨[(iI nn)]⟩)), (108, (.pointer (some ⟨Z, 0, none⟩))), (109, (.pointer (some ⟨Z, 0, none⟩))), (110, (iI a7)), (127, (.bool (a7 == 0))), (158, (.bool (((b : Int) == (1 + (if (5 : Int) < ((l.length / 6 : Nat) : Int) then (5 : Int) else ((l.length / 6 : Nat) : Int))) - 1) && (xe == 1))))] ∧ ((ye = 1 ∧ 0 ≤ yt ∧ yt < ((1 + (if (5 : Int) < ((l.length / 6 : Nat) : Int) then (5 : Int) else ((l.length / 6 : Nat) : Int)))) + 1 ∧ xf = 0 ∧ yg = 0 ∨ ye = 2 ∧ 0 ≤ yt ∧ yt < ((1 + (if (5 : Int) < ((l.length / 6 : Nat) : Int) then (5 : Int) else ((l.length / 6 : Nat) : Int)))) + 1 ∧ 0 ≤ xf ∧ xf < ((1 + (if (5 : Int) < ((l.length / 6 : Nat) : Int) then (5 : Int) else ((l.length / 6 : Nat) : Int)))) + 1 ∧ 0 ≤ yg ∧ yg < 9 + (i : Int) ∨ ye = 3 ∧ 0 ≤ yg ∧ yg < 9 + (i : Int) ∧ yt = 0 ∧ xf = 0 ∨ ye = 4 ∧ 1 ≤ yt ∧ yt < 33554432 ∧ xf = 0 ∧ yg = 0))) (fun hQ => ?_) ?_
       ·
        refine am 0 0 (v := (((b : Int) == (1 + (if (5 : Int) < ((l.length / 6 : Nat) : Int) then (5 : Int) else ((l.length / 6 : Nat) : Int))) - 1) && (xe == 1))) rfl rfl rfl rfl (fun gn => ?_) (fun gn => ?_)
        ·
         try simp only [BS] at gn
         refine ae ?_
         refine wRo 1 0 [] 159 159 [] [(159, (.pointer (some ⟨E, 1, none⟩)))] trivial rfl fun _ => ?_
         refine aP (aA (q := 6) hv rfl rfl rfl rfl rfl rfl rfl rfl rfl) rfl ?_
         rintro _ mY _ ⟨dv, _⟩
         have dv : HS _ _ _ [_, _, _, _, _, _, [(E, .cells [(.slice z xi.length A), (iI 3), (iI xg), (iI xt), (iI xf)] none false)], _, [(Z, .cells [(iI dd.n)] none false)]] _ := dv
         refine wRo 1 2 [] 160 160 [] [(160, (.pointer (some ⟨E, 3, none⟩)))] trivial rfl fun _ => ?_
         refine aP (aA (q := 6) dv rfl rfl rfl rfl rfl rfl rfl rfl rfl) rfl ?_
         rintro _ mZ _ ⟨d1, _⟩
         have d1 : HS _ _ _ [_, _, _, _, _, _, [(E, .cells [(.slice z xi.length A), (iI 3), (iI xg), (iI 0), (iI xf)] none false)], _, _] _ := d1
         refine wRo 1 4 [] 161 161 [] [(161, (.pointer (some ⟨E, 2, none⟩)))] trivial rfl fun _ => ?_
         refine aP (aA (q := 6) d1 rfl rfl rfl rfl rfl rfl rfl rfl rfl) rfl ?_
         rintro _ m0 _ ⟨d2, _⟩
         have d2 : HS _ _ _ [_, _, _, _, _, _, [(E, .cells [(.slice z xi.length A), (iI 3), (iI 0), (iI 0), (iI xf)] none false)], _, _] _ := d2
         refine ao 0 rfl ?_
         exact hQ _ _ ⟨3, 0, 0, _, fR, d2, (agC rfl (agC rfl (agC rfl (agC rfl (agC rfl (agC rfl (agC rfl (agC rfl (agC rfl (agC rfl (agC rfl (agC rfl (agC rfl (agC rfl (agC rfl (agC rfl (agC rfl (agC rfl agN)))))))))))))))))), (by omega)⟩
        ·
         try simp only [BS] at gn
         exact hQ _ _ ⟨xe, xg, xt, _, fR, hv, (agC rfl (agC rfl (agC rfl (agC rfl (agC rfl (agC rfl (agC rfl (agC rfl (agC rfl (agC rfl (agC rfl (agC rfl (agC rfl (agC rfl (agC rfl (agC rfl (agC rfl (agC rfl agN)))))))))))))))))), (by omega)⟩
       ·
        rintro nr mX ⟨ye, yg, yt, mK, c4, dt, hP, hY⟩
        refine aN _ hP (fun _ => ?_)
        clear hP
        replace V := V.mono c4
        refine aw 1 rfl ?_
        refine ae ?_
        let hB : Value := (.agg ⟨[(.slice z xi.length A), (iI ye), (iI yg), (iI yt), (iI xf)]⟩)
        refine wRo 3 0 [(1, .o (.slice O bl.length T)), (2, .o hB)] 162 164 [] [(163, (.slice O bl.length T)), (164, hB)] (vA (ql 22 2 (HS.hc dt (i := 1) rfl) rfl rfl) (vA (qn 42 0 5 (HS.hc dt (i := 6) rfl) rfl rfl rfl rfl) trivial)) rfl fun _ => ?_
        obtain ⟨mL, hK, ea, lD, mE⟩ := OS.frz V dt (i := 7) rfl
        have ea : HS _ _ _ [_, _, _, _, _, _, [(E, .cells [(.slice z xi.length A), (iI ye), (iI yg), (iI yt), (iI xf)] none false)], [], [(Z, .cells [(iI dd.n)] none false)]] _ := ea
        replace U := (U.mono c4).mono hK
        refine bd (cN (α := BlkT) (ps := [(0, hB)]) (cells := [(.slice z xi.length A), (iI ye), (iI yg), (iI yt), (iI xf)]) ([(⟨xi, ye, yg, yt, xf⟩ : BlkT)] : List BlkT) ea rfl rfl rfl (by kernel_rfl) ⟨[(.slice z xi.length A), (iI ye), (iI yg), (iI yt), (iI xf)], [], rfl, ⟨z, A, rfl, by first | omega | (dsimp only; omega), by first | omega | (dsimp only; omega), by first | omega | (dsimp only; omega), by first | omega | (dsimp only; omega), lD⟩, rfl⟩ rfl) rfl rfl ?_
        rintro _ m9 l3 ⟨nm, ny, rfl, lB, b6, _⟩
        have b6 : HS _ _ _ [_, _, _, _, _, _, _, _, _, l3] _ := b6
        refine bd (ev (α := BlkT) (q := 5) U b6 rfl rfl rfl (OS.sv lB b6 (i := 9) rfl) rfl rfl rfl rfl rfl rfl rfl (by first | omega | (simp only [List.length_cons, List.length_nil]; omega))) rfl rfl ?_
        rintro _ na k8 ⟨hX, k4, rfl, lC, eb, _⟩
        have eb : HS _ _ _ [_, _, _, _, _, k8, _, _, _, _] _ := eb
        refine wRo 1 5 [] 167 167 [] [(167, (.pointer (some ⟨b4, 2, none⟩)))] trivial rfl fun _ => ?_
        refine aP (aA (q := 1) eb rfl rfl rfl rfl rfl rfl rfl rfl rfl) rfl ?_
        rintro _ ne _ ⟨ec, _⟩
        have ec : HS _ _ _ [_, [(b4, .cells [(iI params), (iI (9 + (i : Int))), (.slice hX (bl ++ ([(⟨xi, ye, yg, yt, xf⟩ : BlkT)] : List BlkT)).length k4)] none false)], _, _, _, _, _, _, _, _] _ := ec
        refine ao 2 rfl ?_
        refine wR 1 [] 65 66 [11] [(11, (iI ((b : Int) + 1)))] (vA (vi (n := (b : Int) + 1) (by omega)) trivial) rfl fun _ => ?_
        refine lX _ _ _ ?_ ⟨bl ++ ([(⟨xi, ye, yg, yt, xf⟩ : BlkT)] : List BlkT), b + 1, k8, hX, k4, _, (fT (fT (fT (fT (fT (c6) cd) c7) g3) c4) hK), (HS.sub ec (List.sublist_append_left _ _)), lC, (agC rfl (agC rfl (agC rfl (agC rfl (agC rfl agN))))), rfl, (by simp; omega), (by exact eh e2 (blk_mk z2 (by omega))), (by exact ins_snoc e3 (by first | omega | (dsimp only; omega))), (by exact eh e5 z4), (by exact first_snoc e6 (by omega)), (by first | omega | (dsimp only; omega))⟩
        omega
   ·
    try simp only [BS] at h7
    refine ae ?_
    let ln : Value := (.agg ⟨[(iI params), (iI (9 + (i : Int))), (.slice O bl.length T)]⟩)
    refine wRo 1 0 [(0, .o ln)] 168 168 [] [(168, ln)] (vA (qn 24 0 3 (HS.hc hr (i := 1) rfl) rfl rfl rfl rfl) trivial) rfl fun _ => ?_
    refine aP (aA (q := 0) hr rfl rfl rfl rfl rfl rfl rfl rfl rfl) rfl ?_
    rintro _ ng _ ⟨b7, _⟩
    have b7 : HS _ _ _ [[(b1, .cells [(iI params), (iI (9 + (i : Int))), (.slice O bl.length T)] none false)], [(b4, .cells [(iI params), (iI (9 + (i : Int))), (.slice O bl.length T)] none false)], _, _, _, ad] _ := b7
    refine ao 1 rfl ?_
    obtain ⟨mM, lw, em, lE, mF⟩ := OS.frz U b7 (i := 5) rfl
    have em : HS _ _ _ [_, _, _, _, _, []] _ := em
    refine aj ⟨.inr rfl, _, (rC rfl (ldVN rfl rfl (HS.hc b7 (i := 0) rfl) rfl) rN), (⟨params, 9 + (i : Int), bl⟩ : VFnT), O, T, _, (fT (fT (fT (fT (hN) c5) g2) c6) lw), (HS.forget em), rfl, (by first | omega | (dsimp only; omega)), (by first | omega | (dsimp only; omega)), lE, (by exact ⟨val_mk (by omega) (by omega) e2, rfl, by first | omega | (dsimp only; omega), ⟨by first | omega | (dsimp only; omega), by first | omega | (dsimp only; omega)⟩, ins_at e3, e5, fi, e6, by first | omega | (dsimp only; omega), w5⟩)⟩
end Go.Proofs.YtlabedbmgmfbaaaDoor.m5
