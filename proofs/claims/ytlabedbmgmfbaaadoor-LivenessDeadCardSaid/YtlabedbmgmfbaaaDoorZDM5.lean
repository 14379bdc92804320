/-
 The generator of virtual code, whole, by a symbolic run: what it makes is valid. No condition but that the table lies as laid.
-/
import Derived.Test.YtlabedbmgmfbaaaDoorZDM4
import Derived.Test.YtlabedbmgmfbaaaDoorZDRC
noncomputable section
namespace Go.Proofs.YtlabedbmgmfbaaaDoor.m5
open Go.R
set_option maxRecDepth 10000
set_option linter.unusedVariables false
open m1 m2 m3 m4
theorem vin_ldi {params regs r op : Int} (hr : 0 ≤ r ∧ r < regs) (ho : op = 13 ∨ op = 38 ∧ r < params) : eg params regs ⟨⟨op, r, 0, 0, r⟩, []⟩ = true := by
 rcases ho with rfl | ⟨rfl, hp⟩
 ·
  exact vin_mk (by decide) (.inr rfl) (by simp) rfl (opOK_t (by decide) hr) (jH (by decide) rfl) (jH (by decide) rfl) rfl
 ·
  exact vin_mk (by decide) (.inr rfl) (by simp) rfl (opOK_t (by decide) hr) (jH (by decide) rfl) (jH (by decide) rfl) (decide_eq_true ⟨hr.1, hp⟩)
theorem er {α : Type} {p : α → Bool} {l : List α} {x : α} (h : l.all p = true) (hx : p x = true) : (l ++ [x]).all p = true := by rw [List.all_append, h]; simp [hx]
theorem blk_mk {params regs nb e g t f : Int} {l : List VInT} (h : l.all (eg params regs) = true) (z : e = 1 ∧ 0 ≤ t ∧ t < nb ∧ f = 0 ∧ g = 0 ∨ e = 2 ∧ 0 ≤ t ∧ t < nb ∧ 0 ≤ f ∧ f < nb ∧ 0 ≤ g ∧ g < regs ∨ e = 3 ∧ 0 ≤ g ∧ g < regs ∧ t = 0 ∧ f = 0 ∨ e = 4 ∧ 1 ≤ t ∧ t < 33554432 ∧ f = 0 ∧ g = 0) : jZ params regs nb ⟨l, e, g, t, f⟩ = true := ip h (bE.2 z)
theorem ins_snoc {l : List BlkT} {x : BlkT} (h : ∀ y ∈ l, y.ins.length ≤ 11) (hx : x.ins.length ≤ 11) : ∀ y ∈ l ++ [x], y.ins.length ≤ 11 := fun y hy => by
 rcases List.mem_append.1 hy with hy | hy
 ·
  exact h y hy
 ·
  rw [List.mem_singleton] at hy; rw [hy]; exact hx
theorem ins_at {l : List BlkT} (h : ∀ y ∈ l, y.ins.length ≤ 11) (j : Nat) : (l.getD j default).ins.length ≤ 11 := by
 rw [List.getD_eq_getElem?_getD]
 rcases hj : l[j]? with _ | y
 ·
  exact Nat.zero_le _
 ·
  exact h y (List.mem_of_getElem? hj)
def fstOK (fi : List VInT) : Prop := ∀ q : Nat, q < fi.length → (fi.getD q default).i.a = q ∧ ((fi.getD q default).i.op = 13 ∨ (fi.getD q default).i.op = 38)
theorem fst_snoc {fi : List VInT} {x : VInT} (h : fstOK fi) (hx : x.i.a = (fi.length : Int) ∧ (x.i.op = 13 ∨ x.i.op = 38)) : fstOK (fi ++ [x]) := fun q hq => by
 rw [List.length_append] at hq
 simp only [List.length_cons, List.length_nil] at hq
 rcases Nat.lt_or_ge q fi.length with z | z
 ·
  rw [List.getD_eq_getElem?_getD, List.getElem?_append_left z, ← List.getD_eq_getElem?_getD]; exact h q z
 ·
  have : q = fi.length := by omega
  subst this
  rw [List.getD_eq_getElem?_getD, List.getElem?_append_right (Nat.le_refl _), Nat.sub_self]; exact hx
theorem first_snoc {l : List BlkT} {x y : BlkT} (h : l.getD 0 default = x) (hl : 0 < l.length) : (l ++ [y]).getD 0 default = x := by
 rw [List.getD_eq_getElem?_getD, List.getElem?_append_left hl, ← List.getD_eq_getElem?_getD]; exact h
theorem ck_ldi {v : VInT} (ho : v.i.op = 13 ∨ v.i.op = 38) : ckI v = true := decide_eq_true ⟨fun h => by omega, fun h => by omega⟩
structure vfG (x : VFnT) (params : Int) : Prop where
 val : eL x = true
 par : x.params = params
 reg : x.regs = 9 + params
 nb : 2 ≤ x.blocks.length ∧ x.blocks.length ≤ 7
 ins : ∀ j, (x.blocks.getD j default).ins.length ≤ 11
 ck : x.blocks.all (fun y => y.ins.all ckI) = true
 fst : ∃ fi, x.blocks.getD 0 default = ⟨fi, 1, 0, 1, 0⟩ ∧ (fi.length : Int) = x.regs ∧ fstOK fi
theorem val_mk {p r : Int} {l : List BlkT} {n : Int} (h : 0 ≤ p ∧ p ≤ 6 ∧ 0 ≤ r ∧ r ≤ 3000 ∧ 1 ≤ l.length ∧ l.length ≤ 1000) (hn : (l.length : Int) = n) (z : l.all (jZ p r n) = true) : eL ⟨p, r, l⟩ = true := by subst hn; exact (val_yes (c := ⟨p, r, l⟩) h z).symm
set_option maxHeartbeats 2000000 in
theorem vf_c (ex : FuncId) {a_l : Option Addr} {k_l : Nat} (l : List Int) (params : Int) {F : Fz} {H : Heap} {R : List Fp} (hs : HS (.of H []) F H [] R) (hl : SR F (.slice a_l l.length k_l) l) (hT : TB 37 tabC F) (hp : 0 ≤ params ∧ params ≤ 2) (hbl : l.length ≤ 1000) : C Tryd.prog 1 (KT 60 ex 37 tabC) 16 [(.slice a_l l.length k_l), (iI params)] H fun v H' => ∃ (x : VFnT) (hS : Option Addr) (kr : Nat) (F' : Fz), Fz.le F F' ∧ HS (.of H []) F' H' [] R ∧ v = .agg ⟨[.int .i64 x.params, .int .i64 x.regs, .slice hS x.blocks.length kr]⟩ ∧ in64 x.params ∧ in64 x.regs ∧ SR F' (.slice hS x.blocks.length kr) x.blocks ∧ (vfG x params) := by
 refine aL Tryd.func16 rfl rfl ?_
 refine ao 1 rfl ?_
 refine ab ?_
 refine aR (bK hs rfl) rfl rfl ?_
 rintro _ H2 _ ⟨b1, rfl, i3, _⟩
 let b3 : Fp := [(b1, .cells [(iI 0), (iI 0), (.slice none 0 0)] none false)]
 have i3 : HS _ _ _ [b3] _ := i3
 refine ai 2 rfl ?_
 refine ab ?_
 refine wRo 2 0 [] 16 17 [] [(17, (.agg ⟨[(iI params), (iI 9), (.slice none 0 0)]⟩))] trivial rfl fun _ => ?_
 refine aR (bK i3 rfl) rfl rfl ?_
 rintro _ H5 _ ⟨b4, rfl, jb, _⟩
 have jb : HS _ _ _ [_, [(b4, .cells [(iI 0), (iI 0), (.slice none 0 0)] none false)]] _ := jb
 refine aU (aG (q := 1) jb rfl rfl rfl rfl rfl rfl rfl rfl rfl) rfl ?_
 rintro _ H6 _ ⟨jq, _⟩
 have jq : HS _ _ _ [_, [(b4, .cells [(iI params), (iI 9), (.slice none 0 0)] none false)]] _ := jq
 refine ai 2 rfl ?_
 refine wR 3 [] 18 22 [6] [(6, (iI (1 + (if (5 : Int) < ((l.length / 6 : Nat) : Int) then (5 : Int) else ((l.length / 6 : Nat) : Int)))))] (vA (vA (show (6 : Int) ≠ 0 from by decide) (vi (n := ((l.length / 6 : Nat) : Int)) (by omega))) (vA (vi (n := 1 + (if (5 : Int) < ((l.length / 6 : Nat) : Int) then (5 : Int) else ((l.length / 6 : Nat) : Int))) (by omega)) trivial)) rfl fun _ => ?_
 have hM : 1 ≤ (1 + (if (5 : Int) < ((l.length / 6 : Nat) : Int) then (5 : Int) else ((l.length / 6 : Nat) : Int))) ∧ (1 + (if (5 : Int) < ((l.length / 6 : Nat) : Int) then (5 : Int) else ((l.length / 6 : Nat) : Int))) ≤ 6 := by omega
 refine wR 2 [] 1 0 [7] [(7, (iI 0))] trivial rfl fun _ => ?_
 refine aC (fun (mm : Nat) f H' => ∃ (i : Nat) (F' : Fz), Fz.le F F' ∧ HS (Base.of H []) F' H' [b3, [(b4, .cells [(iI params), (iI (9 + (i : Int))), (.slice none 0 0)] none false)]] R ∧ aT f [(0, (.slice a_l l.length k_l)), (1, (iI params)), (4, (.pointer (some ⟨b1, 0, none⟩))), (5, (.pointer (some ⟨b4, 0, none⟩))), (6, (iI (1 + (if (5 : Int) < ((l.length / 6 : Nat) : Int) then (5 : Int) else ((l.length / 6 : Nat) : Int))))), (7, (iI (i : Int)))] ∧ mm = (params - (i : Int)).toNat ∧ ((i : Int) ≤ params)) _ ⟨0, _, fR, jq, ⟨rfl, rfl, rfl, rfl, rfl, rfl, trivial⟩, rfl, (by omega)⟩ ?_
 rintro oW f9 H9 ⟨i, F9, hF, j2, l0, rfl, q1⟩ mT
 refine aH _ l0 (fun _ => ?_)
 clear l0
 replace hT := hT.mono hF
 replace hl := hl.mono hF
 refine ao 2 rfl ?_
 refine wR 1 [] 23 25 [] [(25, (.bool (decide ((i : Int) < params))))] trivial rfl fun _ => ?_
 refine am 3 5 (v := (decide ((i : Int) < params))) rfl rfl rfl rfl (fun hV => ?_) (fun hV => ?_)
 ·
  try simp only [BS] at hV
  refine ab ?_
  refine wRo 4 0 [(1, .o (iI (9 + (i : Int))))] 28 31 [] [(30, (iI ((9 + (i : Int)) + 1))), (31, (.pointer (some ⟨b4, 1, none⟩)))] (vA (ql 3 1 (HS.hc j2 (i := 1) rfl) rfl rfl) (vA (vi (n := (9 + (i : Int)) + 1) (by omega)) trivial)) rfl fun _ => ?_
  refine aU (aG (q := 1) j2 rfl rfl rfl rfl rfl rfl rfl rfl rfl) rfl ?_
  rintro _ n7 _ ⟨f4, _⟩
  have f4 : HS _ _ _ [_, [(b4, .cells [(iI params), (iI ((9 + (i : Int)) + 1)), (.slice none 0 0)] none false)]] _ := f4
  refine ai 2 rfl ?_
  refine wR 1 [] 26 27 [7] [(7, (iI ((i : Int) + 1)))] (vA (vi (n := (i : Int) + 1) (by omega)) trivial) rfl fun _ => ?_
  refine mT _ _ _ ?_ ⟨i + 1, _, (hF), f4, ⟨rfl, rfl, rfl, rfl, rfl, rfl, trivial⟩, rfl, (by omega)⟩
  omega
 ·
  try simp only [BS] at hV
  refine ab ?_
  refine aR (bK j2 rfl) rfl rfl ?_
  rintro _ n8 _ ⟨a3, rfl, f6, _⟩
  let k6 : Fp := [(b4, .cells [(iI params), (iI (9 + (i : Int))), (.slice none 0 0)] none false)]
  have f6 : HS _ _ _ [_, k6, [(a3, .cells [(.slice none 0 0), (iI 0), (iI 0), (iI 0), (iI 0)] none false)]] _ := f6
  refine ai 3 rfl ?_
  refine wR 2 [] 1 0 [9] [(9, (iI 0))] trivial rfl fun _ => ?_
  have gn := HS.snoc f6
  have gn : HS _ _ _ [_, _, _, []] _ := gn
  refine aC (fun (mm : Nat) f H' => ∃ (fi : List VInT) (r : Nat) (aq : Fp) (J : Option Addr) (O : Nat) (F' : Fz), Fz.le F9 F' ∧ HS (Base.of H []) F' H' [b3, k6, [(a3, .cells [(.slice J fi.length O), (iI 0), (iI 0), (iI 0), (iI 0)] none false)], aq] R ∧ OS F' (.slice J fi.length O) fi aq ∧ aT f [(0, (.slice a_l l.length k_l)), (1, (iI params)), (4, (.pointer (some ⟨b1, 0, none⟩))), (5, (.pointer (some ⟨b4, 0, none⟩))), (6, (iI (1 + (if (5 : Int) < ((l.length / 6 : Nat) : Int) then (5 : Int) else ((l.length / 6 : Nat) : Int))))), (8, (.pointer (some ⟨a3, 0, none⟩))), (9, (iI (r : Int)))] ∧ mm = (9 + (i : Int) - (r : Int)).toNat ∧ (fi.length = r) ∧ (fi.all (eg params (9 + (i : Int))) = true) ∧ (fi.all ckI = true) ∧ (fstOK fi) ∧ ((r : Int) ≤ 9 + (i : Int))) _ ⟨([] : List VInT), 0, [], none, 0, _, fR, gn, (OS.nil : OS F9 (.slice none 0 0) ([] : List VInT) []), ⟨rfl, rfl, rfl, rfl, rfl, rfl, rfl, trivial⟩, rfl, (by rfl), (by rfl), (by rfl), (by intro q hq; cases hq), (by omega)⟩ ?_
  rintro nX oH n9 ⟨fi, r, aq, J, O, mE, c6, f7, a0, ih, rfl, w1, w2, w4, w5, w3⟩ mj
  refine aH _ ih (fun _ => ?_)
  clear ih
  replace hT := hT.mono c6
  replace hl := hl.mono c6
  refine ao 2 rfl ?_
  refine wR 1 [(2, .o (iI (9 + (i : Int))))] 32 35 [] [(35, (.bool (decide ((r : Int) < 9 + (i : Int)))))] (vA (ql 3 1 (HS.hc f7 (i := 1) rfl) rfl rfl) trivial) rfl fun _ => ?_
  refine am 4 5 (v := (decide ((r : Int) < 9 + (i : Int)))) rfl rfl rfl rfl (fun hW => ?_) (fun hW => ?_)
  ·
   try simp only [BS] at hW
   refine ab ?_
   let l3 : Value := (.agg ⟨[(iI 13), (iI (r : Int)), (iI 0), (iI 0), (iI (r : Int))]⟩)
   refine wRo 3 0 [] 38 40 [] [(40, l3)] trivial rfl fun _ => ?_
   refine aR (bK f7 rfl) rfl rfl ?_
   rintro _ ob _ ⟨c4, rfl, g2, _⟩
   let l4 : Fp := [(a3, .cells [(.slice J fi.length O), (iI 0), (iI 0), (iI 0), (iI 0)] none false)]
   have g2 : HS _ _ _ [_, _, l4, aq, [(c4, .cells [(iI 0), (iI 0), (iI 0), (iI 0), (iI 0)] none false)]] _ := g2
   refine aU (aG (q := 4) g2 rfl rfl rfl rfl rfl rfl rfl rfl rfl) rfl ?_
   rintro _ oc _ ⟨em, _⟩
   have em : HS _ _ _ [_, _, _, _, [(c4, .cells [(iI 13), (iI (r : Int)), (iI 0), (iI 0), (iI (r : Int))] none false)]] _ := em
   refine ai 3 rfl ?_
   refine wR 1 [] 41 43 [] [(43, (.bool (decide ((r : Int) < params))))] trivial rfl fun _ => ?_
   refine cT (fun f H' => ∃ (vo : Int) (F' : Fz), Fz.le mE F' ∧ HS (Base.of H []) F' H' [b3, k6, l4, aq, [(c4, .cells [(iI vo), (iI (r : Int)), (iI 0), (iI 0), (iI (r : Int))] none false)]] R ∧ aT f [(0, (.slice a_l l.length k_l)), (1, (iI params)), (4, (.pointer (some ⟨b1, 0, none⟩))), (5, (.pointer (some ⟨b4, 0, none⟩))), (6, (iI (1 + (if (5 : Int) < ((l.length / 6 : Nat) : Int) then (5 : Int) else ((l.length / 6 : Nat) : Int))))), (8, (.pointer (some ⟨a3, 0, none⟩))), (9, (iI (r : Int))), (10, (.pointer (some ⟨c4, 0, none⟩))), (35, (.bool (decide ((r : Int) < 9 + (i : Int))))), (40, l3), (43, (.bool (decide ((r : Int) < params))))] ∧ (vo = 13 ∨ vo = 38 ∧ (r : Int) < params)) (fun ki => ?_) ?_
   ·
    refine am 0 0 (v := (decide ((r : Int) < params))) rfl rfl rfl rfl (fun hX => ?_) (fun hX => ?_)
    ·
     try simp only [BS] at hX
     refine ab ?_
     refine wRo 3 0 [] 44 46 [] [(46, (.agg ⟨[(iI 38), (iI (r : Int)), (iI 0), (iI 0), (iI (r : Int))]⟩))] trivial rfl fun _ => ?_
     refine aU (aG (q := 4) em rfl rfl rfl rfl rfl rfl rfl rfl rfl) rfl ?_
     rintro _ oe _ ⟨g4, _⟩
     have g4 : HS _ _ _ [_, _, _, _, [(c4, .cells [(iI 38), (iI (r : Int)), (iI 0), (iI 0), (iI (r : Int))] none false)]] _ := g4
     refine ai 0 rfl ?_
     exact ki _ _ ⟨38, _, fR, g4, ⟨rfl, rfl, rfl, rfl, rfl, rfl, rfl, rfl, rfl, rfl, rfl, trivial⟩, (by omega)⟩
    ·
     try simp only [BS] at hX
     exact ki _ _ ⟨13, _, fR, em, ⟨rfl, rfl, rfl, rfl, rfl, rfl, rfl, rfl, rfl, rfl, rfl, trivial⟩, (by omega)⟩
   ·
    rintro oI od ⟨vo, n2, h8, g3, ik, hvo⟩
    refine aH _ ik (fun _ => ?_)
    clear ik
    replace a0 := a0.mono h8
    refine ao 1 rfl ?_
    refine ab ?_
    let k4 : Value := (.agg ⟨[(iI vo), (iI (r : Int)), (iI 0), (iI 0), (iI (r : Int)), (.slice none 0 0)]⟩)
    refine wRo 4 0 [(1, .o (.slice J fi.length O)), (2, .o (.agg ⟨[(iI vo), (iI (r : Int)), (iI 0), (iI 0), (iI (r : Int))]⟩))] 47 50 [] [(48, (.slice J fi.length O)), (50, k4)] (vA (ql 40 0 (HS.hc g3 (i := 2) rfl) rfl rfl) (vA (qn 45 0 5 (HS.hc g3 (i := 4) rfl) rfl rfl rfl rfl) trivial)) rfl fun _ => ?_
    refine aR (ct (α := VInT) (ps := [(0, k4)]) (cells := [(iI vo), (iI (r : Int)), (iI 0), (iI 0), (iI (r : Int)), (.slice none 0 0)]) ([(⟨(⟨vo, (r : Int), 0, 0, (r : Int)⟩ : InsT), ([] : List Int)⟩ : VInT)] : List VInT) g3 rfl rfl rfl (by kernel_rfl) ⟨[(iI vo), (iI (r : Int)), (iI 0), (iI 0), (iI (r : Int)), (.slice none 0 0)], [], rfl, ⟨none, 0, rfl, by (dsimp only; omega), by (dsimp only; omega), by (dsimp only; omega), by (dsimp only; omega), by (dsimp only; omega), SR.nil⟩, rfl⟩ rfl) rfl rfl ?_
    rintro _ og mU ⟨oE, oS, rfl, l8, ep, _⟩
    have ep : HS _ _ _ [_, _, _, _, [(c4, .cells [(iI vo), (iI (r : Int)), (iI 0), (iI 0), (iI (r : Int))] none false)], mU] _ := ep
    refine aR (cQ (α := VInT) (q := 3) a0 ep rfl rfl rfl (OS.sv l8 ep (i := 5) rfl) rfl rfl rfl rfl rfl rfl rfl (by (simp only [List.length_cons, List.length_nil]; omega))) rfl rfl ?_
    rintro _ oh l2 ⟨lZ, l1, rfl, l9, g5, _⟩
    have g5 : HS _ _ _ [_, _, _, l2, _, _] _ := g5
    refine wRo 1 6 [] 53 53 [] [(53, (.pointer (some ⟨a3, 0, none⟩)))] trivial rfl fun _ => ?_
    refine aU (aG (q := 2) g5 rfl rfl rfl rfl rfl rfl rfl rfl rfl) rfl ?_
    rintro _ oi _ ⟨g6, _⟩
    have g6 : HS _ _ _ [_, _, [(a3, .cells [(.slice lZ (fi ++ ([(⟨(⟨vo, (r : Int), 0, 0, (r : Int)⟩ : InsT), ([] : List Int)⟩ : VInT)] : List VInT)).length l1), (iI 0), (iI 0), (iI 0), (iI 0)] none false)], _, _, _] _ := g6
    refine ai 2 rfl ?_
    refine wR 1 [] 36 37 [9] [(9, (iI ((r : Int) + 1)))] (vA (vi (n := (r : Int) + 1) (by omega)) trivial) rfl fun _ => ?_
    refine mj _ _ _ ?_ ⟨fi ++ ([(⟨(⟨vo, (r : Int), 0, 0, (r : Int)⟩ : InsT), ([] : List Int)⟩ : VInT)] : List VInT), r + 1, l2, lZ, l1, _, (fT (c6) h8), (HS.sub g6 (List.sublist_append_left _ _)), l9, ⟨rfl, rfl, rfl, rfl, rfl, rfl, rfl, trivial⟩, rfl, (by simp; omega), (by exact er w2 (vin_ldi (by omega) (by omega))), (by exact er w4 (ck_ldi (by (dsimp only; omega)))), (by exact fst_snoc w5 ⟨by rw [w1], by (dsimp only; omega)⟩), (by omega)⟩
    omega
  ·
   try simp only [BS] at hW
   refine ab ?_
   refine wRo 1 0 [] 54 54 [] [(54, (.pointer (some ⟨a3, 1, none⟩)))] trivial rfl fun _ => ?_
   refine aU (aG (q := 2) f7 rfl rfl rfl rfl rfl rfl rfl rfl rfl) rfl ?_
   rintro _ oj _ ⟨g7, _⟩
   have g7 : HS _ _ _ [_, _, [(a3, .cells [(.slice J fi.length O), (iI 1), (iI 0), (iI 0), (iI 0)] none false)], aq] _ := g7
   refine wRo 1 2 [] 55 55 [] [(55, (.pointer (some ⟨a3, 3, none⟩)))] trivial rfl fun _ => ?_
   refine aU (aG (q := 2) g7 rfl rfl rfl rfl rfl rfl rfl rfl rfl) rfl ?_
   rintro _ ol _ ⟨ch, _⟩
   let c0 : Fp := [(a3, .cells [(.slice J fi.length O), (iI 1), (iI 0), (iI 1), (iI 0)] none false)]
   have ch : HS _ _ _ [_, _, c0, _] _ := ch
   refine ai 2 rfl ?_
   refine ab ?_
   let ht : Value := (.agg ⟨[(.slice J fi.length O), (iI 1), (iI 0), (iI 1), (iI 0)]⟩)
   refine wRo 3 0 [(1, .o (.slice none 0 0)), (2, .o ht)] 56 58 [] [(57, (.slice none 0 0)), (58, ht)] (vA (ql 22 2 (HS.hc ch (i := 1) rfl) rfl rfl) (vA (qn 42 0 5 (HS.hc ch (i := 2) rfl) rfl rfl rfl rfl) trivial)) rfl fun _ => ?_
   obtain ⟨hN, f1, g8, mh, nV⟩ := OS.frz a0 ch (i := 3) rfl
   have g8 : HS _ _ _ [_, _, _, []] _ := g8
   refine aR (ct (α := BlkT) (ps := [(0, ht)]) (cells := [(.slice J fi.length O), (iI 1), (iI 0), (iI 1), (iI 0)]) ([(⟨fi, 1, 0, 1, 0⟩ : BlkT)] : List BlkT) g8 rfl rfl rfl (by kernel_rfl) ⟨[(.slice J fi.length O), (iI 1), (iI 0), (iI 1), (iI 0)], [], rfl, ⟨J, O, rfl, by (dsimp only; omega), by (dsimp only; omega), by (dsimp only; omega), by (dsimp only; omega), mh⟩, rfl⟩ rfl) rfl rfl ?_
   rintro _ om e9 ⟨oF, oT, rfl, me, g9, _⟩
   have g9 : HS _ _ _ [_, _, _, _, e9] _ := g9
   have es := HS.snoc g9
   have es : HS _ _ _ [_, _, _, _, _, []] _ := es
   refine aR (cQ (α := BlkT) (q := 5) (OS.nil : OS hN (.slice none 0 0) ([] : List BlkT) []) es rfl rfl rfl (OS.sv me es (i := 4) rfl) rfl rfl rfl rfl rfl rfl rfl (by (simp only [List.length_cons, List.length_nil]; omega))) rfl rfl ?_
   rintro _ oo kz ⟨hQ, kn, rfl, f3, ha, _⟩
   have ha : HS _ _ _ [_, _, _, _, _, kz] _ := ha
   have f3 : OS hN (.slice hQ ([(⟨fi, 1, 0, 1, 0⟩ : BlkT)] : List BlkT).length kn) ([(⟨fi, 1, 0, 1, 0⟩ : BlkT)] : List BlkT) kz := f3
   refine wRo 1 5 [] 61 61 [] [(61, (.pointer (some ⟨b4, 2, none⟩)))] trivial rfl fun _ => ?_
   refine aU (aG (q := 1) ha rfl rfl rfl rfl rfl rfl rfl rfl rfl) rfl ?_
   rintro _ oq _ ⟨he, _⟩
   have he : HS _ _ _ [_, [(b4, .cells [(iI params), (iI (9 + (i : Int))), (.slice hQ ([(⟨fi, 1, 0, 1, 0⟩ : BlkT)] : List BlkT).length kn)] none false)], _, _, _, _] _ := he
   refine ai 3 rfl ?_
   refine wR 2 [] 1 0 [11] [(11, (iI 0))] trivial rfl fun _ => ?_
   refine aC (fun (mm : Nat) f H' => ∃ (bl : List BlkT) (b : Nat) (ag : Fp) (T : Option Addr) (U : Nat) (F' : Fz), Fz.le hN F' ∧ HS (Base.of H []) F' H' [b3, [(b4, .cells [(iI params), (iI (9 + (i : Int))), (.slice T bl.length U)] none false)], c0, [], e9, ag] R ∧ OS F' (.slice T bl.length U) bl ag ∧ aT f [(0, (.slice a_l l.length k_l)), (4, (.pointer (some ⟨b1, 0, none⟩))), (5, (.pointer (some ⟨b4, 0, none⟩))), (6, (iI (1 + (if (5 : Int) < ((l.length / 6 : Nat) : Int) then (5 : Int) else ((l.length / 6 : Nat) : Int))))), (11, (iI (b : Int)))] ∧ mm = ((1 + (if (5 : Int) < ((l.length / 6 : Nat) : Int) then (5 : Int) else ((l.length / 6 : Nat) : Int))) - (b : Int)).toNat ∧ (bl.length = b + 1) ∧ (bl.all (jZ params (9 + (i : Int)) ((1 + (if (5 : Int) < ((l.length / 6 : Nat) : Int) then (5 : Int) else ((l.length / 6 : Nat) : Int))) + 1)) = true) ∧ (∀ y ∈ bl, y.ins.length ≤ 11) ∧ (bl.all (fun y => y.ins.all ckI) = true) ∧ (bl.getD 0 default = ⟨fi, 1, 0, 1, 0⟩) ∧ ((b : Int) ≤ (1 + (if (5 : Int) < ((l.length / 6 : Nat) : Int) then (5 : Int) else ((l.length / 6 : Nat) : Int))))) _ ⟨([(⟨fi, 1, 0, 1, 0⟩ : BlkT)] : List BlkT), 0, kz, hQ, kn, _, fR, he, f3, ⟨rfl, rfl, rfl, rfl, rfl, trivial⟩, rfl, (by rfl), (by exact er (l := []) rfl (blk_mk w2 (by omega))), (by exact ins_snoc (l := []) (by simp) (by (dsimp only; omega))), (by exact er (l := []) rfl w4), (by rfl), (by omega)⟩ ?_
   rintro nY oJ ot ⟨bl, b, ag, T, U, lX, c7, hf, V, il, rfl, e1, e2, e3, e5, e6, e4⟩ mn
   refine aH _ il (fun _ => ?_)
   clear il
   replace hT := (hT.mono f1).mono c7
   replace hl := (hl.mono f1).mono c7
   refine ao 2 rfl ?_
   refine wR 1 [] 62 64 [] [(64, (.bool (decide ((b : Int) < 1 + (if (5 : Int) < ((l.length / 6 : Nat) : Int) then (5 : Int) else ((l.length / 6 : Nat) : Int))))))] trivial rfl fun _ => ?_
   refine am 4 5 (v := (decide ((b : Int) < 1 + (if (5 : Int) < ((l.length / 6 : Nat) : Int) then (5 : Int) else ((l.length / 6 : Nat) : Int))))) rfl rfl rfl rfl (fun h1 => ?_) (fun h1 => ?_)
   ·
    try simp only [BS] at h1
    refine ab ?_
    refine aR (bK hf rfl) rfl rfl ?_
    rintro _ ou _ ⟨I, rfl, hg, _⟩
    let e0 : Fp := [(b4, .cells [(iI params), (iI (9 + (i : Int))), (.slice T bl.length U)] none false)]
    have hg : HS _ _ _ [_, e0, _, _, _, ag, [(I, .cells [(.slice none 0 0), (iI 0), (iI 0), (iI 0), (iI 0)] none false)]] _ := hg
    refine ai 3 rfl ?_
    refine wR 2 [] 1 0 [13] [(13, (iI 0))] trivial rfl fun _ => ?_
    have hh := HS.snoc hg
    have hh : HS _ _ _ [_, _, _, _, _, _, _, []] _ := hh
    refine aC (fun (mm : Nat) f H' => ∃ (xi : List VInT) (k : Nat) (aj : Fp) (z : Option Addr) (A : Nat) (F' : Fz), Fz.le lX F' ∧ HS (Base.of H []) F' H' [b3, e0, c0, [], e9, ag, [(I, .cells [(.slice z xi.length A), (iI 0), (iI 0), (iI 0), (iI 0)] none false)], aj] R ∧ OS F' (.slice z xi.length A) xi aj ∧ aT f [(0, (.slice a_l l.length k_l)), (4, (.pointer (some ⟨b1, 0, none⟩))), (5, (.pointer (some ⟨b4, 0, none⟩))), (6, (iI (1 + (if (5 : Int) < ((l.length / 6 : Nat) : Int) then (5 : Int) else ((l.length / 6 : Nat) : Int))))), (11, (iI (b : Int))), (12, (.pointer (some ⟨I, 0, none⟩))), (13, (iI (k : Int))), (64, (.bool (decide ((b : Int) < 1 + (if (5 : Int) < ((l.length / 6 : Nat) : Int) then (5 : Int) else ((l.length / 6 : Nat) : Int))))))] ∧ mm = 5 - k ∧ (xi.length = k) ∧ (xi.all (eg params (9 + (i : Int))) = true) ∧ (xi.all ckI = true) ∧ (k ≤ 5)) _ ⟨([] : List VInT), 0, [], none, 0, _, fR, hh, (OS.nil : OS lX (.slice none 0 0) ([] : List VInT) []), ⟨rfl, rfl, rfl, rfl, rfl, rfl, rfl, rfl, trivial⟩, rfl, (by rfl), (by rfl), (by rfl), (by omega)⟩ ?_
    rintro nZ oK lY ⟨xi, k, aj, z, A, n3, b9, a1, Z, iv, rfl, z1, z2, z4, z3⟩ mo
    refine aH _ iv (fun _ => ?_)
    clear iv
    replace hT := hT.mono b9
    replace hl := hl.mono b9
    replace V := V.mono b9
    refine ao 2 rfl ?_
    refine wR 1 [] 67 77 [] [(77, (.bool ((decide ((k : Int) < 5)) && (decide ((6 * (b : Int)) + (k : Int) < (l.length : Int))))))] (vA (fun (g1 : (decide ((k : Int) < 5)) = true) => (vi (n := 6 * (b : Int)) (by (try simp only [BS] at g1); (first | omega | (dsimp only; omega))))) (vA (fun (g1 : (decide ((k : Int) < 5)) = true) => (vi (n := (6 * (b : Int)) + (k : Int)) (by (try simp only [BS] at g1); (first | omega | (dsimp only; omega))))) trivial)) rfl fun _ => ?_
    refine am 3 5 (v := ((decide ((k : Int) < 5)) && (decide ((6 * (b : Int)) + (k : Int) < (l.length : Int))))) rfl rfl rfl rfl (fun h2 => ?_) (fun h2 => ?_)
    ·
     try simp only [BS] at h2
     refine aV rfl ?_
     refine wfv (v := (.pointer (some ⟨I, 0, none⟩))) (bQ rfl rfl) ?_
     refine au (v := (.slice z xi.length A)) (id := .l I) (aP (i := 0) rfl rfl (HS.hc a1.log0 (i := 6) rfl) rfl rfl) rfl rfl (bg rfl) (kb rfl) ?_
     refine fm (.slice a_l l.length k_l) rfl rfl rfl ?_
     refine fm (iI (b : Int)) rfl rfl rfl ?_
     refine wfv (v := (iI (6 * (b : Int)))) (ap_mul rfl rfl (w_i64 (n := 6 * (b : Int)) (by omega))) ?_
     refine fm (iI (k : Int)) rfl rfl rfl ?_
     refine wfv (v := (iI ((6 * (b : Int)) + (k : Int)))) (ap_add rfl rfl (w_i64 (n := (6 * (b : Int)) + (k : Int)) (by omega))) ?_
     refine wfv (v := (.pointer (some ⟨sB (.slice a_l l.length k_l), sO (.slice a_l l.length k_l) + ((6 * b) + k) * Rp.sz Int, none⟩))) (aW (α := Int) (j := (6 * (b : Int)) + (k : Int)) rfl rfl rfl rfl (SR.sv hl a1.log0) (by omega) (by omega)) ?_
     obtain ⟨nO, mi, l7⟩ := Sv.at (SR.sv hl a1.log0) (aS (x := (0 : Int)) (show (6 * b) + k < l.length from by omega))
     obtain ⟨rfl, m9⟩ := mi
     refine au (v := (iI (l.getD ((6 * b) + k) 0))) (id := .l (sB (.slice a_l l.length k_l))) (aP (i := 0) rfl rfl l7 rfl rfl) rfl rfl (bg rfl) (kb rfl) ?_
     refine au (v := (.agg ⟨[(iI params), (iI (9 + (i : Int))), (.slice T bl.length U)]⟩)) (id := .l b4) (j0 (i := 0) rfl rfl rfl (HS.hc a1.log0 (i := 1) rfl) rfl rfl rfl) rfl rfl (bg rfl) (kb rfl) ?_
     refine de (W := []) (az rfl rfl rfl) rfl rfl rfl (m4.vi_c ex (l.getD ((6 * b) + k) 0) (⟨params, 9 + (i : Int), bl⟩ : VFnT) (HS.call a1.log0) (by omega) (by (dsimp only; omega)) (by (dsimp only; omega)) hT (by (dsimp only; omega))) (⟨.inl rfl, ⟨.inl rfl, ⟨.inl rfl, ⟨.inl rfl, ⟨.inl rfl, ⟨.inl rfl, ⟨.inl rfl, ⟨.inl rfl, ⟨.inr List.not_mem_nil, ⟨.inr trivial, trivial⟩⟩⟩⟩⟩⟩⟩⟩⟩⟩) ?_
     rintro _ mI ⟨ap, a9, b0, n4, h9, a2, rfl, mz, mA, mB, mC, mD, hL, oO, nU⟩
     refine ⟨Wr.did a2.log, fun mp lr => ?_⟩
     replace a2 := HS.back a1.log0 rfl a2
     replace a2 := HS.lg a2 a1 lr
     generalize ({ mI with log := mp } : Heap) = nI at a2 ⊢
     have a2 : HS _ _ _ [_, _, _, _, _, _, [(I, .cells [(.slice z xi.length A), (iI 0), (iI 0), (iI 0), (iI 0)] none false)], aj] _ := a2
     replace Z := Z.mono h9
     refine dO (id := .a) (ct (α := VInT) (ps := [(0, (.agg ⟨[(iI ap.i.op), (iI ap.i.a), (iI ap.i.b), (iI ap.i.c), (iI ap.i.n), (.slice a9 ap.args.length b0)]⟩))]) (cells := [(iI ap.i.op), (iI ap.i.a), (iI ap.i.b), (iI ap.i.c), (iI ap.i.n), (.slice a9 ap.args.length b0)]) ([ap] : List VInT) a2.log0 rfl rfl rfl (by kernel_rfl) ⟨[(iI ap.i.op), (iI ap.i.a), (iI ap.i.b), (iI ap.i.c), (iI ap.i.n), (.slice a9 ap.args.length b0)], [], rfl, ⟨a9, b0, rfl, by omega, by omega, by omega, by omega, by omega, hL⟩, rfl⟩ rfl) rfl rfl (fun _ _ _ _ => did_a rfl rfl rfl) (kb rfl) ?_
     rintro _ mJ mV ⟨oG, oU, rfl, mg, a4, _⟩ mq lQ
     replace a4 := HS.lg a4 a2 lQ
     generalize ({ mJ with log := mq } : Heap) = nJ at a4 ⊢
     have a4 : HS _ _ _ [_, _, _, _, _, _, _, _, mV] _ := a4
     refine dO (id := .x (aj.map Prod.fst)) (cQ (α := VInT) (q := 7) Z a4.log0 rfl rfl rfl (OS.sv mg a4.log0 (i := 8) rfl) rfl rfl rfl rfl rfl rfl rfl (by (simp only [List.length_cons, List.length_nil]; omega))) rfl rfl (by rintro _ _ k0 ⟨hR, kp, rfl, i2, _, hwr⟩; exact cF rfl rfl (Wr.did hwr)) (kb rfl) ?_
     rintro _ mK k0 ⟨hR, kp, rfl, i2, a8, _⟩ mr lR
     replace a8 := HS.lg a8 a4 lR
     generalize ({ mK with log := mr } : Heap) = nK at a8 ⊢
     have a8 : HS _ _ _ [_, _, _, _, _, _, _, k0, _] _ := a8
     refine wfv (v := (.pointer (some ⟨I, 0, none⟩))) (bQ rfl rfl) ?_
     refine eu (id := .x [I]) (aG (q := 6) a8.log0 rfl rfl rfl rfl rfl rfl rfl rfl rfl) rfl (by rintro _ _ _ ⟨_, hwr⟩; exact cF rfl rfl (Wr.did hwr)) (kb rfl) ?_
     rintro _ mL _ ⟨b2, _⟩ ms lS
     replace b2 := HS.lg b2 a8 lS
     generalize ({ mL with log := ms } : Heap) = nL at b2 ⊢
     have b2 : HS _ _ _ [_, _, _, _, _, _, [(I, .cells [(.slice hR (xi ++ ([ap] : List VInT)).length kp), (iI 0), (iI 0), (iI 0), (iI 0)] none false)], _, _] _ := b2
     refine bZ ?_
     refine ao 2 rfl ?_
     refine wR 1 [] 78 79 [13] [(13, (iI ((k : Int) + 1)))] (vA (vi (n := (k : Int) + 1) (by omega)) trivial) rfl fun _ => ?_
     refine mo _ _ _ ?_ ⟨xi ++ ([ap] : List VInT), k + 1, k0, hR, kp, _, (fT (b9) h9), (HS.sub b2 (List.sublist_append_left _ _)), i2, ⟨rfl, rfl, rfl, rfl, rfl, rfl, rfl, rfl, trivial⟩, rfl, (by simp; omega), (by exact er z2 (by assumption)), (by exact er z4 (by assumption)), (by omega)⟩
     omega
    ·
     try simp only [BS] at h2
     refine wR 3 [] 1 0 [14] [(14, (iI 0))] trivial rfl fun _ => ?_
     refine wR 1 [] 94 99 [] [(99, (.bool (decide ((6 * (b : Int)) + 5 < (l.length : Int)))))] (vA (vi (n := 6 * (b : Int)) (by omega)) (vA (vi (n := (6 * (b : Int)) + 5) (by omega)) trivial)) rfl fun _ => ?_
     refine cT (fun f H' => ∃ (nn : Int), H' = lY ∧ aT f [(0, (.slice a_l l.length k_l)), (4, (.pointer (some ⟨b1, 0, none⟩))), (5, (.pointer (some ⟨b4, 0, none⟩))), (6, (iI (1 + (if (5 : Int) < ((l.length / 6 : Nat) : Int) then (5 : Int) else ((l.length / 6 : Nat) : Int))))), (11, (iI (b : Int))), (12, (.pointer (some ⟨I, 0, none⟩))), (13, (iI (k : Int))), (14, (iI nn)), (64, (.bool (decide ((b : Int) < 1 + (if (5 : Int) < ((l.length / 6 : Nat) : Int) then (5 : Int) else ((l.length / 6 : Nat) : Int)))))), (77, (.bool ((decide ((k : Int) < 5)) && (decide ((6 * (b : Int)) + (k : Int) < (l.length : Int)))))), (99, (.bool (decide ((6 * (b : Int)) + 5 < (l.length : Int)))))] ∧ (in64 nn)) (fun kk => ?_) ?_
     ·
      refine am 0 0 (v := (decide ((6 * (b : Int)) + 5 < (l.length : Int)))) rfl rfl rfl rfl (fun h3 => ?_) (fun h3 => ?_)
      ·
       try simp only [BS] at h3
       obtain ⟨nN, kd⟩ := Sv.view (SR.sv hl a1)
       have oN := fI (kd ((6 * b) + 5))
       refine wR 0 [(5, .o (iI (l.getD ((6 * b) + 5) 0)))] 100 105 [14] [(14, (iI (l.getD ((6 * b) + 5) 0)))] (vA (vi (n := 6 * (b : Int)) (by omega)) (vA (vi (n := (6 * (b : Int)) + 5) (by omega)) (vA (Sv.ix (j := (6 * (b : Int)) + 5) (SR.sv hl a1) (by omega) (by omega)) (vA (ql 3 0 (vI (kd ((6 * b) + 5)) (by omega)) rfl rfl) trivial)))) rfl fun _ => ?_
       exact kk _ _ ⟨(l.getD ((6 * b) + 5) 0), rfl, ⟨rfl, rfl, rfl, rfl, rfl, rfl, rfl, rfl, rfl, rfl, rfl, trivial⟩, (by omega)⟩
      ·
       try simp only [BS] at h3
       exact kk _ _ ⟨0, rfl, ⟨rfl, rfl, rfl, rfl, rfl, rfl, rfl, rfl, rfl, rfl, rfl, trivial⟩, (by omega)⟩
     ·
      rintro oL lY ⟨nn, rfl, iz, hnn⟩
      refine aH _ iz (fun _ => ?_)
      clear iz
      refine ao 2 rfl ?_
      refine ab ?_
      refine wRo 2 0 [] 106 107 [] [(107, (.agg ⟨[(iI nn)]⟩))] trivial rfl fun _ => ?_
      refine aR (cw a1 rfl rfl) rfl rfl ?_
      rintro _ ov _ ⟨ad, rfl, et, _⟩
      have et : HS _ _ _ [_, _, _, _, _, _, [(I, .cells [(.slice z xi.length A), (iI 0), (iI 0), (iI 0), (iI 0)] none false)], aj, [(ad, .cells [(iI nn)] none false)]] _ := et
      refine wa (.pointer (some ⟨ad, 0, none⟩)) rfl rfl rfl ?_
      refine ai 3 rfl ?_
      refine ab ?_
      refine wm (.pointer (some ⟨ad, 0, none⟩)) rfl rfl rfl ?_
      refine aD (az rfl rfl rfl) rfl rfl (m4.dw ex (⟨nn⟩ : DigT) (6) (HS.callOwn et (i := 8) rfl) (by omega) (by omega) hT (by omega)) ?_
      rintro _ ow ⟨a7, b7, mF, c8, ar, rfl, mQ, oP⟩
      replace ar := HS.backOwn et (i := 8) rfl rfl (fun _ hb => hb) ar
      have ar : HS _ _ _ [_, _, _, _, _, _, _, _, [(ad, .cells [(iI b7.n)] none false)]] _ := ar
      replace hT := hT.mono c8
      replace V := V.mono c8
      replace Z := Z.mono c8
      refine ai 3 rfl ?_
      refine wR 1 [] 127 128 [] [(127, (.bool (a7 == 0)))] trivial rfl fun _ => ?_
      refine cT (fun f H' => ∃ (xe : Int) (xg : Int) (xt : Int) (xf : Int) (dd : DigT) (F' : Fz), Fz.le mF F' ∧ HS (Base.of H []) F' H' [b3, e0, c0, [], e9, ag, [(I, .cells [(.slice z xi.length A), (iI xe), (iI xg), (iI xt), (iI xf)] none false)], aj, [(ad, .cells [(iI dd.n)] none false)]] R ∧ aT f [(0, (.slice a_l l.length k_l)), (4, (.pointer (some ⟨b1, 0, none⟩))), (5, (.pointer (some ⟨b4, 0, none⟩))), (6, (iI (1 + (if (5 : Int) < ((l.length / 6 : Nat) : Int) then (5 : Int) else ((l.length / 6 : Nat) : Int))))), (11, (iI (b : Int))), (12, (.pointer (some ⟨I, 0, none⟩))), (13, (iI (k : Int))), (14, (iI nn)), (15, (.pointer (some ⟨ad, 0, none⟩))), (64, (.bool (decide ((b : Int) < 1 + (if (5 : Int) < ((l.length / 6 : Nat) : Int) then (5 : Int) else ((l.length / 6 : Nat) : Int)))))), (77, (.bool ((decide ((k : Int) < 5)) && (decide ((6 * (b : Int)) + (k : Int) < (l.length : Int)))))), (99, (.bool (decide ((6 * (b : Int)) + 5 < (l.length : Int))))), (107, (.agg ⟨[(iI nn)]⟩)), (108, (.pointer (some ⟨ad, 0, none⟩))), (109, (.pointer (some ⟨ad, 0, none⟩))), (110, (iI a7)), (127, (.bool (a7 == 0)))] ∧ ((xe = 1 ∧ 0 ≤ xt ∧ xt < ((1 + (if (5 : Int) < ((l.length / 6 : Nat) : Int) then (5 : Int) else ((l.length / 6 : Nat) : Int)))) + 1 ∧ xf = 0 ∧ xg = 0 ∨ xe = 2 ∧ 0 ≤ xt ∧ xt < ((1 + (if (5 : Int) < ((l.length / 6 : Nat) : Int) then (5 : Int) else ((l.length / 6 : Nat) : Int)))) + 1 ∧ 0 ≤ xf ∧ xf < ((1 + (if (5 : Int) < ((l.length / 6 : Nat) : Int) then (5 : Int) else ((l.length / 6 : Nat) : Int)))) + 1 ∧ 0 ≤ xg ∧ xg < 9 + (i : Int) ∨ xe = 3 ∧ 0 ≤ xg ∧ xg < 9 + (i : Int) ∧ xt = 0 ∧ xf = 0 ∨ xe = 4 ∧ 1 ≤ xt ∧ xt < 33554432 ∧ xf = 0 ∧ xg = 0)) ∧ (in64 dd.n)) (fun ev => ?_) ?_
      ·
       refine am 0 1 (v := (a7 == 0)) rfl rfl rfl rfl (fun h4 => ?_) (fun h4 => ?_)
       ·
        try simp only [BS] at h4
        refine ab ?_
        refine wRo 2 0 [] 129 130 [] [(129, (.pointer (some ⟨ad, 0, none⟩))), (130, (iI (1 + (if (5 : Int) < ((l.length / 6 : Nat) : Int) then (5 : Int) else ((l.length / 6 : Nat) : Int)))))] trivial rfl fun _ => ?_
        refine aD (az rfl rfl rfl) rfl rfl (m4.dw ex (⟨b7.n⟩ : DigT) (1 + (if (5 : Int) < ((l.length / 6 : Nat) : Int) then (5 : Int) else ((l.length / 6 : Nat) : Int))) (HS.callOwn ar (i := 8) rfl) (by omega) (by omega) hT (by omega)) ?_
        rintro _ oy ⟨hI, h6, n5, l5, ci, rfl, mR, oQ⟩
        replace ci := HS.backOwn ar (i := 8) rfl rfl (fun _ hb => hb) ci
        have ci : HS _ _ _ [_, _, _, _, _, _, _, _, [(ad, .cells [(iI h6.n)] none false)]] _ := ci
        refine wRo 2 3 [] 132 133 [] [(132, (iI (1 + hI))), (133, (.pointer (some ⟨I, 1, none⟩)))] (vA (vi (n := 1 + hI) (by omega)) trivial) rfl fun _ => ?_
        refine aU (aG (q := 6) ci rfl rfl rfl rfl rfl rfl rfl rfl rfl) rfl ?_
        rintro _ oz _ ⟨hk, _⟩
        have hk : HS _ _ _ [_, _, _, _, _, _, [(I, .cells [(.slice z xi.length A), (iI 1), (iI 0), (iI 0), (iI 0)] none false)], _, _] _ := hk
        refine wRo 1 6 [] 134 134 [] [(134, (.pointer (some ⟨I, 3, none⟩)))] trivial rfl fun _ => ?_
        refine aU (aG (q := 6) hk rfl rfl rfl rfl rfl rfl rfl rfl rfl) rfl ?_
        rintro _ oA _ ⟨hm, _⟩
        have hm : HS _ _ _ [_, _, _, _, _, _, [(I, .cells [(.slice z xi.length A), (iI 1), (iI 0), (iI (1 + hI)), (iI 0)] none false)], _, _] _ := hm
        refine ai 0 rfl ?_
        exact ev _ _ ⟨1, 0, 1 + hI, 0, (⟨h6.n⟩ : DigT), _, (l5), hm, ⟨rfl, rfl, rfl, rfl, rfl, rfl, rfl, rfl, rfl, rfl, rfl, rfl, rfl, rfl, rfl, rfl, rfl, trivial⟩, (by omega), (by omega)⟩
       ·
        try simp only [BS] at h4
        refine wR 1 [] 135 136 [] [(135, (.bool (a7 == 1)))] trivial rfl fun _ => ?_
        refine am 0 1 (v := (a7 == 1)) rfl rfl rfl rfl (fun h5 => ?_) (fun h5 => ?_)
        ·
         try simp only [BS] at h5
         refine ab ?_
         refine wm (.pointer (some ⟨ad, 0, none⟩)) rfl rfl rfl ?_
         refine aD (az rfl rfl rfl) rfl rfl (m4.dw ex (⟨b7.n⟩ : DigT) (9) (HS.callOwn ar (i := 8) rfl) (by omega) (by omega) hT (by omega)) ?_
         rintro _ oB ⟨hK, h7, n6, l6, co, rfl, mS, oR⟩
         replace co := HS.backOwn ar (i := 8) rfl rfl (fun _ hb => hb) co
         have co : HS _ _ _ [_, _, _, _, _, _, _, _, [(ad, .cells [(iI h7.n)] none false)]] _ := co
         refine wRo 2 2 [] 139 140 [] [(139, (iI (1 + hK))), (140, (.pointer (some ⟨I, 1, none⟩)))] (vA (vi (n := 1 + hK) (by omega)) trivial) rfl fun _ => ?_
         refine aU (aG (q := 6) co rfl rfl rfl rfl rfl rfl rfl rfl rfl) rfl ?_
         rintro _ oC _ ⟨hn, _⟩
         have hn : HS _ _ _ [_, _, _, _, _, _, [(I, .cells [(.slice z xi.length A), (iI 4), (iI 0), (iI 0), (iI 0)] none false)], _, _] _ := hn
         refine wRo 1 5 [] 141 141 [] [(141, (.pointer (some ⟨I, 3, none⟩)))] trivial rfl fun _ => ?_
         refine aU (aG (q := 6) hn rfl rfl rfl rfl rfl rfl rfl rfl rfl) rfl ?_
         rintro _ oD _ ⟨hr, _⟩
         have hr : HS _ _ _ [_, _, _, _, _, _, [(I, .cells [(.slice z xi.length A), (iI 4), (iI 0), (iI (1 + hK)), (iI 0)] none false)], _, _] _ := hr
         refine ai 0 rfl ?_
         exact ev _ _ ⟨4, 0, 1 + hK, 0, (⟨h7.n⟩ : DigT), _, (l6), hr, ⟨rfl, rfl, rfl, rfl, rfl, rfl, rfl, rfl, rfl, rfl, rfl, rfl, rfl, rfl, rfl, rfl, rfl, trivial⟩, (by omega), (by omega)⟩
        ·
         try simp only [BS] at h5
         refine wR 1 [] 142 143 [] [(142, (.bool (a7 == 2)))] trivial rfl fun _ => ?_
         refine am 0 0 (v := (a7 == 2)) rfl rfl rfl rfl (fun fd => ?_) (fun fd => ?_)
         ·
          try simp only [BS] at fd
          refine ab ?_
          refine wRo 3 0 [(2, .o (iI (9 + (i : Int))))] 144 146 [] [(144, (.pointer (some ⟨ad, 0, none⟩))), (146, (iI (9 + (i : Int))))] (vA (ql 3 1 (HS.hc ar (i := 1) rfl) rfl rfl) trivial) rfl fun _ => ?_
          refine aD (az rfl rfl rfl) rfl rfl (m4.dw ex (⟨b7.n⟩ : DigT) (9 + (i : Int)) (HS.callOwn ar (i := 8) rfl) (by omega) (by omega) hT (by omega)) ?_
          rintro _ nq ⟨k3, hv, ng, k8, bb, rfl, mv, nQ⟩
          replace bb := HS.backOwn ar (i := 8) rfl rfl (fun _ hb => hb) bb
          have bb : HS _ _ _ [_, _, _, _, _, _, _, _, [(ad, .cells [(iI hv.n)] none false)]] _ := bb
          refine wRo 1 4 [] 148 148 [] [(148, (.pointer (some ⟨I, 1, none⟩)))] trivial rfl fun _ => ?_
          refine aU (aG (q := 6) bb rfl rfl rfl rfl rfl rfl rfl rfl rfl) rfl ?_
          rintro _ nr _ ⟨c9, _⟩
          have c9 : HS _ _ _ [_, _, _, _, _, _, [(I, .cells [(.slice z xi.length A), (iI 3), (iI 0), (iI 0), (iI 0)] none false)], _, _] _ := c9
          refine wRo 1 6 [] 149 149 [] [(149, (.pointer (some ⟨I, 2, none⟩)))] trivial rfl fun _ => ?_
          refine aU (aG (q := 6) c9 rfl rfl rfl rfl rfl rfl rfl rfl rfl) rfl ?_
          rintro _ ns _ ⟨dk, _⟩
          have dk : HS _ _ _ [_, _, _, _, _, _, [(I, .cells [(.slice z xi.length A), (iI 3), (iI k3), (iI 0), (iI 0)] none false)], _, _] _ := dk
          refine ai 0 rfl ?_
          exact ev _ _ ⟨3, k3, 0, 0, (⟨hv.n⟩ : DigT), _, (k8), dk, ⟨rfl, rfl, rfl, rfl, rfl, rfl, rfl, rfl, rfl, rfl, rfl, rfl, rfl, rfl, rfl, rfl, rfl, trivial⟩, (by omega), (by omega)⟩
         ·
          try simp only [BS] at fd
          refine ab ?_
          refine wRo 3 0 [(2, .o (iI (9 + (i : Int))))] 111 113 [] [(111, (.pointer (some ⟨ad, 0, none⟩))), (113, (iI (9 + (i : Int))))] (vA (ql 3 1 (HS.hc ar (i := 1) rfl) rfl rfl) trivial) rfl fun _ => ?_
          refine aD (az rfl rfl rfl) rfl rfl (m4.dw ex (⟨b7.n⟩ : DigT) (9 + (i : Int)) (HS.callOwn ar (i := 8) rfl) (by omega) (by omega) hT (by omega)) ?_
          rintro _ nt ⟨ey, hw, nh, hB, a5, rfl, mw, nR⟩
          replace a5 := HS.backOwn ar (i := 8) rfl rfl (fun _ hb => hb) a5
          have a5 : HS _ _ _ [_, _, _, _, _, _, _, _, [(ad, .cells [(iI hw.n)] none false)]] _ := a5
          replace hT := hT.mono hB
          refine wRo 2 4 [] 115 116 [] [(115, (.pointer (some ⟨ad, 0, none⟩))), (116, (iI (1 + (if (5 : Int) < ((l.length / 6 : Nat) : Int) then (5 : Int) else ((l.length / 6 : Nat) : Int)))))] trivial rfl fun _ => ?_
          refine aD (az rfl rfl rfl) rfl rfl (m4.dw ex (⟨hw.n⟩ : DigT) (1 + (if (5 : Int) < ((l.length / 6 : Nat) : Int) then (5 : Int) else ((l.length / 6 : Nat) : Int))) (HS.callOwn a5 (i := 8) rfl) (by omega) (by omega) hT (by omega)) ?_
          rintro _ nu ⟨cv, hz, ni, hC, a6, rfl, mx, nS⟩
          replace a6 := HS.backOwn a5 (i := 8) rfl rfl (fun _ hb => hb) a6
          have a6 : HS _ _ _ [_, _, _, _, _, _, _, _, [(ad, .cells [(iI hz.n)] none false)]] _ := a6
          replace hT := hT.mono hC
          refine wRo 3 7 [] 118 120 [] [(118, (iI (1 + cv))), (119, (.pointer (some ⟨ad, 0, none⟩))), (120, (iI (1 + (if (5 : Int) < ((l.length / 6 : Nat) : Int) then (5 : Int) else ((l.length / 6 : Nat) : Int)))))] (vA (vi (n := 1 + cv) (by omega)) trivial) rfl fun _ => ?_
          refine aD (az rfl rfl rfl) rfl rfl (m4.dw ex (⟨hz.n⟩ : DigT) (1 + (if (5 : Int) < ((l.length / 6 : Nat) : Int) then (5 : Int) else ((l.length / 6 : Nat) : Int))) (HS.callOwn a6 (i := 8) rfl) (by omega) (by omega) hT (by omega)) ?_
          rintro _ nv ⟨ez, hA, nj, k9, bj, rfl, my, nT⟩
          replace bj := HS.backOwn a6 (i := 8) rfl rfl (fun _ hb => hb) bj
          have bj : HS _ _ _ [_, _, _, _, _, _, _, _, [(ad, .cells [(iI hA.n)] none false)]] _ := bj
          refine wRo 2 11 [] 122 123 [] [(122, (iI (1 + ez))), (123, (.pointer (some ⟨I, 1, none⟩)))] (vA (vi (n := 1 + ez) (by omega)) trivial) rfl fun _ => ?_
          refine aU (aG (q := 6) bj rfl rfl rfl rfl rfl rfl rfl rfl rfl) rfl ?_
          rintro _ nw _ ⟨dl, _⟩
          have dl : HS _ _ _ [_, _, _, _, _, _, [(I, .cells [(.slice z xi.length A), (iI 2), (iI 0), (iI 0), (iI 0)] none false)], _, _] _ := dl
          refine wRo 1 14 [] 124 124 [] [(124, (.pointer (some ⟨I, 2, none⟩)))] trivial rfl fun _ => ?_
          refine aU (aG (q := 6) dl rfl rfl rfl rfl rfl rfl rfl rfl rfl) rfl ?_
          rintro _ nx _ ⟨dn, _⟩
          have dn : HS _ _ _ [_, _, _, _, _, _, [(I, .cells [(.slice z xi.length A), (iI 2), (iI ey), (iI 0), (iI 0)] none false)], _, _] _ := dn
          refine wRo 1 16 [] 125 125 [] [(125, (.pointer (some ⟨I, 3, none⟩)))] trivial rfl fun _ => ?_
          refine aU (aG (q := 6) dn rfl rfl rfl rfl rfl rfl rfl rfl rfl) rfl ?_
          rintro _ ny _ ⟨ds, _⟩
          have ds : HS _ _ _ [_, _, _, _, _, _, [(I, .cells [(.slice z xi.length A), (iI 2), (iI ey), (iI (1 + cv)), (iI 0)] none false)], _, _] _ := ds
          refine wRo 1 18 [] 126 126 [] [(126, (.pointer (some ⟨I, 4, none⟩)))] trivial rfl fun _ => ?_
          refine aU (aG (q := 6) ds rfl rfl rfl rfl rfl rfl rfl rfl rfl) rfl ?_
          rintro _ nz _ ⟨dt, _⟩
          have dt : HS _ _ _ [_, _, _, _, _, _, [(I, .cells [(.slice z xi.length A), (iI 2), (iI ey), (iI (1 + cv)), (iI (1 + ez))] none false)], _, _] _ := dt
          refine ai 0 rfl ?_
          exact ev _ _ ⟨2, ey, 1 + cv, 1 + ez, (⟨hA.n⟩ : DigT), _, (fT (fT (hB) hC) k9), dt, ⟨rfl, rfl, rfl, rfl, rfl, rfl, rfl, rfl, rfl, rfl, rfl, rfl, rfl, rfl, rfl, rfl, rfl, trivial⟩, (by omega), (by omega)⟩
      ·
       rintro oM ox ⟨xe, xg, xt, xf, dd, mG, f2, hj, i1, hD, hdd⟩
       refine aH _ i1 (fun _ => ?_)
       clear i1
       replace V := V.mono f2
       replace Z := Z.mono f2
       refine ao 4 rfl ?_
       refine wR 1 [(6, .o (iI xe))] 150 158 [] [(158, (.bool (((b : Int) == (1 + (if (5 : Int) < ((l.length / 6 : Nat) : Int) then (5 : Int) else ((l.length / 6 : Nat) : Int))) - 1) && (xe == 1))))] (vA (vi (n := (1 + (if (5 : Int) < ((l.length / 6 : Nat) : Int) then (5 : Int) else ((l.length / 6 : Nat) : Int))) - 1) (by omega)) (vA (fun (g1 : ((b : Int) == (1 + (if (5 : Int) < ((l.length / 6 : Nat) : Int) then (5 : Int) else ((l.length / 6 : Nat) : Int))) - 1) = true) => (ql 3 1 (HS.hc hj (i := 6) rfl) rfl rfl)) trivial)) rfl fun _ => ?_
       refine cT (fun f H' => ∃ (ye : Int) (yg : Int) (yt : Int) (F' : Fz), Fz.le mG F' ∧ HS (Base.of H []) F' H' [b3, e0, c0, [], e9, ag, [(I, .cells [(.slice z xi.length A), (iI ye), (iI yg), (iI yt), (iI xf)] none false)], aj, [(ad, .cells [(iI dd.n)] none false)]] R ∧ aT f [(0, (.slice a_l l.length k_l)), (4, (.pointer (some ⟨b1, 0, none⟩))), (5, (.pointer (some ⟨b4, 0, none⟩))), (6, (iI (1 + (if (5 : Int) < ((l.length / 6 : Nat) : Int) then (5 : Int) else ((l.length / 6 : Nat) : Int))))), (11, (iI (b : Int))), (12, (.pointer (some ⟨I, 0, none⟩))), (13, (iI (k : Int))), (14, (iI nn)), (15, (.pointer (some ⟨ad, 0, none⟩))), (64, (.bool (decide ((b : Int) < 1 + (if (5 : Int) < ((l.length / 6 : Nat) : Int) then (5 : Int) else ((l.length / 6 : Nat) : Int)))))), (77, (.bool ((decide ((k : Int) < 5)) && (decide ((6 * (b : Int)) + (k : Int) < (l.length : Int)))))), (99, (.bool (decide ((6 * (b : Int)) + 5 < (l.length : Int))))), (107, (.agg ⟨[(iI nn)]⟩)), (108, (.pointer (some ⟨ad, 0, none⟩))), (109, (.pointer (some ⟨ad, 0, none⟩))), (110, (iI a7)), (127, (.bool (a7 == 0))), (158, (.bool (((b : Int) == (1 + (if (5 : Int) < ((l.length / 6 : Nat) : Int) then (5 : Int) else ((l.length / 6 : Nat) : Int))) - 1) && (xe == 1))))] ∧ ((ye = 1 ∧ 0 ≤ yt ∧ yt < ((1 + (if (5 : Int) < ((l.length / 6 : Nat) : Int) then (5 : Int) else ((l.length / 6 : Nat) : Int)))) + 1 ∧ xf = 0 ∧ yg = 0 ∨ ye = 2 ∧ 0 ≤ yt ∧ yt < ((1 + (if (5 : Int) < ((l.length / 6 : Nat) : Int) then (5 : Int) else ((l.length / 6 : Nat) : Int)))) + 1 ∧ 0 ≤ xf ∧ xf < ((1 + (if (5 : Int) < ((l.length / 6 : Nat) : Int) then (5 : Int) else ((l.length / 6 : Nat) : Int)))) + 1 ∧ 0 ≤ yg ∧ yg < 9 + (i : Int) ∨ ye = 3 ∧ 0 ≤ yg ∧ yg < 9 + (i : Int) ∧ yt = 0 ∧ xf = 0 ∨ ye = 4 ∧ 1 ≤ yt ∧ yt < 33554432 ∧ xf = 0 ∧ yg = 0))) (fun hH => ?_) ?_
       ·
        refine am 0 0 (v := (((b : Int) == (1 + (if (5 : Int) < ((l.length / 6 : Nat) : Int) then (5 : Int) else ((l.length / 6 : Nat) : Int))) - 1) && (xe == 1))) rfl rfl rfl rfl (fun fj => ?_) (fun fj => ?_)
        ·
         try simp only [BS] at fj
         refine ab ?_
         refine wRo 1 0 [] 159 159 [] [(159, (.pointer (some ⟨I, 1, none⟩)))] trivial rfl fun _ => ?_
         refine aU (aG (q := 6) hj rfl rfl rfl rfl rfl rfl rfl rfl rfl) rfl ?_
         rintro _ nB _ ⟨d1, _⟩
         have d1 : HS _ _ _ [_, _, _, _, _, _, [(I, .cells [(.slice z xi.length A), (iI 3), (iI xg), (iI xt), (iI xf)] none false)], _, [(ad, .cells [(iI dd.n)] none false)]] _ := d1
         refine wRo 1 2 [] 160 160 [] [(160, (.pointer (some ⟨I, 3, none⟩)))] trivial rfl fun _ => ?_
         refine aU (aG (q := 6) d1 rfl rfl rfl rfl rfl rfl rfl rfl rfl) rfl ?_
         rintro _ nC _ ⟨d2, _⟩
         have d2 : HS _ _ _ [_, _, _, _, _, _, [(I, .cells [(.slice z xi.length A), (iI 3), (iI xg), (iI 0), (iI xf)] none false)], _, _] _ := d2
         refine wRo 1 4 [] 161 161 [] [(161, (.pointer (some ⟨I, 2, none⟩)))] trivial rfl fun _ => ?_
         refine aU (aG (q := 6) d2 rfl rfl rfl rfl rfl rfl rfl rfl rfl) rfl ?_
         rintro _ nD _ ⟨ea, _⟩
         have ea : HS _ _ _ [_, _, _, _, _, _, [(I, .cells [(.slice z xi.length A), (iI 3), (iI 0), (iI 0), (iI xf)] none false)], _, _] _ := ea
         refine ai 0 rfl ?_
         exact hH _ _ ⟨3, 0, 0, _, fR, ea, ⟨rfl, rfl, rfl, rfl, rfl, rfl, rfl, rfl, rfl, rfl, rfl, rfl, rfl, rfl, rfl, rfl, rfl, rfl, trivial⟩, (by omega)⟩
        ·
         try simp only [BS] at fj
         exact hH _ _ ⟨xe, xg, xt, _, fR, hj, ⟨rfl, rfl, rfl, rfl, rfl, rfl, rfl, rfl, rfl, rfl, rfl, rfl, rfl, rfl, rfl, rfl, rfl, rfl, trivial⟩, (by omega)⟩
       ·
        rintro nP nA ⟨ye, yg, yt, nk, c5, dv, hG, hY⟩
        refine aH _ hG (fun _ => ?_)
        clear hG
        replace Z := Z.mono c5
        refine ao 1 rfl ?_
        refine ab ?_
        let hu : Value := (.agg ⟨[(.slice z xi.length A), (iI ye), (iI yg), (iI yt), (iI xf)]⟩)
        refine wRo 3 0 [(1, .o (.slice T bl.length U)), (2, .o hu)] 162 164 [] [(163, (.slice T bl.length U)), (164, hu)] (vA (ql 22 2 (HS.hc dv (i := 1) rfl) rfl rfl) (vA (qn 42 0 5 (HS.hc dv (i := 6) rfl) rfl rfl rfl rfl) trivial)) rfl fun _ => ?_
        obtain ⟨nm, hE, eb, lV, na⟩ := OS.frz Z dv (i := 7) rfl
        have eb : HS _ _ _ [_, _, _, _, _, _, [(I, .cells [(.slice z xi.length A), (iI ye), (iI yg), (iI yt), (iI xf)] none false)], [], [(ad, .cells [(iI dd.n)] none false)]] _ := eb
        replace V := (V.mono c5).mono hE
        refine aR (ct (α := BlkT) (ps := [(0, hu)]) (cells := [(.slice z xi.length A), (iI ye), (iI yg), (iI yt), (iI xf)]) ([(⟨xi, ye, yg, yt, xf⟩ : BlkT)] : List BlkT) eb rfl rfl rfl (by kernel_rfl) ⟨[(.slice z xi.length A), (iI ye), (iI yg), (iI yt), (iI xf)], [], rfl, ⟨z, A, rfl, by (dsimp only; omega), by (dsimp only; omega), by (dsimp only; omega), by (dsimp only; omega), lV⟩, rfl⟩ rfl) rfl rfl ?_
        rintro _ nE mu ⟨nM, nW, rfl, lT, b5, _⟩
        have b5 : HS _ _ _ [_, _, _, _, _, _, _, _, _, mu] _ := b5
        refine aR (cQ (α := BlkT) (q := 5) V b5 rfl rfl rfl (OS.sv lT b5 (i := 9) rfl) rfl rfl rfl rfl rfl rfl rfl (by (simp only [List.length_cons, List.length_nil]; omega))) rfl rfl ?_
        rintro _ nF kt ⟨hP, kl, rfl, lU, ec, _⟩
        have ec : HS _ _ _ [_, _, _, _, _, kt, _, _, _, _] _ := ec
        refine wRo 1 5 [] 167 167 [] [(167, (.pointer (some ⟨b4, 2, none⟩)))] trivial rfl fun _ => ?_
        refine aU (aG (q := 1) ec rfl rfl rfl rfl rfl rfl rfl rfl rfl) rfl ?_
        rintro _ nG _ ⟨ei, _⟩
        have ei : HS _ _ _ [_, [(b4, .cells [(iI params), (iI (9 + (i : Int))), (.slice hP (bl ++ ([(⟨xi, ye, yg, yt, xf⟩ : BlkT)] : List BlkT)).length kl)] none false)], _, _, _, _, _, _, _, _] _ := ei
        refine ai 2 rfl ?_
        refine wR 1 [] 65 66 [11] [(11, (iI ((b : Int) + 1)))] (vA (vi (n := (b : Int) + 1) (by omega)) trivial) rfl fun _ => ?_
        refine mn _ _ _ ?_ ⟨bl ++ ([(⟨xi, ye, yg, yt, xf⟩ : BlkT)] : List BlkT), b + 1, kt, hP, kl, _, (fT (fT (fT (fT (fT (c7) b9) c8) f2) c5) hE), (HS.sub ei (List.sublist_append_left _ _)), lU, ⟨rfl, rfl, rfl, rfl, rfl, trivial⟩, rfl, (by simp; omega), (by exact er e2 (blk_mk z2 (by omega))), (by exact ins_snoc e3 (by (dsimp only; omega))), (by exact er e5 z4), (by exact first_snoc e6 (by omega)), (by omega)⟩
        omega
   ·
    try simp only [BS] at h1
    refine ab ?_
    let k5 : Value := (.agg ⟨[(iI params), (iI (9 + (i : Int))), (.slice T bl.length U)]⟩)
    refine wRo 1 0 [(0, .o k5)] 168 168 [] [(168, k5)] (vA (qn 24 0 3 (HS.hc hf (i := 1) rfl) rfl rfl rfl rfl) trivial) rfl fun _ => ?_
    refine aU (aG (q := 0) hf rfl rfl rfl rfl rfl rfl rfl rfl rfl) rfl ?_
    rintro _ nH _ ⟨b6, _⟩
    have b6 : HS _ _ _ [[(b1, .cells [(iI params), (iI (9 + (i : Int))), (.slice T bl.length U)] none false)], [(b4, .cells [(iI params), (iI (9 + (i : Int))), (.slice T bl.length U)] none false)], _, _, _, ag] _ := b6
    refine ai 1 rfl ?_
    obtain ⟨np, la, el, lW, ne⟩ := OS.frz V b6 (i := 5) rfl
    have el : HS _ _ _ [_, _, _, _, _, []] _ := el
    refine ah ⟨.inr rfl, _, (rC rfl (ldVN rfl rfl (HS.hc b6 (i := 0) rfl) rfl) rN), (⟨params, 9 + (i : Int), bl⟩ : VFnT), T, U, _, (fT (fT (fT (fT (hF) c6) f1) c7) la), (HS.forget el), rfl, (by (dsimp only; omega)), (by (dsimp only; omega)), lW, (by exact ⟨val_mk (by omega) (by omega) e2, rfl, by (dsimp only; omega), ⟨by (dsimp only; omega), by (dsimp only; omega)⟩, ins_at e3, e5, fi, e6, by (dsimp only; omega), w5⟩)⟩
end Go.Proofs.YtlabedbmgmfbaaaDoor.m5
