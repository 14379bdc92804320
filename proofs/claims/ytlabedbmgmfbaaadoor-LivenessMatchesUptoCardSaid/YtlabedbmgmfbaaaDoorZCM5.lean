/-
 The generator of virtual code, whole, by a symbolic run: what it makes is valid. No condition but that the table lies as laid.
-/
import Derived.Test.YtlabedbmgmfbaaaDoorZCM4
noncomputable section
namespace Go.Proofs.YtlabedbmgmfbaaaDoor.m5
open Go.R
set_option maxRecDepth 10000
set_option linter.unusedVariables false
open m1 m2 m3 m4
theorem vin_ldi {params regs r op : Int} (hr : 0 ≤ r ∧ r < regs) (ho : op = 13 ∨ op = 38 ∧ r < params) : eu params regs ⟨⟨op, r, 0, 0, r⟩, []⟩ = true := by
 rcases ho with rfl | ⟨rfl, hp⟩
 ·
  exact vin_mk (by decide) (.inr rfl) (by simp) rfl (hJ (by decide) hr) (fB (by decide) rfl) (fB (by decide) rfl) rfl
 ·
  exact vin_mk (by decide) (.inr rfl) (by simp) rfl (hJ (by decide) hr) (fB (by decide) rfl) (fB (by decide) rfl) (decide_eq_true ⟨hr.1, hp⟩)
theorem ec {α : Type} {p : α → Bool} {l : List α} {x : α} (h : l.all p = true) (hx : p x = true) : (l ++ [x]).all p = true := by rw [List.all_append, h]; simp [hx]
theorem blk_mk {params regs nb e g t f : Int} {l : List VInT} (h : l.all (eu params regs) = true) (z : e = 1 ∧ 0 ≤ t ∧ t < nb ∧ f = 0 ∧ g = 0 ∨ e = 2 ∧ 0 ≤ t ∧ t < nb ∧ 0 ≤ f ∧ f < nb ∧ 0 ≤ g ∧ g < regs ∨ e = 3 ∧ 0 ≤ g ∧ g < regs ∧ t = 0 ∧ f = 0 ∨ e = 4 ∧ 1 ≤ t ∧ t < 33554432 ∧ f = 0 ∧ g = 0) : kY params regs nb ⟨l, e, g, t, f⟩ = true := gS h (bL.2 z)
theorem ins_snoc {l : List BlkT} {x : BlkT} (h : ∀ y ∈ l, y.ins.length ≤ 11) (hx : x.ins.length ≤ 11) : ∀ y ∈ l ++ [x], y.ins.length ≤ 11 := fun y hy => by
 rcases List.mem_append.1 hy with hy | hy
 ·
  exact h y hy
 ·
  rw [List.mem_singleton] at hy; rw [hy]; exact hx
theorem ins_at {l : List BlkT} (h : ∀ y ∈ l, y.ins.length ≤ 11) (j : Nat) : (l.getD j default).ins.length ≤ 11 := by
 rw [List.getD_eq_getElem?_getD]
 rcases hj : l[j]? with _ | y
 ·
  exact Nat.zero_le _
 ·
  exact h y (List.mem_of_getElem? hj)
def fstOK (fi : List VInT) : Prop := ∀ q : Nat, q < fi.length → (fi.getD q default).i.a = q ∧ ((fi.getD q default).i.op = 13 ∨ (fi.getD q default).i.op = 38)
theorem fst_snoc {fi : List VInT} {x : VInT} (h : fstOK fi) (hx : x.i.a = (fi.length : Int) ∧ (x.i.op = 13 ∨ x.i.op = 38)) : fstOK (fi ++ [x]) := fun q hq => by
 rw [List.length_append] at hq
 simp only [List.length_cons, List.length_nil] at hq
 rcases Nat.lt_or_ge q fi.length with z | z
 ·
  rw [List.getD_eq_getElem?_getD, List.getElem?_append_left z, ← List.getD_eq_getElem?_getD]; exact h q z
 ·
  have : q = fi.length := by omega
  subst this
  rw [List.getD_eq_getElem?_getD, List.getElem?_append_right (Nat.le_refl _), Nat.sub_self]; exact hx
theorem first_snoc {l : List BlkT} {x y : BlkT} (h : l.getD 0 default = x) (hl : 0 < l.length) : (l ++ [y]).getD 0 default = x := by
 rw [List.getD_eq_getElem?_getD, List.getElem?_append_left hl, ← List.getD_eq_getElem?_getD]; exact h
theorem ck_ldi {v : VInT} (ho : v.i.op = 13 ∨ v.i.op = 38) : ckI v = true := decide_eq_true ⟨fun h => by omega, fun h => by omega⟩
structure vfG (x : VFnT) (params : Int) : Prop where
 val : b8 x = true
 par : x.params = params
 reg : x.regs = 9 + params
 nb : 2 ≤ x.blocks.length ∧ x.blocks.length ≤ 7
 ins : ∀ j, (x.blocks.getD j default).ins.length ≤ 11
 ck : x.blocks.all (fun y => y.ins.all ckI) = true
 fst : ∃ fi, x.blocks.getD 0 default = ⟨fi, 1, 0, 1, 0⟩ ∧ (fi.length : Int) = x.regs ∧ fstOK fi
theorem val_mk {p r : Int} {l : List BlkT} {n : Int} (h : 0 ≤ p ∧ p ≤ 6 ∧ 0 ≤ r ∧ r ≤ 3000 ∧ 1 ≤ l.length ∧ l.length ≤ 1000) (hn : (l.length : Int) = n) (z : l.all (kY p r n) = true) : b8 ⟨p, r, l⟩ = true := by subst hn; exact (val_yes (c := ⟨p, r, l⟩) h z).symm
set_option maxHeartbeats 2000000 in
theorem vf_c (ex : FuncId) {a_l : Option Addr} {k_l : Nat} (l : List Int) (params : Int) {F : Fz} {H : Heap} {R : List Fp} (hs : HS (.of H []) F H [] R) (hl : SR F (.slice a_l l.length k_l) l) (hT : TB 37 tabC F) (hp : 0 ≤ params ∧ params ≤ 2) (hbl : l.length ≤ 1000) : C Tryd.prog 1 (KT 60 ex 37 tabC) 16 [(.slice a_l l.length k_l), (iI params)] H fun v H' => ∃ (x : VFnT) (hX : Option Addr) (kd : Nat) (F' : Fz), Fz.le F F' ∧ HS (.of H []) F' H' [] R ∧ v = .agg ⟨[.int .i64 x.params, .int .i64 x.regs, .slice hX x.blocks.length kd]⟩ ∧ in64 x.params ∧ in64 x.regs ∧ SR F' (.slice hX x.blocks.length kd) x.blocks ∧ (vfG x params) := by
 refine aG Tryd.func16 rfl rfl ?_
 refine aj 1 rfl ?_
 refine aa ?_
 refine aF (bE hs rfl) rfl rfl ?_
 rintro _ H2 _ ⟨b1, rfl, i3, _⟩
 let bz : Fp := [(b1, .cells [(iI 0), (iI 0), (.slice none 0 0)] none false)]
 have i3 : HS _ _ _ [bz] _ := i3
 refine ae 2 rfl ?_
 refine aa ?_
 refine wRo 2 0 [] 16 17 [] [(17, (.agg ⟨[(iI params), (iI 9), (.slice none 0 0)]⟩))] trivial rfl fun _ => ?_
 refine aF (bE i3 rfl) rfl rfl ?_
 rintro _ H5 _ ⟨b4, rfl, ja, _⟩
 have ja : HS _ _ _ [_, [(b4, .cells [(iI 0), (iI 0), (.slice none 0 0)] none false)]] _ := ja
 refine aM (aD (q := 1) ja rfl rfl rfl rfl rfl rfl rfl rfl rfl) rfl ?_
 rintro _ H6 _ ⟨jb, _⟩
 have jb : HS _ _ _ [_, [(b4, .cells [(iI params), (iI 9), (.slice none 0 0)] none false)]] _ := jb
 refine ae 2 rfl ?_
 refine wR 3 [] 18 22 [6] [(6, (iI (1 + (if (5 : Int) < ((l.length / 6 : Nat) : Int) then (5 : Int) else ((l.length / 6 : Nat) : Int)))))] (vA (vA (show (6 : Int) ≠ 0 from by decide) (vi (n := ((l.length / 6 : Nat) : Int)) (by omega))) (vA (vi (n := 1 + (if (5 : Int) < ((l.length / 6 : Nat) : Int) then (5 : Int) else ((l.length / 6 : Nat) : Int))) (by omega)) trivial)) rfl fun _ => ?_
 have hM : 1 ≤ (1 + (if (5 : Int) < ((l.length / 6 : Nat) : Int) then (5 : Int) else ((l.length / 6 : Nat) : Int))) ∧ (1 + (if (5 : Int) < ((l.length / 6 : Nat) : Int) then (5 : Int) else ((l.length / 6 : Nat) : Int))) ≤ 6 := by omega
 refine wR 2 [] 1 0 [7] [(7, (iI 0))] trivial rfl fun _ => ?_
 refine ap (fun (mm : Nat) f H' => ∃ (i : Nat) (F' : Fz), Fz.le F F' ∧ HS (Base.of H []) F' H' [bz, [(b4, .cells [(iI params), (iI (9 + (i : Int))), (.slice none 0 0)] none false)]] R ∧ aI f [(0, (.slice a_l l.length k_l)), (1, (iI params)), (4, (.pointer (some ⟨b1, 0, none⟩))), (5, (.pointer (some ⟨b4, 0, none⟩))), (6, (iI (1 + (if (5 : Int) < ((l.length / 6 : Nat) : Int) then (5 : Int) else ((l.length / 6 : Nat) : Int))))), (7, (iI (i : Int)))] ∧ mm = (params - (i : Int)).toNat ∧ ((i : Int) ≤ params)) _ ⟨0, _, fR, jb, (agC rfl (agC rfl (agC rfl (agC rfl (agC rfl (agC rfl agN)))))), rfl, (by first | assumption | omega | (simp at *; omega))⟩ ?_
 rintro oz f9 H9 ⟨i, F9, hF, jc, lC, rfl, q1⟩ mB
 refine au _ lC (fun _ => ?_)
 clear lC
 replace hT := hT.mono hF
 replace hl := hl.mono hF
 refine aj 2 rfl ?_
 refine wR 1 [] 23 25 [] [(25, (.bool (decide ((i : Int) < params))))] trivial rfl fun _ => ?_
 refine ak 3 5 (v := (decide ((i : Int) < params))) rfl rfl rfl rfl (fun h1 => ?_) (fun h1 => ?_)
 ·
  try simp only [BS] at h1
  refine aa ?_
  refine wRo 4 0 [(1, .o (iI (9 + (i : Int))))] 28 31 [] [(30, (iI ((9 + (i : Int)) + 1))), (31, (.pointer (some ⟨b4, 1, none⟩)))] (vA (ql 3 1 (HS.hc jc (i := 1) rfl) rfl rfl) (vA (vi (n := (9 + (i : Int)) + 1) (by omega)) trivial)) rfl fun _ => ?_
  refine aM (aD (q := 1) jc rfl rfl rfl rfl rfl rfl rfl rfl rfl) rfl ?_
  rintro _ nL _ ⟨f6, _⟩
  have f6 : HS _ _ _ [_, [(b4, .cells [(iI params), (iI ((9 + (i : Int)) + 1)), (.slice none 0 0)] none false)]] _ := f6
  refine ae 2 rfl ?_
  refine wR 1 [] 26 27 [7] [(7, (iI ((i : Int) + 1)))] (vA (vi (n := (i : Int) + 1) (by omega)) trivial) rfl fun _ => ?_
  refine mB _ _ _ ?_ ⟨i + 1, _, (hF), f6, (agC rfl (agC rfl (agC rfl (agC rfl (agC rfl (agC rfl agN)))))), rfl, (by first | assumption | omega | (simp at *; omega))⟩
  omega
 ·
  try simp only [BS] at h1
  refine aa ?_
  refine aF (bE jc rfl) rfl rfl ?_
  rintro _ nM _ ⟨a1, rfl, f7, _⟩
  let kx : Fp := [(b4, .cells [(iI params), (iI (9 + (i : Int))), (.slice none 0 0)] none false)]
  have f7 : HS _ _ _ [_, kx, [(a1, .cells [(.slice none 0 0), (iI 0), (iI 0), (iI 0), (iI 0)] none false)]] _ := f7
  refine ae 3 rfl ?_
  refine wR 2 [] 1 0 [9] [(9, (iI 0))] trivial rfl fun _ => ?_
  have g0 := HS.snoc f7
  have g0 : HS _ _ _ [_, _, _, []] _ := g0
  refine ap (fun (mm : Nat) f H' => ∃ (fi : List VInT) (r : Nat) (ar : Fp) (J : Option Addr) (N : Nat) (F' : Fz), Fz.le F9 F' ∧ HS (Base.of H []) F' H' [bz, kx, [(a1, .cells [(.slice J fi.length N), (iI 0), (iI 0), (iI 0), (iI 0)] none false)], ar] R ∧ OS F' (.slice J fi.length N) fi ar ∧ aI f [(0, (.slice a_l l.length k_l)), (1, (iI params)), (4, (.pointer (some ⟨b1, 0, none⟩))), (5, (.pointer (some ⟨b4, 0, none⟩))), (6, (iI (1 + (if (5 : Int) < ((l.length / 6 : Nat) : Int) then (5 : Int) else ((l.length / 6 : Nat) : Int))))), (8, (.pointer (some ⟨a1, 0, none⟩))), (9, (iI (r : Int)))] ∧ mm = (9 + (i : Int) - (r : Int)).toNat ∧ (fi.length = r) ∧ (fi.all (eu params (9 + (i : Int))) = true) ∧ (fi.all ckI = true) ∧ (fstOK fi) ∧ ((r : Int) ≤ 9 + (i : Int))) _ ⟨([] : List VInT), 0, [], none, 0, _, fR, g0, (OS.nil : OS F9 (.slice none 0 0) ([] : List VInT) []), (agC rfl (agC rfl (agC rfl (agC rfl (agC rfl (agC rfl (agC rfl agN))))))), rfl, (by rfl), (by rfl), (by rfl), (by intro q hq; cases hq), (by first | assumption | omega | (simp at *; omega))⟩ ?_
  rintro nC og nN ⟨fi, r, ar, J, N, l7, c0, go, ax, ik, rfl, w1, w2, w4, w5, w3⟩ lQ
  refine au _ ik (fun _ => ?_)
  clear ik
  replace hT := hT.mono c0
  replace hl := hl.mono c0
  refine aj 2 rfl ?_
  refine wR 1 [(2, .o (iI (9 + (i : Int))))] 32 35 [] [(35, (.bool (decide ((r : Int) < 9 + (i : Int)))))] (vA (ql 3 1 (HS.hc go (i := 1) rfl) rfl rfl) trivial) rfl fun _ => ?_
  refine ak 4 5 (v := (decide ((r : Int) < 9 + (i : Int)))) rfl rfl rfl rfl (fun h2 => ?_) (fun h2 => ?_)
  ·
   try simp only [BS] at h2
   refine aa ?_
   let lF : Value := (.agg ⟨[(iI 13), (iI (r : Int)), (iI 0), (iI 0), (iI (r : Int))]⟩)
   refine wRo 3 0 [] 38 40 [] [(40, lF)] trivial rfl fun _ => ?_
   refine aF (bE go rfl) rfl rfl ?_
   rintro _ nO _ ⟨cl, rfl, g2, _⟩
   let lG : Fp := [(a1, .cells [(.slice J fi.length N), (iI 0), (iI 0), (iI 0), (iI 0)] none false)]
   have g2 : HS _ _ _ [_, _, lG, ar, [(cl, .cells [(iI 0), (iI 0), (iI 0), (iI 0), (iI 0)] none false)]] _ := g2
   refine aM (aD (q := 4) g2 rfl rfl rfl rfl rfl rfl rfl rfl rfl) rfl ?_
   rintro _ nP _ ⟨d4, _⟩
   have d4 : HS _ _ _ [_, _, _, _, [(cl, .cells [(iI 13), (iI (r : Int)), (iI 0), (iI 0), (iI (r : Int))] none false)]] _ := d4
   refine ae 3 rfl ?_
   refine wR 1 [] 41 43 [] [(43, (.bool (decide ((r : Int) < params))))] trivial rfl fun _ => ?_
   refine bP (fun f H' => ∃ (vo : Int) (F' : Fz), Fz.le l7 F' ∧ HS (Base.of H []) F' H' [bz, kx, lG, ar, [(cl, .cells [(iI vo), (iI (r : Int)), (iI 0), (iI 0), (iI (r : Int))] none false)]] R ∧ aI f [(0, (.slice a_l l.length k_l)), (1, (iI params)), (4, (.pointer (some ⟨b1, 0, none⟩))), (5, (.pointer (some ⟨b4, 0, none⟩))), (6, (iI (1 + (if (5 : Int) < ((l.length / 6 : Nat) : Int) then (5 : Int) else ((l.length / 6 : Nat) : Int))))), (8, (.pointer (some ⟨a1, 0, none⟩))), (9, (iI (r : Int))), (10, (.pointer (some ⟨cl, 0, none⟩))), (35, (.bool (decide ((r : Int) < 9 + (i : Int))))), (40, lF), (43, (.bool (decide ((r : Int) < params))))] ∧ (vo = 13 ∨ vo = 38 ∧ (r : Int) < params)) (fun jw => ?_) ?_
   ·
    refine ak 0 0 (v := (decide ((r : Int) < params))) rfl rfl rfl rfl (fun h3 => ?_) (fun h3 => ?_)
    ·
     try simp only [BS] at h3
     refine aa ?_
     refine wRo 3 0 [] 44 46 [] [(46, (.agg ⟨[(iI 38), (iI (r : Int)), (iI 0), (iI 0), (iI (r : Int))]⟩))] trivial rfl fun _ => ?_
     refine aM (aD (q := 4) d4 rfl rfl rfl rfl rfl rfl rfl rfl rfl) rfl ?_
     rintro _ nR _ ⟨g4, _⟩
     have g4 : HS _ _ _ [_, _, _, _, [(cl, .cells [(iI 38), (iI (r : Int)), (iI 0), (iI 0), (iI (r : Int))] none false)]] _ := g4
     refine ae 0 rfl ?_
     exact jw _ _ ⟨38, _, fR, g4, (agC rfl (agC rfl (agC rfl (agC rfl (agC rfl (agC rfl (agC rfl (agC rfl (agC rfl (agC rfl (agC rfl agN))))))))))), (by first | assumption | omega | (simp at *; omega))⟩
    ·
     try simp only [BS] at h3
     exact jw _ _ ⟨13, _, fR, d4, (agC rfl (agC rfl (agC rfl (agC rfl (agC rfl (agC rfl (agC rfl (agC rfl (agC rfl (agC rfl (agC rfl agN))))))))))), (by first | assumption | omega | (simp at *; omega))⟩
   ·
    rintro oh nQ ⟨vo, nG, ih, g3, il, hvo⟩
    refine au _ il (fun _ => ?_)
    clear il
    replace ax := ax.mono ih
    refine aj 1 rfl ?_
    refine aa ?_
    let kr : Value := (.agg ⟨[(iI vo), (iI (r : Int)), (iI 0), (iI 0), (iI (r : Int)), (.slice none 0 0)]⟩)
    refine wRo 4 0 [(1, .o (.slice J fi.length N)), (2, .o (.agg ⟨[(iI vo), (iI (r : Int)), (iI 0), (iI 0), (iI (r : Int))]⟩))] 47 50 [] [(48, (.slice J fi.length N)), (50, kr)] (vA (ql 40 0 (HS.hc g3 (i := 2) rfl) rfl rfl) (vA (qn 45 0 5 (HS.hc g3 (i := 4) rfl) rfl rfl rfl rfl) trivial)) rfl fun _ => ?_
    refine aF (bA (α := VInT) (ps := [(0, kr)]) (cells := [(iI vo), (iI (r : Int)), (iI 0), (iI 0), (iI (r : Int)), (.slice none 0 0)]) ([(⟨(⟨vo, (r : Int), 0, 0, (r : Int)⟩ : InsT), ([] : List Int)⟩ : VInT)] : List VInT) g3 rfl rfl rfl (by kernel_rfl) ⟨[(iI vo), (iI (r : Int)), (iI 0), (iI 0), (iI (r : Int)), (.slice none 0 0)], [], rfl, ⟨none, 0, rfl, by first | omega | (dsimp only; omega), by first | omega | (dsimp only; omega), by first | omega | (dsimp only; omega), by first | omega | (dsimp only; omega), by first | omega | (dsimp only; omega), SR.nil⟩, rfl⟩ rfl) rfl rfl ?_
    rintro _ nS mC ⟨oc, ow, rfl, lK, ea, _⟩
    have ea : HS _ _ _ [_, _, _, _, [(cl, .cells [(iI vo), (iI (r : Int)), (iI 0), (iI 0), (iI (r : Int))] none false)], mC] _ := ea
    refine aF (bW (α := VInT) (q := 3) ax ea rfl rfl rfl (OS.sv lK ea (i := 5) rfl) rfl rfl rfl rfl rfl rfl rfl (by first | omega | (simp only [List.length_append, List.length_cons, List.length_nil]; omega))) rfl rfl ?_
    rintro _ nT lE ⟨lB, lD, rfl, lL, g5, _⟩
    have g5 : HS _ _ _ [_, _, _, lE, _, _] _ := g5
    refine wRo 1 6 [] 53 53 [] [(53, (.pointer (some ⟨a1, 0, none⟩)))] trivial rfl fun _ => ?_
    refine aM (aD (q := 2) g5 rfl rfl rfl rfl rfl rfl rfl rfl rfl) rfl ?_
    rintro _ nU _ ⟨g6, _⟩
    have g6 : HS _ _ _ [_, _, [(a1, .cells [(.slice lB (fi ++ ([(⟨(⟨vo, (r : Int), 0, 0, (r : Int)⟩ : InsT), ([] : List Int)⟩ : VInT)] : List VInT)).length lD), (iI 0), (iI 0), (iI 0), (iI 0)] none false)], _, _, _] _ := g6
    refine ae 2 rfl ?_
    refine wR 1 [] 36 37 [9] [(9, (iI ((r : Int) + 1)))] (vA (vi (n := (r : Int) + 1) (by omega)) trivial) rfl fun _ => ?_
    refine lQ _ _ _ ?_ ⟨fi ++ ([(⟨(⟨vo, (r : Int), 0, 0, (r : Int)⟩ : InsT), ([] : List Int)⟩ : VInT)] : List VInT), r + 1, lE, lB, lD, _, (fT (c0) ih), (HS.sub g6 (List.sublist_append_left _ _)), lL, (agC rfl (agC rfl (agC rfl (agC rfl (agC rfl (agC rfl (agC rfl agN))))))), rfl, (by simp; omega), (by exact ec w2 (vin_ldi (by omega) (by omega))), (by exact ec w4 (ck_ldi (by first | omega | (dsimp only; omega)))), (by exact fst_snoc w5 ⟨by rw [w1], by first | omega | (dsimp only; omega)⟩), (by first | assumption | omega | (simp at *; omega))⟩
    omega
  ·
   try simp only [BS] at h2
   refine aa ?_
   refine wRo 1 0 [] 54 54 [] [(54, (.pointer (some ⟨a1, 1, none⟩)))] trivial rfl fun _ => ?_
   refine aM (aD (q := 2) go rfl rfl rfl rfl rfl rfl rfl rfl rfl) rfl ?_
   rintro _ nV _ ⟨g7, _⟩
   have g7 : HS _ _ _ [_, _, [(a1, .cells [(.slice J fi.length N), (iI 1), (iI 0), (iI 0), (iI 0)] none false)], ar] _ := g7
   refine wRo 1 2 [] 55 55 [] [(55, (.pointer (some ⟨a1, 3, none⟩)))] trivial rfl fun _ => ?_
   refine aM (aD (q := 2) g7 rfl rfl rfl rfl rfl rfl rfl rfl rfl) rfl ?_
   rintro _ nW _ ⟨b6, _⟩
   let ch : Fp := [(a1, .cells [(.slice J fi.length N), (iI 1), (iI 0), (iI 1), (iI 0)] none false)]
   have b6 : HS _ _ _ [_, _, ch, _] _ := b6
   refine ae 2 rfl ?_
   refine aa ?_
   let ht : Value := (.agg ⟨[(.slice J fi.length N), (iI 1), (iI 0), (iI 1), (iI 0)]⟩)
   refine wRo 3 0 [(1, .o (.slice none 0 0)), (2, .o ht)] 56 58 [] [(57, (.slice none 0 0)), (58, ht)] (vA (ql 22 2 (HS.hc b6 (i := 1) rfl) rfl rfl) (vA (qn 42 0 5 (HS.hc b6 (i := 2) rfl) rfl rfl rfl rfl) trivial)) rfl fun _ => ?_
   obtain ⟨hR, f3, g8, lO, nA⟩ := OS.frz ax b6 (i := 3) rfl
   have g8 : HS _ _ _ [_, _, _, []] _ := g8
   refine aF (bA (α := BlkT) (ps := [(0, ht)]) (cells := [(.slice J fi.length N), (iI 1), (iI 0), (iI 1), (iI 0)]) ([(⟨fi, 1, 0, 1, 0⟩ : BlkT)] : List BlkT) g8 rfl rfl rfl (by kernel_rfl) ⟨[(.slice J fi.length N), (iI 1), (iI 0), (iI 1), (iI 0)], [], rfl, ⟨J, N, rfl, by first | omega | (dsimp only; omega), by first | omega | (dsimp only; omega), by first | omega | (dsimp only; omega), by first | omega | (dsimp only; omega), lO⟩, rfl⟩ rfl) rfl rfl ?_
   rintro _ nX f0 ⟨od, ox, rfl, lM, g9, _⟩
   have g9 : HS _ _ _ [_, _, _, _, f0] _ := g9
   have em := HS.snoc g9
   have em : HS _ _ _ [_, _, _, _, _, []] _ := em
   refine aF (bW (α := BlkT) (q := 5) (OS.nil : OS hR (.slice none 0 0) ([] : List BlkT) []) em rfl rfl rfl (OS.sv lM em (i := 4) rfl) rfl rfl rfl rfl rfl rfl rfl (by first | omega | (simp only [List.length_append, List.length_cons, List.length_nil]; omega))) rfl rfl ?_
   rintro _ nY kk ⟨hV, j2, rfl, f5, ha, _⟩
   have ha : HS _ _ _ [_, _, _, _, _, kk] _ := ha
   have f5 : OS hR (.slice hV ([(⟨fi, 1, 0, 1, 0⟩ : BlkT)] : List BlkT).length j2) ([(⟨fi, 1, 0, 1, 0⟩ : BlkT)] : List BlkT) kk := f5
   refine wRo 1 5 [] 61 61 [] [(61, (.pointer (some ⟨b4, 2, none⟩)))] trivial rfl fun _ => ?_
   refine aM (aD (q := 1) ha rfl rfl rfl rfl rfl rfl rfl rfl rfl) rfl ?_
   rintro _ nZ _ ⟨he, _⟩
   have he : HS _ _ _ [_, [(b4, .cells [(iI params), (iI (9 + (i : Int))), (.slice hV ([(⟨fi, 1, 0, 1, 0⟩ : BlkT)] : List BlkT).length j2)] none false)], _, _, _, _] _ := he
   refine ae 3 rfl ?_
   refine wR 2 [] 1 0 [11] [(11, (iI 0))] trivial rfl fun _ => ?_
   refine ap (fun (mm : Nat) f H' => ∃ (bl : List BlkT) (b : Nat) (ad : Fp) (T : Option Addr) (U : Nat) (F' : Fz), Fz.le hR F' ∧ HS (Base.of H []) F' H' [bz, [(b4, .cells [(iI params), (iI (9 + (i : Int))), (.slice T bl.length U)] none false)], ch, [], f0, ad] R ∧ OS F' (.slice T bl.length U) bl ad ∧ aI f [(0, (.slice a_l l.length k_l)), (4, (.pointer (some ⟨b1, 0, none⟩))), (5, (.pointer (some ⟨b4, 0, none⟩))), (6, (iI (1 + (if (5 : Int) < ((l.length / 6 : Nat) : Int) then (5 : Int) else ((l.length / 6 : Nat) : Int))))), (11, (iI (b : Int)))] ∧ mm = ((1 + (if (5 : Int) < ((l.length / 6 : Nat) : Int) then (5 : Int) else ((l.length / 6 : Nat) : Int))) - (b : Int)).toNat ∧ (bl.length = b + 1) ∧ (bl.all (kY params (9 + (i : Int)) ((1 + (if (5 : Int) < ((l.length / 6 : Nat) : Int) then (5 : Int) else ((l.length / 6 : Nat) : Int))) + 1)) = true) ∧ (∀ y ∈ bl, y.ins.length ≤ 11) ∧ (bl.all (fun y => y.ins.all ckI) = true) ∧ (bl.getD 0 default = ⟨fi, 1, 0, 1, 0⟩) ∧ ((b : Int) ≤ (1 + (if (5 : Int) < ((l.length / 6 : Nat) : Int) then (5 : Int) else ((l.length / 6 : Nat) : Int))))) _ ⟨([(⟨fi, 1, 0, 1, 0⟩ : BlkT)] : List BlkT), 0, kk, hV, j2, _, fR, he, f5, (agC rfl (agC rfl (agC rfl (agC rfl (agC rfl agN))))), rfl, (by rfl), (by exact ec (l := []) rfl (blk_mk w2 (by omega))), (by exact ins_snoc (l := []) (by simp) (by first | omega | (dsimp only; omega))), (by exact ec (l := []) rfl w4), (by rfl), (by first | assumption | omega | (simp at *; omega))⟩ ?_
   rintro nD oi n1 ⟨bl, b, ad, T, U, lv, c3, hf, V, it, rfl, e1, e2, e3, e5, e6, e4⟩ lR
   refine au _ it (fun _ => ?_)
   clear it
   replace hT := (hT.mono f3).mono c3
   replace hl := (hl.mono f3).mono c3
   refine aj 2 rfl ?_
   refine wR 1 [] 62 64 [] [(64, (.bool (decide ((b : Int) < 1 + (if (5 : Int) < ((l.length / 6 : Nat) : Int) then (5 : Int) else ((l.length / 6 : Nat) : Int))))))] trivial rfl fun _ => ?_
   refine ak 4 5 (v := (decide ((b : Int) < 1 + (if (5 : Int) < ((l.length / 6 : Nat) : Int) then (5 : Int) else ((l.length / 6 : Nat) : Int))))) rfl rfl rfl rfl (fun h4 => ?_) (fun h4 => ?_)
   ·
    try simp only [BS] at h4
    refine aa ?_
    refine aF (bE hf rfl) rfl rfl ?_
    rintro _ n2 _ ⟨E, rfl, hg, _⟩
    let fd : Fp := [(b4, .cells [(iI params), (iI (9 + (i : Int))), (.slice T bl.length U)] none false)]
    have hg : HS _ _ _ [_, fd, _, _, _, ad, [(E, .cells [(.slice none 0 0), (iI 0), (iI 0), (iI 0), (iI 0)] none false)]] _ := hg
    refine ae 3 rfl ?_
    refine wR 2 [] 1 0 [13] [(13, (iI 0))] trivial rfl fun _ => ?_
    have hh := HS.snoc hg
    have hh : HS _ _ _ [_, _, _, _, _, _, _, []] _ := hh
    refine ap (fun (mm : Nat) f H' => ∃ (xi : List VInT) (k : Nat) (al : Fp) (z : Option Addr) (A : Nat) (F' : Fz), Fz.le lv F' ∧ HS (Base.of H []) F' H' [bz, fd, ch, [], f0, ad, [(E, .cells [(.slice z xi.length A), (iI 0), (iI 0), (iI 0), (iI 0)] none false)], al] R ∧ OS F' (.slice z xi.length A) xi al ∧ aI f [(0, (.slice a_l l.length k_l)), (4, (.pointer (some ⟨b1, 0, none⟩))), (5, (.pointer (some ⟨b4, 0, none⟩))), (6, (iI (1 + (if (5 : Int) < ((l.length / 6 : Nat) : Int) then (5 : Int) else ((l.length / 6 : Nat) : Int))))), (11, (iI (b : Int))), (12, (.pointer (some ⟨E, 0, none⟩))), (13, (iI (k : Int))), (64, (.bool (decide ((b : Int) < 1 + (if (5 : Int) < ((l.length / 6 : Nat) : Int) then (5 : Int) else ((l.length / 6 : Nat) : Int))))))] ∧ mm = 5 - k ∧ (xi.length = k) ∧ (xi.all (eu params (9 + (i : Int))) = true) ∧ (xi.all ckI = true) ∧ (k ≤ 5)) _ ⟨([] : List VInT), 0, [], none, 0, _, fR, hh, (OS.nil : OS lv (.slice none 0 0) ([] : List VInT) []), (agC rfl (agC rfl (agC rfl (agC rfl (agC rfl (agC rfl (agC rfl (agC rfl agN)))))))), rfl, (by rfl), (by rfl), (by rfl), (by first | assumption | omega | (simp at *; omega))⟩ ?_
    rintro nE oj lA ⟨xi, k, al, z, A, nH, b5, ay, Y, iv, rfl, z1, z2, z4, z3⟩ lS
    refine au _ iv (fun _ => ?_)
    clear iv
    replace hT := hT.mono b5
    replace hl := hl.mono b5
    replace V := V.mono b5
    refine aj 2 rfl ?_
    refine wR 1 [] 67 77 [] [(77, (.bool ((decide ((k : Int) < 5)) && (decide ((6 * (b : Int)) + (k : Int) < (l.length : Int))))))] (vA (fun (g1 : (decide ((k : Int) < 5)) = true) => (vi (n := 6 * (b : Int)) (by (try simp only [BS] at g1); (first | omega | (dsimp only; omega))))) (vA (fun (g1 : (decide ((k : Int) < 5)) = true) => (vi (n := (6 * (b : Int)) + (k : Int)) (by (try simp only [BS] at g1); (first | omega | (dsimp only; omega))))) trivial)) rfl fun _ => ?_
    refine ak 3 5 (v := ((decide ((k : Int) < 5)) && (decide ((6 * (b : Int)) + (k : Int) < (l.length : Int))))) rfl rfl rfl rfl (fun h5 => ?_) (fun h5 => ?_)
    ·
     try simp only [BS] at h5
     refine bc rfl ?_
     refine am (v := (.pointer (some ⟨E, 0, none⟩))) (id := .v) (dA rfl rfl) rfl rfl (br rfl) (be _) ?_
     refine am (v := (.slice z xi.length A)) (id := .l E) (bN (i := 0) rfl rfl (HS.hc ay.log0 (i := 6) rfl) rfl rfl) rfl rfl (bT rfl) (⟨.inl rfl, trivial⟩) ?_
     refine fm (.slice a_l l.length k_l) rfl rfl rfl ?_
     refine fm (iI (b : Int)) rfl rfl rfl ?_
     refine am (v := (iI (6 * (b : Int)))) (id := .v) (ap_mul rfl rfl (w_i64 (n := 6 * (b : Int)) (by omega))) rfl rfl (br rfl) (be _) ?_
     refine fm (iI (k : Int)) rfl rfl rfl ?_
     refine am (v := (iI ((6 * (b : Int)) + (k : Int)))) (id := .v) (ap_add rfl rfl (w_i64 (n := (6 * (b : Int)) + (k : Int)) (by omega))) rfl rfl (br rfl) (be _) ?_
     refine am (v := (.pointer (some ⟨sB (.slice a_l l.length k_l), sO (.slice a_l l.length k_l) + ((6 * b) + k) * Rp.sz Int, none⟩))) (id := .v) (bU (α := Int) (j := (6 * (b : Int)) + (k : Int)) rfl rfl rfl rfl (SR.sv hl ay.log0) (by omega) (by omega)) rfl rfl (br rfl) (be _) ?_
     obtain ⟨nt, lP, lJ⟩ := Sv.at (SR.sv hl ay.log0) (aS (x := (0 : Int)) (show (6 * b) + k < l.length from by first | omega | (dsimp only; omega)))
     obtain ⟨rfl, mJ⟩ := lP
     refine am (v := (iI (l.getD ((6 * b) + k) 0))) (id := .l (sB (.slice a_l l.length k_l))) (bN (i := 0) rfl rfl lJ rfl rfl) rfl rfl (bT rfl) (⟨.inl rfl, ⟨.inl rfl, ⟨.inl rfl, ⟨.inl rfl, ⟨.inl rfl, ⟨.inl rfl, ⟨.inr trivial, ⟨.inr trivial, trivial⟩⟩⟩⟩⟩⟩⟩⟩) ?_
     refine am (v := (.agg ⟨[(iI params), (iI (9 + (i : Int))), (.slice T bl.length U)]⟩)) (id := .l b4) (cY (i := 0) rfl rfl rfl (HS.hc ay.log0 (i := 1) rfl) rfl rfl rfl) rfl rfl (bT rfl) (⟨.inr trivial, ⟨.inr trivial, ⟨.inr trivial, ⟨.inr trivial, ⟨.inr trivial, ⟨.inr trivial, ⟨.inr trivial, ⟨.inr trivial, ⟨.inr trivial, trivial⟩⟩⟩⟩⟩⟩⟩⟩⟩) ?_
     refine aX (W := []) (ah rfl rfl rfl) rfl rfl rfl (m4.vi_c ex (l.getD ((6 * b) + k) 0) (⟨params, 9 + (i : Int), bl⟩ : VFnT) (HS.call ay.log0) (by first | omega | (dsimp only; omega)) (by first | omega | (dsimp only; omega)) (by first | omega | (dsimp only; omega)) hT (by first | omega | (dsimp only; omega))) (⟨.inl rfl, ⟨.inl rfl, ⟨.inl rfl, ⟨.inl rfl, ⟨.inl rfl, ⟨.inl rfl, ⟨.inl rfl, ⟨.inl rfl, ⟨.inr List.not_mem_nil, ⟨.inr trivial, trivial⟩⟩⟩⟩⟩⟩⟩⟩⟩⟩) ?_
     rintro _ mn ⟨an, a7, bb, nI, ii, a0, rfl, l2, l3, l4, l5, l6, hQ, oq, nz⟩
     refine ⟨Wr.did a0.log, fun lT k4 => ?_⟩
     replace a0 := HS.back ay.log0 rfl a0
     replace a0 := HS.lg a0 ay k4
     generalize ({ mn with log := lT } : Heap) = nl at a0 ⊢
     have a0 : HS _ _ _ [_, _, _, _, _, _, [(E, .cells [(.slice z xi.length A), (iI 0), (iI 0), (iI 0), (iI 0)] none false)], al] _ := a0
     replace Y := Y.mono ii
     refine dC (id := .a) (bA (α := VInT) (ps := [(0, (.agg ⟨[(iI an.i.op), (iI an.i.a), (iI an.i.b), (iI an.i.c), (iI an.i.n), (.slice a7 an.args.length bb)]⟩))]) (cells := [(iI an.i.op), (iI an.i.a), (iI an.i.b), (iI an.i.c), (iI an.i.n), (.slice a7 an.args.length bb)]) ([an] : List VInT) a0.log0 rfl rfl rfl (by kernel_rfl) ⟨[(iI an.i.op), (iI an.i.a), (iI an.i.b), (iI an.i.c), (iI an.i.n), (.slice a7 an.args.length bb)], [], rfl, ⟨a7, bb, rfl, by first | omega | (dsimp only; omega), by first | omega | (dsimp only; omega), by first | omega | (dsimp only; omega), by first | omega | (dsimp only; omega), by first | omega | (dsimp only; omega), hQ⟩, rfl⟩ rfl) rfl rfl (fun _ _ _ _ => did_a rfl rfl rfl) (⟨.inl rfl, ⟨.inl rfl, ⟨.inl rfl, ⟨.inl rfl, ⟨.inl rfl, ⟨.inl rfl, ⟨.inl rfl, ⟨.inl rfl, ⟨.inl rfl, ⟨.inr trivial, ⟨.inr trivial, trivial⟩⟩⟩⟩⟩⟩⟩⟩⟩⟩⟩) ?_
     rintro _ mp mD ⟨oe, oy, rfl, lN, a2, _⟩ lU k5
     replace a2 := HS.lg a2 a0 k5
     generalize ({ mp with log := lU } : Heap) = nm at a2 ⊢
     have a2 : HS _ _ _ [_, _, _, _, _, _, _, _, mD] _ := a2
     refine dC (id := .x (al.map Prod.fst)) (bW (α := VInT) (q := 7) Y a2.log0 rfl rfl rfl (OS.sv lN a2.log0 (i := 8) rfl) rfl rfl rfl rfl rfl rfl rfl (by first | omega | (simp only [List.length_append, List.length_cons, List.length_nil]; omega))) rfl rfl (by rintro _ _ kl ⟨hW, kc, rfl, i2, _, hwr⟩; exact dP rfl rfl (Wr.did hwr)) (⟨.inl rfl, ⟨.inl rfl, ⟨.inl rfl, ⟨.inl rfl, ⟨.inl rfl, ⟨.inl rfl, ⟨.inl rfl, ⟨.inl rfl, ⟨.inl rfl, ⟨.inl rfl, ⟨.inl rfl, ⟨.inl rfl, trivial⟩⟩⟩⟩⟩⟩⟩⟩⟩⟩⟩⟩) ?_
     rintro _ mq kl ⟨hW, kc, rfl, i2, a6, _⟩ lV k6
     replace a6 := HS.lg a6 a2 k6
     generalize ({ mq with log := lV } : Heap) = np at a6 ⊢
     have a6 : HS _ _ _ [_, _, _, _, _, _, _, kl, _] _ := a6
     refine am (v := (.pointer (some ⟨E, 0, none⟩))) (id := .v) (dA rfl rfl) rfl rfl (br rfl) (be _) ?_
     refine ku (id := .x [E]) (aD (q := 6) a6.log0 rfl rfl rfl rfl rfl rfl rfl rfl rfl) rfl (by rintro _ _ _ ⟨_, hwr⟩; exact dP rfl rfl (Wr.did hwr)) (⟨.inl rfl, ⟨.inl rfl, ⟨.inl rfl, ⟨.inl rfl, ⟨.inl rfl, ⟨.inl rfl, ⟨.inl rfl, ⟨.inl rfl, ⟨.inl rfl, ⟨.inl rfl, ⟨.inl rfl, ⟨.inl rfl, ⟨.inl rfl, ⟨.inl rfl, trivial⟩⟩⟩⟩⟩⟩⟩⟩⟩⟩⟩⟩⟩⟩) ?_
     rintro _ mr _ ⟨bk, _⟩ lW k7
     replace bk := HS.lg bk a6 k7
     generalize ({ mr with log := lW } : Heap) = nq at bk ⊢
     have bk : HS _ _ _ [_, _, _, _, _, _, [(E, .cells [(.slice hW (xi ++ ([an] : List VInT)).length kc), (iI 0), (iI 0), (iI 0), (iI 0)] none false)], _, _] _ := bk
     refine cz ?_
     refine aj 2 rfl ?_
     refine wR 1 [] 78 79 [13] [(13, (iI ((k : Int) + 1)))] (vA (vi (n := (k : Int) + 1) (by omega)) trivial) rfl fun _ => ?_
     refine lS _ _ _ ?_ ⟨xi ++ ([an] : List VInT), k + 1, kl, hW, kc, _, (fT (b5) ii), (HS.sub bk (List.sublist_append_left _ _)), i2, (agC rfl (agC rfl (agC rfl (agC rfl (agC rfl (agC rfl (agC rfl (agC rfl agN)))))))), rfl, (by simp; omega), (by exact ec z2 (by assumption)), (by exact ec z4 (by assumption)), (by first | assumption | omega | (simp at *; omega))⟩
     omega
    ·
     try simp only [BS] at h5
     refine wR 3 [] 1 0 [14] [(14, (iI 0))] trivial rfl fun _ => ?_
     refine wR 1 [] 94 99 [] [(99, (.bool (decide ((6 * (b : Int)) + 5 < (l.length : Int)))))] (vA (vi (n := 6 * (b : Int)) (by omega)) (vA (vi (n := (6 * (b : Int)) + 5) (by omega)) trivial)) rfl fun _ => ?_
     refine bP (fun f H' => ∃ (nn : Int), H' = lA ∧ aI f [(0, (.slice a_l l.length k_l)), (4, (.pointer (some ⟨b1, 0, none⟩))), (5, (.pointer (some ⟨b4, 0, none⟩))), (6, (iI (1 + (if (5 : Int) < ((l.length / 6 : Nat) : Int) then (5 : Int) else ((l.length / 6 : Nat) : Int))))), (11, (iI (b : Int))), (12, (.pointer (some ⟨E, 0, none⟩))), (13, (iI (k : Int))), (14, (iI nn)), (64, (.bool (decide ((b : Int) < 1 + (if (5 : Int) < ((l.length / 6 : Nat) : Int) then (5 : Int) else ((l.length / 6 : Nat) : Int)))))), (77, (.bool ((decide ((k : Int) < 5)) && (decide ((6 * (b : Int)) + (k : Int) < (l.length : Int)))))), (99, (.bool (decide ((6 * (b : Int)) + 5 < (l.length : Int)))))] ∧ (in64 nn)) (fun j0 => ?_) ?_
     ·
      refine ak 0 0 (v := (decide ((6 * (b : Int)) + 5 < (l.length : Int)))) rfl rfl rfl rfl (fun h6 => ?_) (fun h6 => ?_)
      ·
       try simp only [BS] at h6
       obtain ⟨ns, jq⟩ := Sv.view (SR.sv hl ay)
       have oo := fI (jq ((6 * b) + 5))
       refine wR 0 [(5, .o (iI (l.getD ((6 * b) + 5) 0)))] 100 105 [14] [(14, (iI (l.getD ((6 * b) + 5) 0)))] (vA (vi (n := 6 * (b : Int)) (by omega)) (vA (vi (n := (6 * (b : Int)) + 5) (by omega)) (vA (Sv.ix (j := (6 * (b : Int)) + 5) (SR.sv hl ay) (by omega) (by omega)) (vA (ql 3 0 (vI (jq ((6 * b) + 5)) (by omega)) rfl rfl) trivial)))) rfl fun _ => ?_
       exact j0 _ _ ⟨(l.getD ((6 * b) + 5) 0), rfl, (agC rfl (agC rfl (agC rfl (agC rfl (agC rfl (agC rfl (agC rfl (agC rfl (agC rfl (agC rfl (agC rfl agN))))))))))), (by first | assumption | omega | (simp at *; omega))⟩
      ·
       try simp only [BS] at h6
       exact j0 _ _ ⟨0, rfl, (agC rfl (agC rfl (agC rfl (agC rfl (agC rfl (agC rfl (agC rfl (agC rfl (agC rfl (agC rfl (agC rfl agN))))))))))), (by first | assumption | omega | (simp at *; omega))⟩
     ·
      rintro ol lA ⟨nn, rfl, iz, hnn⟩
      refine au _ iz (fun _ => ?_)
      clear iz
      refine aj 2 rfl ?_
      refine aa ?_
      refine wRo 2 0 [] 106 107 [] [(107, (.agg ⟨[(iI nn)]⟩))] trivial rfl fun _ => ?_
      refine aF (bB ay rfl rfl) rfl rfl ?_
      rintro _ n3 _ ⟨Z, rfl, es, _⟩
      have es : HS _ _ _ [_, _, _, _, _, _, [(E, .cells [(.slice z xi.length A), (iI 0), (iI 0), (iI 0), (iI 0)] none false)], al, [(Z, .cells [(iI nn)] none false)]] _ := es
      refine wa (.pointer (some ⟨Z, 0, none⟩)) rfl rfl rfl ?_
      refine ae 3 rfl ?_
      refine aa ?_
      refine wm (.pointer (some ⟨Z, 0, none⟩)) rfl rfl rfl ?_
      refine aA (ah rfl rfl rfl) rfl rfl (m4.cB ex (⟨nn⟩ : DigT) (6) (HS.callOwn es (i := 8) rfl) (by omega) (by omega) hT (by omega)) ?_
      rintro _ n4 ⟨a5, b3, l8, c4, av, rfl, my, ot⟩
      replace av := HS.backOwn es (i := 8) rfl rfl (fun _ hb => hb) av
      have av : HS _ _ _ [_, _, _, _, _, _, _, _, [(Z, .cells [(iI b3.n)] none false)]] _ := av
      replace hT := hT.mono c4
      replace V := V.mono c4
      replace Y := Y.mono c4
      refine ae 3 rfl ?_
      refine wR 1 [] 127 128 [] [(127, (.bool (a5 == 0)))] trivial rfl fun _ => ?_
      refine bP (fun f H' => ∃ (xe : Int) (xg : Int) (xt : Int) (xf : Int) (dd : DigT) (F' : Fz), Fz.le l8 F' ∧ HS (Base.of H []) F' H' [bz, fd, ch, [], f0, ad, [(E, .cells [(.slice z xi.length A), (iI xe), (iI xg), (iI xt), (iI xf)] none false)], al, [(Z, .cells [(iI dd.n)] none false)]] R ∧ aI f [(0, (.slice a_l l.length k_l)), (4, (.pointer (some ⟨b1, 0, none⟩))), (5, (.pointer (some ⟨b4, 0, none⟩))), (6, (iI (1 + (if (5 : Int) < ((l.length / 6 : Nat) : Int) then (5 : Int) else ((l.length / 6 : Nat) : Int))))), (11, (iI (b : Int))), (12, (.pointer (some ⟨E, 0, none⟩))), (13, (iI (k : Int))), (14, (iI nn)), (15, (.pointer (some ⟨Z, 0, none⟩))), (64, (.bool (decide ((b : Int) < 1 + (if (5 : Int) < ((l.length / 6 : Nat) : Int) then (5 : Int) else ((l.length / 6 : Nat) : Int)))))), (77, (.bool ((decide ((k : Int) < 5)) && (decide ((6 * (b : Int)) + (k : Int) < (l.length : Int)))))), (99, (.bool (decide ((6 * (b : Int)) + 5 < (l.length : Int))))), (107, (.agg ⟨[(iI nn)]⟩)), (108, (.pointer (some ⟨Z, 0, none⟩))), (109, (.pointer (some ⟨Z, 0, none⟩))), (110, (iI a5)), (127, (.bool (a5 == 0)))] ∧ ((xe = 1 ∧ 0 ≤ xt ∧ xt < ((1 + (if (5 : Int) < ((l.length / 6 : Nat) : Int) then (5 : Int) else ((l.length / 6 : Nat) : Int)))) + 1 ∧ xf = 0 ∧ xg = 0 ∨ xe = 2 ∧ 0 ≤ xt ∧ xt < ((1 + (if (5 : Int) < ((l.length / 6 : Nat) : Int) then (5 : Int) else ((l.length / 6 : Nat) : Int)))) + 1 ∧ 0 ≤ xf ∧ xf < ((1 + (if (5 : Int) < ((l.length / 6 : Nat) : Int) then (5 : Int) else ((l.length / 6 : Nat) : Int)))) + 1 ∧ 0 ≤ xg ∧ xg < 9 + (i : Int) ∨ xe = 3 ∧ 0 ≤ xg ∧ xg < 9 + (i : Int) ∧ xt = 0 ∧ xf = 0 ∨ xe = 4 ∧ 1 ≤ xt ∧ xt < 33554432 ∧ xf = 0 ∧ xg = 0)) ∧ (in64 dd.n)) (fun et => ?_) ?_
      ·
       refine ak 0 1 (v := (a5 == 0)) rfl rfl rfl rfl (fun h7 => ?_) (fun h7 => ?_)
       ·
        try simp only [BS] at h7
        refine aa ?_
        refine wRo 2 0 [] 129 130 [] [(129, (.pointer (some ⟨Z, 0, none⟩))), (130, (iI (1 + (if (5 : Int) < ((l.length / 6 : Nat) : Int) then (5 : Int) else ((l.length / 6 : Nat) : Int)))))] trivial rfl fun _ => ?_
        refine aA (ah rfl rfl rfl) rfl rfl (m4.cB ex (⟨b3.n⟩ : DigT) (1 + (if (5 : Int) < ((l.length / 6 : Nat) : Int) then (5 : Int) else ((l.length / 6 : Nat) : Int))) (HS.callOwn av (i := 8) rfl) (by omega) (by omega) hT (by omega)) ?_
        rintro _ n6 ⟨hI, h9, nJ, lH, b7, rfl, mz, ou⟩
        replace b7 := HS.backOwn av (i := 8) rfl rfl (fun _ hb => hb) b7
        have b7 : HS _ _ _ [_, _, _, _, _, _, _, _, [(Z, .cells [(iI h9.n)] none false)]] _ := b7
        refine wRo 2 3 [] 132 133 [] [(132, (iI (1 + hI))), (133, (.pointer (some ⟨E, 1, none⟩)))] (vA (vi (n := 1 + hI) (by omega)) trivial) rfl fun _ => ?_
        refine aM (aD (q := 6) b7 rfl rfl rfl rfl rfl rfl rfl rfl rfl) rfl ?_
        rintro _ n7 _ ⟨hk, _⟩
        have hk : HS _ _ _ [_, _, _, _, _, _, [(E, .cells [(.slice z xi.length A), (iI 1), (iI 0), (iI 0), (iI 0)] none false)], _, _] _ := hk
        refine wRo 1 6 [] 134 134 [] [(134, (.pointer (some ⟨E, 3, none⟩)))] trivial rfl fun _ => ?_
        refine aM (aD (q := 6) hk rfl rfl rfl rfl rfl rfl rfl rfl rfl) rfl ?_
        rintro _ n8 _ ⟨hm, _⟩
        have hm : HS _ _ _ [_, _, _, _, _, _, [(E, .cells [(.slice z xi.length A), (iI 1), (iI 0), (iI (1 + hI)), (iI 0)] none false)], _, _] _ := hm
        refine ae 0 rfl ?_
        exact et _ _ ⟨1, 0, 1 + hI, 0, (⟨h9.n⟩ : DigT), _, (lH), hm, (agC rfl (agC rfl (agC rfl (agC rfl (agC rfl (agC rfl (agC rfl (agC rfl (agC rfl (agC rfl (agC rfl (agC rfl (agC rfl (agC rfl (agC rfl (agC rfl (agC rfl agN))))))))))))))))), (by first | assumption | omega | (simp at *; omega)), (by first | assumption | omega | (simp at *; omega))⟩
       ·
        try simp only [BS] at h7
        refine wR 1 [] 135 136 [] [(135, (.bool (a5 == 1)))] trivial rfl fun _ => ?_
        refine ak 0 1 (v := (a5 == 1)) rfl rfl rfl rfl (fun h8 => ?_) (fun h8 => ?_)
        ·
         try simp only [BS] at h8
         refine aa ?_
         refine wm (.pointer (some ⟨Z, 0, none⟩)) rfl rfl rfl ?_
         refine aA (ah rfl rfl rfl) rfl rfl (m4.cB ex (⟨b3.n⟩ : DigT) (9) (HS.callOwn av (i := 8) rfl) (by omega) (by omega) hT (by omega)) ?_
         rintro _ n9 ⟨hK, ib, nK, lI, b9, rfl, mA, ov⟩
         replace b9 := HS.backOwn av (i := 8) rfl rfl (fun _ hb => hb) b9
         have b9 : HS _ _ _ [_, _, _, _, _, _, _, _, [(Z, .cells [(iI ib.n)] none false)]] _ := b9
         refine wRo 2 2 [] 139 140 [] [(139, (iI (1 + hK))), (140, (.pointer (some ⟨E, 1, none⟩)))] (vA (vi (n := 1 + hK) (by omega)) trivial) rfl fun _ => ?_
         refine aM (aD (q := 6) b9 rfl rfl rfl rfl rfl rfl rfl rfl rfl) rfl ?_
         rintro _ oa _ ⟨hn, _⟩
         have hn : HS _ _ _ [_, _, _, _, _, _, [(E, .cells [(.slice z xi.length A), (iI 4), (iI 0), (iI 0), (iI 0)] none false)], _, _] _ := hn
         refine wRo 1 5 [] 141 141 [] [(141, (.pointer (some ⟨E, 3, none⟩)))] trivial rfl fun _ => ?_
         refine aM (aD (q := 6) hn rfl rfl rfl rfl rfl rfl rfl rfl rfl) rfl ?_
         rintro _ ob _ ⟨hr, _⟩
         have hr : HS _ _ _ [_, _, _, _, _, _, [(E, .cells [(.slice z xi.length A), (iI 4), (iI 0), (iI (1 + hK)), (iI 0)] none false)], _, _] _ := hr
         refine ae 0 rfl ?_
         exact et _ _ ⟨4, 0, 1 + hK, 0, (⟨ib.n⟩ : DigT), _, (lI), hr, (agC rfl (agC rfl (agC rfl (agC rfl (agC rfl (agC rfl (agC rfl (agC rfl (agC rfl (agC rfl (agC rfl (agC rfl (agC rfl (agC rfl (agC rfl (agC rfl (agC rfl agN))))))))))))))))), (by first | assumption | omega | (simp at *; omega)), (by first | assumption | omega | (simp at *; omega))⟩
        ·
         try simp only [BS] at h8
         refine wR 1 [] 142 143 [] [(142, (.bool (a5 == 2)))] trivial rfl fun _ => ?_
         refine ak 0 0 (v := (a5 == 2)) rfl rfl rfl rfl (fun f1 => ?_) (fun f1 => ?_)
         ·
          try simp only [BS] at f1
          refine aa ?_
          refine wRo 3 0 [(2, .o (iI (9 + (i : Int))))] 144 146 [] [(144, (.pointer (some ⟨Z, 0, none⟩))), (146, (iI (9 + (i : Int))))] (vA (ql 3 1 (HS.hc av (i := 1) rfl) rfl rfl) trivial) rfl fun _ => ?_
          refine aA (ah rfl rfl rfl) rfl rfl (m4.cB ex (⟨b3.n⟩ : DigT) (9 + (i : Int)) (HS.callOwn av (i := 8) rfl) (by omega) (by omega) hT (by omega)) ?_
          rintro _ mT ⟨kn, hv, mM, kz, a8, rfl, lY, nv⟩
          replace a8 := HS.backOwn av (i := 8) rfl rfl (fun _ hb => hb) a8
          have a8 : HS _ _ _ [_, _, _, _, _, _, _, _, [(Z, .cells [(iI hv.n)] none false)]] _ := a8
          refine wRo 1 4 [] 148 148 [] [(148, (.pointer (some ⟨E, 1, none⟩)))] trivial rfl fun _ => ?_
          refine aM (aD (q := 6) a8 rfl rfl rfl rfl rfl rfl rfl rfl rfl) rfl ?_
          rintro _ mU _ ⟨c5, _⟩
          have c5 : HS _ _ _ [_, _, _, _, _, _, [(E, .cells [(.slice z xi.length A), (iI 3), (iI 0), (iI 0), (iI 0)] none false)], _, _] _ := c5
          refine wRo 1 6 [] 149 149 [] [(149, (.pointer (some ⟨E, 2, none⟩)))] trivial rfl fun _ => ?_
          refine aM (aD (q := 6) c5 rfl rfl rfl rfl rfl rfl rfl rfl rfl) rfl ?_
          rintro _ mV _ ⟨c6, _⟩
          have c6 : HS _ _ _ [_, _, _, _, _, _, [(E, .cells [(.slice z xi.length A), (iI 3), (iI kn), (iI 0), (iI 0)] none false)], _, _] _ := c6
          refine ae 0 rfl ?_
          exact et _ _ ⟨3, kn, 0, 0, (⟨hv.n⟩ : DigT), _, (kz), c6, (agC rfl (agC rfl (agC rfl (agC rfl (agC rfl (agC rfl (agC rfl (agC rfl (agC rfl (agC rfl (agC rfl (agC rfl (agC rfl (agC rfl (agC rfl (agC rfl (agC rfl agN))))))))))))))))), (by first | assumption | omega | (simp at *; omega)), (by first | assumption | omega | (simp at *; omega))⟩
         ·
          try simp only [BS] at f1
          refine aa ?_
          refine wRo 3 0 [(2, .o (iI (9 + (i : Int))))] 111 113 [] [(111, (.pointer (some ⟨Z, 0, none⟩))), (113, (iI (9 + (i : Int))))] (vA (ql 3 1 (HS.hc av (i := 1) rfl) rfl rfl) trivial) rfl fun _ => ?_
          refine aA (ah rfl rfl rfl) rfl rfl (m4.cB ex (⟨b3.n⟩ : DigT) (9 + (i : Int)) (HS.callOwn av (i := 8) rfl) (by omega) (by omega) hT (by omega)) ?_
          rintro _ mW ⟨ez, hw, mN, hB, a3, rfl, lZ, nw⟩
          replace a3 := HS.backOwn av (i := 8) rfl rfl (fun _ hb => hb) a3
          have a3 : HS _ _ _ [_, _, _, _, _, _, _, _, [(Z, .cells [(iI hw.n)] none false)]] _ := a3
          replace hT := hT.mono hB
          refine wRo 2 4 [] 115 116 [] [(115, (.pointer (some ⟨Z, 0, none⟩))), (116, (iI (1 + (if (5 : Int) < ((l.length / 6 : Nat) : Int) then (5 : Int) else ((l.length / 6 : Nat) : Int)))))] trivial rfl fun _ => ?_
          refine aA (ah rfl rfl rfl) rfl rfl (m4.cB ex (⟨hw.n⟩ : DigT) (1 + (if (5 : Int) < ((l.length / 6 : Nat) : Int) then (5 : Int) else ((l.length / 6 : Nat) : Int))) (HS.callOwn a3 (i := 8) rfl) (by omega) (by omega) hT (by omega)) ?_
          rintro _ mX ⟨cc, hz, mO, hC, a4, rfl, l0, nx⟩
          replace a4 := HS.backOwn a3 (i := 8) rfl rfl (fun _ hb => hb) a4
          have a4 : HS _ _ _ [_, _, _, _, _, _, _, _, [(Z, .cells [(iI hz.n)] none false)]] _ := a4
          replace hT := hT.mono hC
          refine wRo 3 7 [] 118 120 [] [(118, (iI (1 + cc))), (119, (.pointer (some ⟨Z, 0, none⟩))), (120, (iI (1 + (if (5 : Int) < ((l.length / 6 : Nat) : Int) then (5 : Int) else ((l.length / 6 : Nat) : Int)))))] (vA (vi (n := 1 + cc) (by omega)) trivial) rfl fun _ => ?_
          refine aA (ah rfl rfl rfl) rfl rfl (m4.cB ex (⟨hz.n⟩ : DigT) (1 + (if (5 : Int) < ((l.length / 6 : Nat) : Int) then (5 : Int) else ((l.length / 6 : Nat) : Int))) (HS.callOwn a4 (i := 8) rfl) (by omega) (by omega) hT (by omega)) ?_
          rintro _ mY ⟨e0, hA, mP, k0, a9, rfl, l1, ny⟩
          replace a9 := HS.backOwn a4 (i := 8) rfl rfl (fun _ hb => hb) a9
          have a9 : HS _ _ _ [_, _, _, _, _, _, _, _, [(Z, .cells [(iI hA.n)] none false)]] _ := a9
          refine wRo 2 11 [] 122 123 [] [(122, (iI (1 + e0))), (123, (.pointer (some ⟨E, 1, none⟩)))] (vA (vi (n := 1 + e0) (by omega)) trivial) rfl fun _ => ?_
          refine aM (aD (q := 6) a9 rfl rfl rfl rfl rfl rfl rfl rfl rfl) rfl ?_
          rintro _ mZ _ ⟨c7, _⟩
          have c7 : HS _ _ _ [_, _, _, _, _, _, [(E, .cells [(.slice z xi.length A), (iI 2), (iI 0), (iI 0), (iI 0)] none false)], _, _] _ := c7
          refine wRo 1 14 [] 124 124 [] [(124, (.pointer (some ⟨E, 2, none⟩)))] trivial rfl fun _ => ?_
          refine aM (aD (q := 6) c7 rfl rfl rfl rfl rfl rfl rfl rfl rfl) rfl ?_
          rintro _ m0 _ ⟨c8, _⟩
          have c8 : HS _ _ _ [_, _, _, _, _, _, [(E, .cells [(.slice z xi.length A), (iI 2), (iI ez), (iI 0), (iI 0)] none false)], _, _] _ := c8
          refine wRo 1 16 [] 125 125 [] [(125, (.pointer (some ⟨E, 3, none⟩)))] trivial rfl fun _ => ?_
          refine aM (aD (q := 6) c8 rfl rfl rfl rfl rfl rfl rfl rfl rfl) rfl ?_
          rintro _ m7 _ ⟨c9, _⟩
          have c9 : HS _ _ _ [_, _, _, _, _, _, [(E, .cells [(.slice z xi.length A), (iI 2), (iI ez), (iI (1 + cc)), (iI 0)] none false)], _, _] _ := c9
          refine wRo 1 18 [] 126 126 [] [(126, (.pointer (some ⟨E, 4, none⟩)))] trivial rfl fun _ => ?_
          refine aM (aD (q := 6) c9 rfl rfl rfl rfl rfl rfl rfl rfl rfl) rfl ?_
          rintro _ m8 _ ⟨dk, _⟩
          have dk : HS _ _ _ [_, _, _, _, _, _, [(E, .cells [(.slice z xi.length A), (iI 2), (iI ez), (iI (1 + cc)), (iI (1 + e0))] none false)], _, _] _ := dk
          refine ae 0 rfl ?_
          exact et _ _ ⟨2, ez, 1 + cc, 1 + e0, (⟨hA.n⟩ : DigT), _, (fT (fT (hB) hC) k0), dk, (agC rfl (agC rfl (agC rfl (agC rfl (agC rfl (agC rfl (agC rfl (agC rfl (agC rfl (agC rfl (agC rfl (agC rfl (agC rfl (agC rfl (agC rfl (agC rfl (agC rfl agN))))))))))))))))), (by first | assumption | omega | (simp at *; omega)), (by first | assumption | omega | (simp at *; omega))⟩
      ·
       rintro om n5 ⟨xe, xg, xt, xf, dd, l9, f4, hj, i1, hD, hdd⟩
       refine au _ i1 (fun _ => ?_)
       clear i1
       replace V := V.mono f4
       replace Y := Y.mono f4
       refine aj 4 rfl ?_
       refine wR 1 [(6, .o (iI xe))] 150 158 [] [(158, (.bool (((b : Int) == (1 + (if (5 : Int) < ((l.length / 6 : Nat) : Int) then (5 : Int) else ((l.length / 6 : Nat) : Int))) - 1) && (xe == 1))))] (vA (vi (n := (1 + (if (5 : Int) < ((l.length / 6 : Nat) : Int) then (5 : Int) else ((l.length / 6 : Nat) : Int))) - 1) (by omega)) (vA (fun (g1 : ((b : Int) == (1 + (if (5 : Int) < ((l.length / 6 : Nat) : Int) then (5 : Int) else ((l.length / 6 : Nat) : Int))) - 1) = true) => (ql 3 1 (HS.hc hj (i := 6) rfl) rfl rfl)) trivial)) rfl fun _ => ?_
       refine bP (fun f H' => ∃ (ye : Int) (yg : Int) (yt : Int) (F' : Fz), Fz.le l9 F' ∧ HS (Base.of H []) F' H' [bz, fd, ch, [], f0, ad, [(E, .cells [(.slice z xi.length A), (iI ye), (iI yg), (iI yt), (iI xf)] none false)], al, [(Z, .cells [(iI dd.n)] none false)]] R ∧ aI f [(0, (.slice a_l l.length k_l)), (4, (.pointer (some ⟨b1, 0, none⟩))), (5, (.pointer (some ⟨b4, 0, none⟩))), (6, (iI (1 + (if (5 : Int) < ((l.length / 6 : Nat) : Int) then (5 : Int) else ((l.length / 6 : Nat) : Int))))), (11, (iI (b : Int))), (12, (.pointer (some ⟨E, 0, none⟩))), (13, (iI (k : Int))), (14, (iI nn)), (15, (.pointer (some ⟨Z, 0, none⟩))), (64, (.bool (decide ((b : Int) < 1 + (if (5 : Int) < ((l.length / 6 : Nat) : Int) then (5 : Int) else ((l.length / 6 : Nat) : Int)))))), (77, (.bool ((decide ((k : Int) < 5)) && (decide ((6 * (b : Int)) + (k : Int) < (l.length : Int)))))), (99, (.bool (decide ((6 * (b : Int)) + 5 < (l.length : Int))))), (107, (.agg ⟨[(iI nn)]⟩)), (108, (.pointer (some ⟨Z, 0, none⟩))), (109, (.pointer (some ⟨Z, 0, none⟩))), (110, (iI a5)), (127, (.bool (a5 == 0))), (158, (.bool (((b : Int) == (1 + (if (5 : Int) < ((l.length / 6 : Nat) : Int) then (5 : Int) else ((l.length / 6 : Nat) : Int))) - 1) && (xe == 1))))] ∧ ((ye = 1 ∧ 0 ≤ yt ∧ yt < ((1 + (if (5 : Int) < ((l.length / 6 : Nat) : Int) then (5 : Int) else ((l.length / 6 : Nat) : Int)))) + 1 ∧ xf = 0 ∧ yg = 0 ∨ ye = 2 ∧ 0 ≤ yt ∧ yt < ((1 + (if (5 : Int) < ((l.length / 6 : Nat) : Int) then (5 : Int) else ((l.length / 6 : Nat) : Int)))) + 1 ∧ 0 ≤ xf ∧ xf < ((1 + (if (5 : Int) < ((l.length / 6 : Nat) : Int) then (5 : Int) else ((l.length / 6 : Nat) : Int)))) + 1 ∧ 0 ≤ yg ∧ yg < 9 + (i : Int) ∨ ye = 3 ∧ 0 ≤ yg ∧ yg < 9 + (i : Int) ∧ yt = 0 ∧ xf = 0 ∨ ye = 4 ∧ 1 ≤ yt ∧ yt < 33554432 ∧ xf = 0 ∧ yg = 0))) (fun hH => ?_) ?_
       ·
        refine ak 0 0 (v := (((b : Int) == (1 + (if (5 : Int) < ((l.length / 6 : Nat) : Int) then (5 : Int) else ((l.length / 6 : Nat) : Int))) - 1) && (xe == 1))) rfl rfl rfl rfl (fun f2 => ?_) (fun f2 => ?_)
        ·
         try simp only [BS] at f2
         refine aa ?_
         refine wRo 1 0 [] 159 159 [] [(159, (.pointer (some ⟨E, 1, none⟩)))] trivial rfl fun _ => ?_
         refine aM (aD (q := 6) hj rfl rfl rfl rfl rfl rfl rfl rfl rfl) rfl ?_
         rintro _ nc _ ⟨dn, _⟩
         have dn : HS _ _ _ [_, _, _, _, _, _, [(E, .cells [(.slice z xi.length A), (iI 3), (iI xg), (iI xt), (iI xf)] none false)], _, [(Z, .cells [(iI dd.n)] none false)]] _ := dn
         refine wRo 1 2 [] 160 160 [] [(160, (.pointer (some ⟨E, 3, none⟩)))] trivial rfl fun _ => ?_
         refine aM (aD (q := 6) dn rfl rfl rfl rfl rfl rfl rfl rfl rfl) rfl ?_
         rintro _ ne _ ⟨ds, _⟩
         have ds : HS _ _ _ [_, _, _, _, _, _, [(E, .cells [(.slice z xi.length A), (iI 3), (iI xg), (iI 0), (iI xf)] none false)], _, _] _ := ds
         refine wRo 1 4 [] 161 161 [] [(161, (.pointer (some ⟨E, 2, none⟩)))] trivial rfl fun _ => ?_
         refine aM (aD (q := 6) ds rfl rfl rfl rfl rfl rfl rfl rfl rfl) rfl ?_
         rintro _ ng _ ⟨dt, _⟩
         have dt : HS _ _ _ [_, _, _, _, _, _, [(E, .cells [(.slice z xi.length A), (iI 3), (iI 0), (iI 0), (iI xf)] none false)], _, _] _ := dt
         refine ae 0 rfl ?_
         exact hH _ _ ⟨3, 0, 0, _, fR, dt, (agC rfl (agC rfl (agC rfl (agC rfl (agC rfl (agC rfl (agC rfl (agC rfl (agC rfl (agC rfl (agC rfl (agC rfl (agC rfl (agC rfl (agC rfl (agC rfl (agC rfl (agC rfl agN)))))))))))))))))), (by first | assumption | omega | (simp at *; omega))⟩
        ·
         try simp only [BS] at f2
         exact hH _ _ ⟨xe, xg, xt, _, fR, hj, (agC rfl (agC rfl (agC rfl (agC rfl (agC rfl (agC rfl (agC rfl (agC rfl (agC rfl (agC rfl (agC rfl (agC rfl (agC rfl (agC rfl (agC rfl (agC rfl (agC rfl (agC rfl agN)))))))))))))))))), (by first | assumption | omega | (simp at *; omega))⟩
       ·
        rintro nu na ⟨ye, yg, yt, mQ, co, dl, hG, hY⟩
        refine au _ hG (fun _ => ?_)
        clear hG
        replace Y := Y.mono co
        refine aj 1 rfl ?_
        refine aa ?_
        let hu : Value := (.agg ⟨[(.slice z xi.length A), (iI ye), (iI yg), (iI yt), (iI xf)]⟩)
        refine wRo 3 0 [(1, .o (.slice T bl.length U)), (2, .o hu)] 162 164 [] [(163, (.slice T bl.length U)), (164, hu)] (vA (ql 22 2 (HS.hc dl (i := 1) rfl) rfl rfl) (vA (qn 42 0 5 (HS.hc dl (i := 6) rfl) rfl rfl rfl rfl) trivial)) rfl fun _ => ?_
        obtain ⟨mR, hE, dv, la, mK⟩ := OS.frz Y dl (i := 7) rfl
        have dv : HS _ _ _ [_, _, _, _, _, _, [(E, .cells [(.slice z xi.length A), (iI ye), (iI yg), (iI yt), (iI xf)] none false)], [], [(Z, .cells [(iI dd.n)] none false)]] _ := dv
        replace V := (V.mono co).mono hE
        refine aF (bA (α := BlkT) (ps := [(0, hu)]) (cells := [(.slice z xi.length A), (iI ye), (iI yg), (iI yt), (iI xf)]) ([(⟨xi, ye, yg, yt, xf⟩ : BlkT)] : List BlkT) dv rfl rfl rfl (by kernel_rfl) ⟨[(.slice z xi.length A), (iI ye), (iI yg), (iI yt), (iI xf)], [], rfl, ⟨z, A, rfl, by first | omega | (dsimp only; omega), by first | omega | (dsimp only; omega), by first | omega | (dsimp only; omega), by first | omega | (dsimp only; omega), la⟩, rfl⟩ rfl) rfl rfl ?_
        rintro _ nh lX ⟨nr, nB, rfl, k8, b0, _⟩
        have b0 : HS _ _ _ [_, _, _, _, _, _, _, _, _, lX] _ := b0
        refine aF (bW (α := BlkT) (q := 5) V b0 rfl rfl rfl (OS.sv k8 b0 (i := 9) rfl) rfl rfl rfl rfl rfl rfl rfl (by first | omega | (simp only [List.length_append, List.length_cons, List.length_nil]; omega))) rfl rfl ?_
        rintro _ ni ki ⟨hS, j1, rfl, k9, d1, _⟩
        have d1 : HS _ _ _ [_, _, _, _, _, ki, _, _, _, _] _ := d1
        refine wRo 1 5 [] 167 167 [] [(167, (.pointer (some ⟨b4, 2, none⟩)))] trivial rfl fun _ => ?_
        refine aM (aD (q := 1) d1 rfl rfl rfl rfl rfl rfl rfl rfl rfl) rfl ?_
        rintro _ nj _ ⟨d2, _⟩
        have d2 : HS _ _ _ [_, [(b4, .cells [(iI params), (iI (9 + (i : Int))), (.slice hS (bl ++ ([(⟨xi, ye, yg, yt, xf⟩ : BlkT)] : List BlkT)).length j1)] none false)], _, _, _, _, _, _, _, _] _ := d2
        refine ae 2 rfl ?_
        refine wR 1 [] 65 66 [11] [(11, (iI ((b : Int) + 1)))] (vA (vi (n := (b : Int) + 1) (by omega)) trivial) rfl fun _ => ?_
        refine lR _ _ _ ?_ ⟨bl ++ ([(⟨xi, ye, yg, yt, xf⟩ : BlkT)] : List BlkT), b + 1, ki, hS, j1, _, (fT (fT (fT (fT (fT (c3) b5) c4) f4) co) hE), (HS.sub d2 (List.sublist_append_left _ _)), k9, (agC rfl (agC rfl (agC rfl (agC rfl (agC rfl agN))))), rfl, (by simp; omega), (by exact ec e2 (blk_mk z2 (by omega))), (by exact ins_snoc e3 (by first | omega | (dsimp only; omega))), (by exact ec e5 z4), (by exact first_snoc e6 (by omega)), (by first | assumption | omega | (simp at *; omega))⟩
        omega
   ·
    try simp only [BS] at h4
    refine aa ?_
    let kt : Value := (.agg ⟨[(iI params), (iI (9 + (i : Int))), (.slice T bl.length U)]⟩)
    refine wRo 1 0 [(0, .o kt)] 168 168 [] [(168, kt)] (vA (qn 24 0 3 (HS.hc hf (i := 1) rfl) rfl rfl rfl rfl) trivial) rfl fun _ => ?_
    refine aM (aD (q := 0) hf rfl rfl rfl rfl rfl rfl rfl rfl rfl) rfl ?_
    rintro _ nk _ ⟨b2, _⟩
    have b2 : HS _ _ _ [[(b1, .cells [(iI params), (iI (9 + (i : Int))), (.slice T bl.length U)] none false)], [(b4, .cells [(iI params), (iI (9 + (i : Int))), (.slice T bl.length U)] none false)], _, _, _, ad] _ := b2
    refine ae 1 rfl ?_
    obtain ⟨mS, k3, d3, lr, mL⟩ := OS.frz V b2 (i := 5) rfl
    have d3 : HS _ _ _ [_, _, _, _, _, []] _ := d3
    refine ag ⟨.inr rfl, _, (rC rfl (ldVN rfl rfl (HS.hc b2 (i := 0) rfl) rfl) rN), (⟨params, 9 + (i : Int), bl⟩ : VFnT), T, U, _, (fT (fT (fT (fT (hF) c0) f3) c3) k3), (HS.forget d3), rfl, (by first | omega | (dsimp only; omega)), (by first | omega | (dsimp only; omega)), lr, (by exact ⟨val_mk (by omega) (by omega) e2, rfl, by first | omega | (dsimp only; omega), ⟨by first | omega | (dsimp only; omega), by first | omega | (dsimp only; omega)⟩, ins_at e3, e5, fi, e6, by first | omega | (dsimp only; omega), w5⟩)⟩
end Go.Proofs.YtlabedbmgmfbaaaDoor.m5
