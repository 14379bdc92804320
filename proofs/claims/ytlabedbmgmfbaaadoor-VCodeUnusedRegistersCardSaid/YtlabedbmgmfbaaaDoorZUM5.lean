/-
 The generator of virtual code, whole, by a symbolic run: what it makes is valid. No condition but that the table lies as laid.
-/
import Derived.Test.YtlabedbmgmfbaaaDoorZUM4
noncomputable section
namespace Go.Proofs.YtlabedbmgmfbaaaDoor.m5
open Go.R
set_option maxRecDepth 10000
set_option linter.unusedVariables false
open m1 m2 m3 m4
theorem vin_ldi {params regs r op : Int} (hr : 0 ≤ r ∧ r < regs) (ho : op = 13 ∨ op = 38 ∧ r < params) : fg params regs ⟨⟨op, r, 0, 0, r⟩, []⟩ = true := by
 rcases ho with rfl | ⟨rfl, hp⟩
 ·
  exact vin_mk (by decide) (.inr rfl) (by simp) rfl (gv (by decide) hr) (e8 (by decide) rfl) (e8 (by decide) rfl) rfl
 ·
  exact vin_mk (by decide) (.inr rfl) (by simp) rfl (gv (by decide) hr) (e8 (by decide) rfl) (e8 (by decide) rfl) (decide_eq_true ⟨hr.1, hp⟩)
theorem dU {α : Type} {p : α → Bool} {l : List α} {x : α} (h : l.all p = true) (hx : p x = true) : (l ++ [x]).all p = true := by rw [List.all_append, h]; simp [hx]
theorem blk_mk {params regs nb e g t f : Int} {l : List VInT} (h : l.all (fg params regs) = true) (z : e = 1 ∧ 0 ≤ t ∧ t < nb ∧ f = 0 ∧ g = 0 ∨ e = 2 ∧ 0 ≤ t ∧ t < nb ∧ 0 ≤ f ∧ f < nb ∧ 0 ≤ g ∧ g < regs ∨ e = 3 ∧ 0 ≤ g ∧ g < regs ∧ t = 0 ∧ f = 0 ∨ e = 4 ∧ 1 ≤ t ∧ t < 33554432 ∧ f = 0 ∧ g = 0) : j0 params regs nb ⟨l, e, g, t, f⟩ = true := iO h (cj.2 z)
theorem ins_snoc {l : List BlkT} {x : BlkT} (h : ∀ y ∈ l, y.ins.length ≤ 11) (hx : x.ins.length ≤ 11) : ∀ y ∈ l ++ [x], y.ins.length ≤ 11 := fun y hy => by
 rcases List.mem_append.1 hy with hy | hy
 ·
  exact h y hy
 ·
  rw [List.mem_singleton] at hy; rw [hy]; exact hx
theorem ins_at {l : List BlkT} (h : ∀ y ∈ l, y.ins.length ≤ 11) (j : Nat) : (l.getD j default).ins.length ≤ 11 := by
 rw [List.getD_eq_getElem?_getD]
 rcases hj : l[j]? with _ | y
 ·
  exact Nat.zero_le _
 ·
  exact h y (List.mem_of_getElem? hj)
def fstOK (fi : List VInT) : Prop := ∀ q : Nat, q < fi.length → (fi.getD q default).i.a = q ∧ ((fi.getD q default).i.op = 13 ∨ (fi.getD q default).i.op = 38)
theorem fst_snoc {fi : List VInT} {x : VInT} (h : fstOK fi) (hx : x.i.a = (fi.length : Int) ∧ (x.i.op = 13 ∨ x.i.op = 38)) : fstOK (fi ++ [x]) := fun q hq => by
 rw [List.length_append] at hq
 simp only [List.length_cons, List.length_nil] at hq
 rcases Nat.lt_or_ge q fi.length with z | z
 ·
  rw [List.getD_eq_getElem?_getD, List.getElem?_append_left z, ← List.getD_eq_getElem?_getD]; exact h q z
 ·
  have : q = fi.length := by omega
  subst this
  rw [List.getD_eq_getElem?_getD, List.getElem?_append_right (Nat.le_refl _), Nat.sub_self]; exact hx
theorem first_snoc {l : List BlkT} {x y : BlkT} (h : l.getD 0 default = x) (hl : 0 < l.length) : (l ++ [y]).getD 0 default = x := by
 rw [List.getD_eq_getElem?_getD, List.getElem?_append_left hl, ← List.getD_eq_getElem?_getD]; exact h
theorem ck_ldi {v : VInT} (ho : v.i.op = 13 ∨ v.i.op = 38) : ckI v = true := decide_eq_true ⟨fun h => by omega, fun h => by omega⟩
structure vfG (x : VFnT) (params : Int) : Prop where
 val : ey x = true
 par : x.params = params
 reg : x.regs = 9 + params
 nb : 2 ≤ x.blocks.length ∧ x.blocks.length ≤ 7
 ins : ∀ j, (x.blocks.getD j default).ins.length ≤ 11
 ck : x.blocks.all (fun y => y.ins.all ckI) = true
 fst : ∃ fi, x.blocks.getD 0 default = ⟨fi, 1, 0, 1, 0⟩ ∧ (fi.length : Int) = x.regs ∧ fstOK fi
theorem val_mk {p r : Int} {l : List BlkT} {n : Int} (h : 0 ≤ p ∧ p ≤ 6 ∧ 0 ≤ r ∧ r ≤ 3000 ∧ 1 ≤ l.length ∧ l.length ≤ 1000) (hn : (l.length : Int) = n) (z : l.all (j0 p r n) = true) : ey ⟨p, r, l⟩ = true := by subst hn; exact (val_yes (c := ⟨p, r, l⟩) h z).symm
set_option maxHeartbeats 2000000 in
theorem vf_c (ex : FuncId) {a_l : Option Addr} {k_l : Nat} (l : List Int) (params : Int) {F : Fz} {H : Heap} {R : List Fp} (hs : HS (.of H []) F H [] R) (hl : SR F (.slice a_l l.length k_l) l) (hT : TB 37 tabC F) (hp : 0 ≤ params ∧ params ≤ 2) (hbl : l.length ≤ 1000) : C Tryd.prog 1 (KT 60 ex 37 tabC) 16 [(.slice a_l l.length k_l), (iI params)] H fun v H' => ∃ (x : VFnT) (ik : Option Addr) (kA : Nat) (F' : Fz), Fz.le F F' ∧ HS (.of H []) F' H' [] R ∧ v = .agg ⟨[.int .i64 x.params, .int .i64 x.regs, .slice ik x.blocks.length kA]⟩ ∧ in64 x.params ∧ in64 x.regs ∧ SR F' (.slice ik x.blocks.length kA) x.blocks ∧ (vfG x params) := by
 refine aK Tryd.func16 rfl rfl ?_
 refine aw 1 rfl ?_
 refine ah ?_
 refine bf (bY hs rfl) rfl rfl ?_
 rintro _ H2 _ ⟨b1, rfl, ko, _⟩
 let b6 : Fp := [(b1, .cells [(iI 0), (iI 0), (.slice none 0 0)] none false)]
 have ko : HS _ _ _ [b6] _ := ko
 refine ao 2 rfl ?_
 refine ah ?_
 refine wRo 2 0 [] 16 17 [] [(17, (.agg ⟨[(iI params), (iI 9), (.slice none 0 0)]⟩))] trivial rfl fun _ => ?_
 refine bf (bY ko rfl) rfl rfl ?_
 rintro _ H5 _ ⟨b4, rfl, kp, _⟩
 have kp : HS _ _ _ [_, [(b4, .cells [(iI 0), (iI 0), (.slice none 0 0)] none false)]] _ := kp
 refine aN (aC (q := 1) kp rfl rfl rfl rfl rfl rfl rfl rfl rfl) rfl ?_
 rintro _ H6 _ ⟨kr, _⟩
 have kr : HS _ _ _ [_, [(b4, .cells [(iI params), (iI 9), (.slice none 0 0)] none false)]] _ := kr
 refine ao 2 rfl ?_
 refine wR 3 [] 18 22 [6] [(6, (iI (1 + (if (5 : Int) < ((l.length / 6 : Nat) : Int) then (5 : Int) else ((l.length / 6 : Nat) : Int)))))] (vA (vA (show (6 : Int) ≠ 0 from by decide) (vi (n := ((l.length / 6 : Nat) : Int)) (by first | omega | (dsimp only; omega)))) (vA (vi (n := 1 + (if (5 : Int) < ((l.length / 6 : Nat) : Int) then (5 : Int) else ((l.length / 6 : Nat) : Int))) (by first | omega | (dsimp only; omega))) trivial)) rfl fun _ => ?_
 have hM : 1 ≤ (1 + (if (5 : Int) < ((l.length / 6 : Nat) : Int) then (5 : Int) else ((l.length / 6 : Nat) : Int))) ∧ (1 + (if (5 : Int) < ((l.length / 6 : Nat) : Int) then (5 : Int) else ((l.length / 6 : Nat) : Int))) ≤ 6 := by omega
 refine wR 2 [] 1 0 [7] [(7, (iI 0))] trivial rfl fun _ => ?_
 refine aL (fun (mm : Nat) f H' => ∃ (i : Nat) (F' : Fz), Fz.le F F' ∧ HS (Base.of H []) F' H' [b6, [(b4, .cells [(iI params), (iI (9 + (i : Int))), (.slice none 0 0)] none false)]] R ∧ bc f [(0, (.slice a_l l.length k_l)), (1, (iI params)), (4, (.pointer (some ⟨b1, 0, none⟩))), (5, (.pointer (some ⟨b4, 0, none⟩))), (6, (iI (1 + (if (5 : Int) < ((l.length / 6 : Nat) : Int) then (5 : Int) else ((l.length / 6 : Nat) : Int))))), (7, (iI (i : Int)))] ∧ mm = (params - (i : Int)).toNat ∧ ((i : Int) ≤ params)) _ ⟨0, _, fR, kr, (agC rfl (agC rfl (agC rfl (agC rfl (agC rfl (agC rfl agN)))))), rfl, (by first | assumption | omega | (simp at *; omega))⟩ ?_
 rintro nN f9 H9 ⟨i, F9, hX, kt, kX, rfl, q1⟩ lQ
 refine aO _ kX (fun _ => ?_)
 clear kX
 replace hT := hT.mono hX
 replace hl := hl.mono hX
 refine aw 2 rfl ?_
 refine wR 1 [] 23 25 [] [(25, (.bool (decide ((i : Int) < params))))] trivial rfl fun _ => ?_
 refine au 3 5 (v := (decide ((i : Int) < params))) rfl rfl rfl rfl (fun iv => ?_) (fun iv => ?_)
 ·
  try simp only [BS] at iv
  refine ah ?_
  refine wRo 4 0 [(1, .o (iI (9 + (i : Int))))] 28 31 [] [(30, (iI ((9 + (i : Int)) + 1))), (31, (.pointer (some ⟨b4, 1, none⟩)))] (vA (ql 3 1 (HS.hc kt (i := 1) rfl) rfl rfl) (vA (vi (n := (9 + (i : Int)) + 1) (by first | omega | (dsimp only; omega))) trivial)) rfl fun _ => ?_
  refine aN (aC (q := 1) kt rfl rfl rfl rfl rfl rfl rfl rfl rfl) rfl ?_
  rintro _ mR _ ⟨hf, _⟩
  have hf : HS _ _ _ [_, [(b4, .cells [(iI params), (iI ((9 + (i : Int)) + 1)), (.slice none 0 0)] none false)]] _ := hf
  refine ao 2 rfl ?_
  refine wR 1 [] 26 27 [7] [(7, (iI ((i : Int) + 1)))] (vA (vi (n := (i : Int) + 1) (by first | omega | (dsimp only; omega))) trivial) rfl fun _ => ?_
  refine lQ _ _ _ ?_ ⟨i + 1, _, (hX), hf, (agC rfl (agC rfl (agC rfl (agC rfl (agC rfl (agC rfl agN)))))), rfl, (by first | assumption | omega | (simp at *; omega))⟩
  omega
 ·
  try simp only [BS] at iv
  refine ah ?_
  refine bf (bY kt rfl) rfl rfl ?_
  rintro _ mS _ ⟨a3, rfl, hg, _⟩
  let kH : Fp := [(b4, .cells [(iI params), (iI (9 + (i : Int))), (.slice none 0 0)] none false)]
  have hg : HS _ _ _ [_, kH, [(a3, .cells [(.slice none 0 0), (iI 0), (iI 0), (iI 0), (iI 0)] none false)]] _ := hg
  refine ao 3 rfl ?_
  refine wR 2 [] 1 0 [9] [(9, (iI 0))] trivial rfl fun _ => ?_
  have hj := HS.snoc hg
  have hj : HS _ _ _ [_, _, _, []] _ := hj
  refine aL (fun (mm : Nat) f H' => ∃ (fi : List VInT) (r : Nat) (aq : Fp) (I : Option Addr) (J : Nat) (F' : Fz), Fz.le F9 F' ∧ HS (Base.of H []) F' H' [b6, kH, [(a3, .cells [(.slice I fi.length J), (iI 0), (iI 0), (iI 0), (iI 0)] none false)], aq] R ∧ OS F' (.slice I fi.length J) fi aq ∧ bc f [(0, (.slice a_l l.length k_l)), (1, (iI params)), (4, (.pointer (some ⟨b1, 0, none⟩))), (5, (.pointer (some ⟨b4, 0, none⟩))), (6, (iI (1 + (if (5 : Int) < ((l.length / 6 : Nat) : Int) then (5 : Int) else ((l.length / 6 : Nat) : Int))))), (8, (.pointer (some ⟨a3, 0, none⟩))), (9, (iI (r : Int)))] ∧ mm = (9 + (i : Int) - (r : Int)).toNat ∧ (fi.length = r) ∧ (fi.all (fg params (9 + (i : Int))) = true) ∧ (fi.all ckI = true) ∧ (fstOK fi) ∧ ((r : Int) ≤ 9 + (i : Int))) _ ⟨([] : List VInT), 0, [], none, 0, _, fR, hj, (OS.nil : OS F9 (.slice none 0 0) ([] : List VInT) []), (agC rfl (agC rfl (agC rfl (agC rfl (agC rfl (agC rfl (agC rfl agN))))))), rfl, (by rfl), (by rfl), (by rfl), (by intro q hq; cases hq), (by first | assumption | omega | (simp at *; omega))⟩ ?_
  rintro mI nz mT ⟨fi, r, aq, I, J, lB, c8, hh, a0, kh, rfl, w1, w2, w4, w5, w3⟩ ld
  refine aO _ kh (fun _ => ?_)
  clear kh
  replace hT := hT.mono c8
  replace hl := hl.mono c8
  refine aw 2 rfl ?_
  refine wR 1 [(2, .o (iI (9 + (i : Int))))] 32 35 [] [(35, (.bool (decide ((r : Int) < 9 + (i : Int)))))] (vA (ql 3 1 (HS.hc hh (i := 1) rfl) rfl rfl) trivial) rfl fun _ => ?_
  refine au 4 5 (v := (decide ((r : Int) < 9 + (i : Int)))) rfl rfl rfl rfl (fun i1 => ?_) (fun i1 => ?_)
  ·
   try simp only [BS] at i1
   refine ah ?_
   let k0 : Value := (.agg ⟨[(iI 13), (iI (r : Int)), (iI 0), (iI 0), (iI (r : Int))]⟩)
   refine wRo 3 0 [] 38 40 [] [(40, k0)] trivial rfl fun _ => ?_
   refine bf (bY hh rfl) rfl rfl ?_
   rintro _ mU _ ⟨c6, rfl, hk, _⟩
   let k3 : Fp := [(a3, .cells [(.slice I fi.length J), (iI 0), (iI 0), (iI 0), (iI 0)] none false)]
   have hk : HS _ _ _ [_, _, k3, aq, [(c6, .cells [(iI 0), (iI 0), (iI 0), (iI 0), (iI 0)] none false)]] _ := hk
   refine aN (aC (q := 4) hk rfl rfl rfl rfl rfl rfl rfl rfl rfl) rfl ?_
   rintro _ mV _ ⟨fd, _⟩
   have fd : HS _ _ _ [_, _, _, _, [(c6, .cells [(iI 13), (iI (r : Int)), (iI 0), (iI 0), (iI (r : Int))] none false)]] _ := fd
   refine ao 3 rfl ?_
   refine wR 1 [] 41 43 [] [(43, (.bool (decide ((r : Int) < params))))] trivial rfl fun _ => ?_
   refine dH (fun f H' => ∃ (vo : Int) (F' : Fz), Fz.le lB F' ∧ HS (Base.of H []) F' H' [b6, kH, k3, aq, [(c6, .cells [(iI vo), (iI (r : Int)), (iI 0), (iI 0), (iI (r : Int))] none false)]] R ∧ bc f [(0, (.slice a_l l.length k_l)), (1, (iI params)), (4, (.pointer (some ⟨b1, 0, none⟩))), (5, (.pointer (some ⟨b4, 0, none⟩))), (6, (iI (1 + (if (5 : Int) < ((l.length / 6 : Nat) : Int) then (5 : Int) else ((l.length / 6 : Nat) : Int))))), (8, (.pointer (some ⟨a3, 0, none⟩))), (9, (iI (r : Int))), (10, (.pointer (some ⟨c6, 0, none⟩))), (35, (.bool (decide ((r : Int) < 9 + (i : Int))))), (40, k0), (43, (.bool (decide ((r : Int) < params))))] ∧ (vo = 13 ∨ vo = 38 ∧ (r : Int) < params)) (fun kv => ?_) ?_
   ·
    refine au 0 0 (v := (decide ((r : Int) < params))) rfl rfl rfl rfl (fun i2 => ?_) (fun i2 => ?_)
    ·
     try simp only [BS] at i2
     refine ah ?_
     refine wRo 3 0 [] 44 46 [] [(46, (.agg ⟨[(iI 38), (iI (r : Int)), (iI 0), (iI 0), (iI (r : Int))]⟩))] trivial rfl fun _ => ?_
     refine aN (aC (q := 4) fd rfl rfl rfl rfl rfl rfl rfl rfl rfl) rfl ?_
     rintro _ mX _ ⟨hn, _⟩
     have hn : HS _ _ _ [_, _, _, _, [(c6, .cells [(iI 38), (iI (r : Int)), (iI 0), (iI 0), (iI (r : Int))] none false)]] _ := hn
     refine ao 0 rfl ?_
     exact kv _ _ ⟨38, _, fR, hn, (agC rfl (agC rfl (agC rfl (agC rfl (agC rfl (agC rfl (agC rfl (agC rfl (agC rfl (agC rfl (agC rfl agN))))))))))), (by first | assumption | omega | (simp at *; omega))⟩
    ·
     try simp only [BS] at i2
     exact kv _ _ ⟨13, _, fR, fd, (agC rfl (agC rfl (agC rfl (agC rfl (agC rfl (agC rfl (agC rfl (agC rfl (agC rfl (agC rfl (agC rfl agN))))))))))), (by first | assumption | omega | (simp at *; omega))⟩
   ·
    rintro nA mW ⟨vo, mM, kf, hm, ki, hvo⟩
    refine aO _ ki (fun _ => ?_)
    clear ki
    replace a0 := a0.mono kf
    refine aw 1 rfl ?_
    refine ah ?_
    let kF : Value := (.agg ⟨[(iI vo), (iI (r : Int)), (iI 0), (iI 0), (iI (r : Int)), (.slice none 0 0)]⟩)
    refine wRo 4 0 [(1, .o (.slice I fi.length J)), (2, .o (.agg ⟨[(iI vo), (iI (r : Int)), (iI 0), (iI 0), (iI (r : Int))]⟩))] 47 50 [] [(48, (.slice I fi.length J)), (50, kF)] (vA (ql 40 0 (HS.hc hm (i := 2) rfl) rfl rfl) (vA (qn 45 0 5 (HS.hc hm (i := 4) rfl) rfl rfl rfl rfl) trivial)) rfl fun _ => ?_
    refine bf (cS (α := VInT) (ps := [(0, kF)]) (cells := [(iI vo), (iI (r : Int)), (iI 0), (iI 0), (iI (r : Int)), (.slice none 0 0)]) ([(⟨(⟨vo, (r : Int), 0, 0, (r : Int)⟩ : InsT), ([] : List Int)⟩ : VInT)] : List VInT) hm rfl rfl rfl (by kernel_rfl) ⟨[(iI vo), (iI (r : Int)), (iI 0), (iI 0), (iI (r : Int)), (.slice none 0 0)], [], rfl, ⟨none, 0, rfl, by first | omega | (dsimp only; omega), by first | omega | (dsimp only; omega), by first | omega | (dsimp only; omega), by first | omega | (dsimp only; omega), by first | omega | (dsimp only; omega), SR.nil⟩, rfl⟩ rfl) rfl rfl ?_
    rintro _ mY lR ⟨nw, nK, rfl, k7, f1, _⟩
    have f1 : HS _ _ _ [_, _, _, _, [(c6, .cells [(iI vo), (iI (r : Int)), (iI 0), (iI 0), (iI (r : Int))] none false)], lR] _ := f1
    refine bf (d3 (α := VInT) (q := 3) a0 f1 rfl rfl rfl (OS.sv k7 f1 (i := 5) rfl) rfl rfl rfl rfl rfl rfl rfl (by first | omega | (simp only [List.length_cons, List.length_nil]; omega))) rfl rfl ?_
    rintro _ mZ kZ ⟨kW, kY, rfl, k8, ho, _⟩
    have ho : HS _ _ _ [_, _, _, kZ, _, _] _ := ho
    refine wRo 1 6 [] 53 53 [] [(53, (.pointer (some ⟨a3, 0, none⟩)))] trivial rfl fun _ => ?_
    refine aN (aC (q := 2) ho rfl rfl rfl rfl rfl rfl rfl rfl rfl) rfl ?_
    rintro _ m0 _ ⟨hr, _⟩
    have hr : HS _ _ _ [_, _, [(a3, .cells [(.slice kW (fi ++ ([(⟨(⟨vo, (r : Int), 0, 0, (r : Int)⟩ : InsT), ([] : List Int)⟩ : VInT)] : List VInT)).length kY), (iI 0), (iI 0), (iI 0), (iI 0)] none false)], _, _, _] _ := hr
    refine ao 2 rfl ?_
    refine wR 1 [] 36 37 [9] [(9, (iI ((r : Int) + 1)))] (vA (vi (n := (r : Int) + 1) (by first | omega | (dsimp only; omega))) trivial) rfl fun _ => ?_
    refine ld _ _ _ ?_ ⟨fi ++ ([(⟨(⟨vo, (r : Int), 0, 0, (r : Int)⟩ : InsT), ([] : List Int)⟩ : VInT)] : List VInT), r + 1, kZ, kW, kY, _, (fT (c8) kf), (HS.sub hr (List.sublist_append_left _ _)), k8, (agC rfl (agC rfl (agC rfl (agC rfl (agC rfl (agC rfl (agC rfl agN))))))), rfl, (by simp; omega), (by exact dU w2 (vin_ldi (by omega) (by omega))), (by exact dU w4 (ck_ldi (by first | omega | (dsimp only; omega)))), (by exact fst_snoc w5 ⟨by rw [w1], by first | omega | (dsimp only; omega)⟩), (by first | assumption | omega | (simp at *; omega))⟩
    omega
  ·
   try simp only [BS] at i1
   refine ah ?_
   refine wRo 1 0 [] 54 54 [] [(54, (.pointer (some ⟨a3, 1, none⟩)))] trivial rfl fun _ => ?_
   refine aN (aC (q := 2) hh rfl rfl rfl rfl rfl rfl rfl rfl rfl) rfl ?_
   rintro _ m9 _ ⟨ht, _⟩
   have ht : HS _ _ _ [_, _, [(a3, .cells [(.slice I fi.length J), (iI 1), (iI 0), (iI 0), (iI 0)] none false)], aq] _ := ht
   refine wRo 1 2 [] 55 55 [] [(55, (.pointer (some ⟨a3, 3, none⟩)))] trivial rfl fun _ => ?_
   refine aN (aC (q := 2) ht rfl rfl rfl rfl rfl rfl rfl rfl rfl) rfl ?_
   rintro _ na _ ⟨cl, _⟩
   let c4 : Fp := [(a3, .cells [(.slice I fi.length J), (iI 1), (iI 0), (iI 1), (iI 0)] none false)]
   have cl : HS _ _ _ [_, _, c4, _] _ := cl
   refine ao 2 rfl ?_
   refine ah ?_
   let hH : Value := (.agg ⟨[(.slice I fi.length J), (iI 1), (iI 0), (iI 1), (iI 0)]⟩)
   refine wRo 3 0 [(1, .o (.slice none 0 0)), (2, .o hH)] 56 58 [] [(57, (.slice none 0 0)), (58, hH)] (vA (ql 22 2 (HS.hc cl (i := 1) rfl) rfl rfl) (vA (qn 42 0 5 (HS.hc cl (i := 2) rfl) rfl rfl rfl rfl) trivial)) rfl fun _ => ?_
   obtain ⟨h6, g9, hu, lb, mG⟩ := OS.frz a0 cl (i := 3) rfl
   have hu : HS _ _ _ [_, _, _, []] _ := hu
   refine bf (cS (α := BlkT) (ps := [(0, hH)]) (cells := [(.slice I fi.length J), (iI 1), (iI 0), (iI 1), (iI 0)]) ([(⟨fi, 1, 0, 1, 0⟩ : BlkT)] : List BlkT) hu rfl rfl rfl (by kernel_rfl) ⟨[(.slice I fi.length J), (iI 1), (iI 0), (iI 1), (iI 0)], [], rfl, ⟨I, J, rfl, by first | omega | (dsimp only; omega), by first | omega | (dsimp only; omega), by first | omega | (dsimp only; omega), by first | omega | (dsimp only; omega), lb⟩, rfl⟩ rfl) rfl rfl ?_
   rintro _ ne g5 ⟨nx, nL, rfl, k9, hv, _⟩
   have hv : HS _ _ _ [_, _, _, _, g5] _ := hv
   have f2 := HS.snoc hv
   have f2 : HS _ _ _ [_, _, _, _, _, []] _ := f2
   refine bf (d3 (α := BlkT) (q := 5) (OS.nil : OS h6 (.slice none 0 0) ([] : List BlkT) []) f2 rfl rfl rfl (OS.sv k9 f2 (i := 4) rfl) rfl rfl rfl rfl rfl rfl rfl (by first | omega | (simp only [List.length_cons, List.length_nil]; omega))) rfl rfl ?_
   rintro _ ng kC ⟨h8, ky, rfl, he, hw, _⟩
   have hw : HS _ _ _ [_, _, _, _, _, kC] _ := hw
   have he : OS h6 (.slice h8 ([(⟨fi, 1, 0, 1, 0⟩ : BlkT)] : List BlkT).length ky) ([(⟨fi, 1, 0, 1, 0⟩ : BlkT)] : List BlkT) kC := he
   refine wRo 1 5 [] 61 61 [] [(61, (.pointer (some ⟨b4, 2, none⟩)))] trivial rfl fun _ => ?_
   refine aN (aC (q := 1) hw rfl rfl rfl rfl rfl rfl rfl rfl rfl) rfl ?_
   rintro _ nh _ ⟨hx, _⟩
   have hx : HS _ _ _ [_, [(b4, .cells [(iI params), (iI (9 + (i : Int))), (.slice h8 ([(⟨fi, 1, 0, 1, 0⟩ : BlkT)] : List BlkT).length ky)] none false)], _, _, _, _] _ := hx
   refine ao 3 rfl ?_
   refine wR 2 [] 1 0 [11] [(11, (iI 0))] trivial rfl fun _ => ?_
   refine aL (fun (mm : Nat) f H' => ∃ (bl : List BlkT) (b : Nat) (ad : Fp) (O : Option Addr) (T : Nat) (F' : Fz), Fz.le h6 F' ∧ HS (Base.of H []) F' H' [b6, [(b4, .cells [(iI params), (iI (9 + (i : Int))), (.slice O bl.length T)] none false)], c4, [], g5, ad] R ∧ OS F' (.slice O bl.length T) bl ad ∧ bc f [(0, (.slice a_l l.length k_l)), (4, (.pointer (some ⟨b1, 0, none⟩))), (5, (.pointer (some ⟨b4, 0, none⟩))), (6, (iI (1 + (if (5 : Int) < ((l.length / 6 : Nat) : Int) then (5 : Int) else ((l.length / 6 : Nat) : Int))))), (11, (iI (b : Int)))] ∧ mm = ((1 + (if (5 : Int) < ((l.length / 6 : Nat) : Int) then (5 : Int) else ((l.length / 6 : Nat) : Int))) - (b : Int)).toNat ∧ (bl.length = b + 1) ∧ (bl.all (j0 params (9 + (i : Int)) ((1 + (if (5 : Int) < ((l.length / 6 : Nat) : Int) then (5 : Int) else ((l.length / 6 : Nat) : Int))) + 1)) = true) ∧ (∀ y ∈ bl, y.ins.length ≤ 11) ∧ (bl.all (fun y => y.ins.all ckI) = true) ∧ (bl.getD 0 default = ⟨fi, 1, 0, 1, 0⟩) ∧ ((b : Int) ≤ (1 + (if (5 : Int) < ((l.length / 6 : Nat) : Int) then (5 : Int) else ((l.length / 6 : Nat) : Int))))) _ ⟨([(⟨fi, 1, 0, 1, 0⟩ : BlkT)] : List BlkT), 0, kC, h8, ky, _, fR, hx, he, (agC rfl (agC rfl (agC rfl (agC rfl (agC rfl agN))))), rfl, (by rfl), (by exact dU (l := []) rfl (blk_mk w2 (by omega))), (by exact ins_snoc (l := []) (by simp) (by first | omega | (dsimp only; omega))), (by exact dU (l := []) rfl w4), (by rfl), (by first | assumption | omega | (simp at *; omega))⟩ ?_
   rintro mJ nB ni ⟨bl, b, ad, O, T, kU, c9, hy, U, kj, rfl, e1, e2, e3, e5, e6, e4⟩ lf
   refine aO _ kj (fun _ => ?_)
   clear kj
   replace hT := (hT.mono g9).mono c9
   replace hl := (hl.mono g9).mono c9
   refine aw 2 rfl ?_
   refine wR 1 [] 62 64 [] [(64, (.bool (decide ((b : Int) < 1 + (if (5 : Int) < ((l.length / 6 : Nat) : Int) then (5 : Int) else ((l.length / 6 : Nat) : Int))))))] trivial rfl fun _ => ?_
   refine au 4 5 (v := (decide ((b : Int) < 1 + (if (5 : Int) < ((l.length / 6 : Nat) : Int) then (5 : Int) else ((l.length / 6 : Nat) : Int))))) rfl rfl rfl rfl (fun i3 => ?_) (fun i3 => ?_)
   ·
    try simp only [BS] at i3
    refine ah ?_
    refine bf (bY hy rfl) rfl rfl ?_
    rintro _ nj _ ⟨E, rfl, hz, _⟩
    let g4 : Fp := [(b4, .cells [(iI params), (iI (9 + (i : Int))), (.slice O bl.length T)] none false)]
    have hz : HS _ _ _ [_, g4, _, _, _, ad, [(E, .cells [(.slice none 0 0), (iI 0), (iI 0), (iI 0), (iI 0)] none false)]] _ := hz
    refine ao 3 rfl ?_
    refine wR 2 [] 1 0 [13] [(13, (iI 0))] trivial rfl fun _ => ?_
    have hA := HS.snoc hz
    have hA : HS _ _ _ [_, _, _, _, _, _, _, []] _ := hA
    refine aL (fun (mm : Nat) f H' => ∃ (xi : List VInT) (k : Nat) (ag : Fp) (z : Option Addr) (A : Nat) (F' : Fz), Fz.le kU F' ∧ HS (Base.of H []) F' H' [b6, g4, c4, [], g5, ad, [(E, .cells [(.slice z xi.length A), (iI 0), (iI 0), (iI 0), (iI 0)] none false)], ag] R ∧ OS F' (.slice z xi.length A) xi ag ∧ bc f [(0, (.slice a_l l.length k_l)), (4, (.pointer (some ⟨b1, 0, none⟩))), (5, (.pointer (some ⟨b4, 0, none⟩))), (6, (iI (1 + (if (5 : Int) < ((l.length / 6 : Nat) : Int) then (5 : Int) else ((l.length / 6 : Nat) : Int))))), (11, (iI (b : Int))), (12, (.pointer (some ⟨E, 0, none⟩))), (13, (iI (k : Int))), (64, (.bool (decide ((b : Int) < 1 + (if (5 : Int) < ((l.length / 6 : Nat) : Int) then (5 : Int) else ((l.length / 6 : Nat) : Int))))))] ∧ mm = 5 - k ∧ (xi.length = k) ∧ (xi.all (fg params (9 + (i : Int))) = true) ∧ (xi.all ckI = true) ∧ (k ≤ 5)) _ ⟨([] : List VInT), 0, [], none, 0, _, fR, hA, (OS.nil : OS kU (.slice none 0 0) ([] : List VInT) []), (agC rfl (agC rfl (agC rfl (agC rfl (agC rfl (agC rfl (agC rfl (agC rfl agN)))))))), rfl, (by rfl), (by rfl), (by rfl), (by first | assumption | omega | (simp at *; omega))⟩ ?_
    rintro mK nC kV ⟨xi, k, ag, z, A, mN, ci, a1, V, kk, rfl, z1, z2, z4, z3⟩ lh
    refine aO _ kk (fun _ => ?_)
    clear kk
    replace hT := hT.mono ci
    replace hl := hl.mono ci
    replace U := U.mono ci
    refine aw 2 rfl ?_
    refine wR 1 [] 67 77 [] [(77, (.bool ((decide ((k : Int) < 5)) && (decide ((6 * (b : Int)) + (k : Int) < (l.length : Int))))))] (vA (fun (g1 : (decide ((k : Int) < 5)) = true) => (vi (n := 6 * (b : Int)) (by (try simp only [BS] at g1); (first | omega | (dsimp only; omega))))) (vA (fun (g1 : (decide ((k : Int) < 5)) = true) => (vi (n := (6 * (b : Int)) + (k : Int)) (by (try simp only [BS] at g1); (first | omega | (dsimp only; omega))))) trivial)) rfl fun _ => ?_
    refine au 3 5 (v := ((decide ((k : Int) < 5)) && (decide ((6 * (b : Int)) + (k : Int) < (l.length : Int))))) rfl rfl rfl rfl (fun ja => ?_) (fun ja => ?_)
    ·
     try simp only [BS] at ja
     refine aP rfl ?_
     refine ai (v := (.pointer (some ⟨E, 0, none⟩))) (id := .v) (aZ rfl rfl) rfl rfl (aG rfl) (aF _) ?_
     refine ai (v := (.slice z xi.length A)) (id := .l E) (aT (i := 0) rfl rfl (HS.hc a1.log0 (i := 6) rfl) rfl rfl) rfl rfl (bj rfl) (⟨.inl rfl, trivial⟩) ?_
     refine fm (.slice a_l l.length k_l) rfl rfl rfl ?_
     refine fm (iI (b : Int)) rfl rfl rfl ?_
     refine ai (v := (iI (6 * (b : Int)))) (id := .v) (ap_mul rfl rfl (jD (n := 6 * (b : Int)) (by first | omega | (dsimp only; omega)))) rfl rfl (aG rfl) (aF _) ?_
     refine fm (iI (k : Int)) rfl rfl rfl ?_
     refine ai (v := (iI ((6 * (b : Int)) + (k : Int)))) (id := .v) (ap_add rfl rfl (jD (n := (6 * (b : Int)) + (k : Int)) (by first | omega | (dsimp only; omega)))) rfl rfl (aG rfl) (aF _) ?_
     refine ai (v := (.pointer (some ⟨sB (.slice a_l l.length k_l), sO (.slice a_l l.length k_l) + ((6 * b) + k) * Rp.sz Int, none⟩))) (id := .v) (dX (α := Int) (j := (6 * (b : Int)) + (k : Int)) rfl rfl rfl rfl (SR.sv hl a1.log0) (by first | omega | (dsimp only; omega)) (by first | omega | (dsimp only; omega))) rfl rfl (aG rfl) (aF _) ?_
     obtain ⟨mz, lc, k6⟩ := Sv.at (SR.sv hl a1.log0) (cN (x := (0 : Int)) (show (6 * b) + k < l.length from by first | omega | (dsimp only; omega)))
     obtain ⟨rfl, lY⟩ := lc
     refine ai (v := (iI (l.getD ((6 * b) + k) 0))) (id := .l (sB (.slice a_l l.length k_l))) (aT (i := 0) rfl rfl k6 rfl rfl) rfl rfl (bj rfl) (⟨.inl rfl, ⟨.inl rfl, ⟨.inl rfl, ⟨.inl rfl, ⟨.inl rfl, ⟨.inl rfl, ⟨.inr trivial, ⟨.inr trivial, trivial⟩⟩⟩⟩⟩⟩⟩⟩) ?_
     refine ai (v := (.agg ⟨[(iI params), (iI (9 + (i : Int))), (.slice O bl.length T)]⟩)) (id := .l b4) (iQ (i := 0) rfl rfl rfl (HS.hc a1.log0 (i := 1) rfl) rfl rfl rfl) rfl rfl (bj rfl) (⟨.inr trivial, ⟨.inr trivial, ⟨.inr trivial, ⟨.inr trivial, ⟨.inr trivial, ⟨.inr trivial, ⟨.inr trivial, ⟨.inr trivial, ⟨.inr trivial, trivial⟩⟩⟩⟩⟩⟩⟩⟩⟩) ?_
     refine aY (W := []) (ay rfl rfl rfl) rfl rfl rfl (m4.vi_c ex (l.getD ((6 * b) + k) 0) (⟨params, 9 + (i : Int), bl⟩ : VFnT) (HS.call a1.log0) (by first | omega | (dsimp only; omega)) (by first | omega | (dsimp only; omega)) (by first | omega | (dsimp only; omega)) hT (by first | omega | (dsimp only; omega))) (⟨.inl rfl, ⟨.inl rfl, ⟨.inl rfl, ⟨.inl rfl, ⟨.inl rfl, ⟨.inl rfl, ⟨.inl rfl, ⟨.inl rfl, ⟨.inr List.not_mem_nil, ⟨.inr trivial, trivial⟩⟩⟩⟩⟩⟩⟩⟩⟩⟩) ?_
     rintro _ lF ⟨ap, bb, b3, mO, kg, a2, rfl, lw, lx, ly, lz, lA, h5, nG, mF⟩
     refine ⟨Wr.did a2.log, fun li kM => ?_⟩
     replace a2 := HS.back a1.log0 rfl a2
     replace a2 := HS.lg a2 a1 kM
     generalize ({ lF with log := li } : Heap) = ms at a2 ⊢
     have a2 : HS _ _ _ [_, _, _, _, _, _, [(E, .cells [(.slice z xi.length A), (iI 0), (iI 0), (iI 0), (iI 0)] none false)], ag] _ := a2
     replace V := V.mono kg
     refine dV (id := .a) (cS (α := VInT) (ps := [(0, (.agg ⟨[(iI ap.i.op), (iI ap.i.a), (iI ap.i.b), (iI ap.i.c), (iI ap.i.n), (.slice bb ap.args.length b3)]⟩))]) (cells := [(iI ap.i.op), (iI ap.i.a), (iI ap.i.b), (iI ap.i.c), (iI ap.i.n), (.slice bb ap.args.length b3)]) ([ap] : List VInT) a2.log0 rfl rfl rfl (by kernel_rfl) ⟨[(iI ap.i.op), (iI ap.i.a), (iI ap.i.b), (iI ap.i.c), (iI ap.i.n), (.slice bb ap.args.length b3)], [], rfl, ⟨bb, b3, rfl, by first | omega | (dsimp only; omega), by first | omega | (dsimp only; omega), by first | omega | (dsimp only; omega), by first | omega | (dsimp only; omega), by first | omega | (dsimp only; omega), h5⟩, rfl⟩ rfl) rfl rfl (fun _ _ _ _ => iK rfl rfl rfl) (⟨.inl rfl, ⟨.inl rfl, ⟨.inl rfl, ⟨.inl rfl, ⟨.inl rfl, ⟨.inl rfl, ⟨.inl rfl, ⟨.inl rfl, ⟨.inl rfl, ⟨.inr trivial, ⟨.inr trivial, trivial⟩⟩⟩⟩⟩⟩⟩⟩⟩⟩⟩) ?_
     rintro _ lG lS ⟨ny, nM, rfl, la, a4, _⟩ lj kN
     replace a4 := HS.lg a4 a2 kN
     generalize ({ lG with log := lj } : Heap) = mu at a4 ⊢
     have a4 : HS _ _ _ [_, _, _, _, _, _, _, _, lS] _ := a4
     refine dV (id := .x (ag.map Prod.fst)) (d3 (α := VInT) (q := 7) V a4.log0 rfl rfl rfl (OS.sv la a4.log0 (i := 8) rfl) rfl rfl rfl rfl rfl rfl rfl (by first | omega | (simp only [List.length_cons, List.length_nil]; omega))) rfl rfl (by rintro _ _ kD ⟨ih, kz, rfl, kn, _, hwr⟩; exact d6 rfl rfl (Wr.did hwr)) (⟨.inl rfl, ⟨.inl rfl, ⟨.inl rfl, ⟨.inl rfl, ⟨.inl rfl, ⟨.inl rfl, ⟨.inl rfl, ⟨.inl rfl, ⟨.inl rfl, ⟨.inl rfl, ⟨.inl rfl, ⟨.inl rfl, trivial⟩⟩⟩⟩⟩⟩⟩⟩⟩⟩⟩⟩) ?_
     rintro _ lH kD ⟨ih, kz, rfl, kn, a8, _⟩ ll kO
     replace a8 := HS.lg a8 a4 kO
     generalize ({ lH with log := ll } : Heap) = mv at a8 ⊢
     have a8 : HS _ _ _ [_, _, _, _, _, _, _, kD, _] _ := a8
     refine ai (v := (.pointer (some ⟨E, 0, none⟩))) (id := .v) (aZ rfl rfl) rfl rfl (aG rfl) (aF _) ?_
     refine iT (id := .x [E]) (aC (q := 6) a8.log0 rfl rfl rfl rfl rfl rfl rfl rfl rfl) rfl (by rintro _ _ _ ⟨_, hwr⟩; exact d6 rfl rfl (Wr.did hwr)) (⟨.inl rfl, ⟨.inl rfl, ⟨.inl rfl, ⟨.inl rfl, ⟨.inl rfl, ⟨.inl rfl, ⟨.inl rfl, ⟨.inl rfl, ⟨.inl rfl, ⟨.inl rfl, ⟨.inl rfl, ⟨.inl rfl, ⟨.inl rfl, ⟨.inl rfl, trivial⟩⟩⟩⟩⟩⟩⟩⟩⟩⟩⟩⟩⟩⟩) ?_
     rintro _ lI _ ⟨b5, _⟩ lm kP
     replace b5 := HS.lg b5 a8 kP
     generalize ({ lI with log := lm } : Heap) = mw at b5 ⊢
     have b5 : HS _ _ _ [_, _, _, _, _, _, [(E, .cells [(.slice ih (xi ++ ([ap] : List VInT)).length kz), (iI 0), (iI 0), (iI 0), (iI 0)] none false)], _, _] _ := b5
     refine bX ?_
     refine aw 2 rfl ?_
     refine wR 1 [] 78 79 [13] [(13, (iI ((k : Int) + 1)))] (vA (vi (n := (k : Int) + 1) (by first | omega | (dsimp only; omega))) trivial) rfl fun _ => ?_
     refine lh _ _ _ ?_ ⟨xi ++ ([ap] : List VInT), k + 1, kD, ih, kz, _, (fT (ci) kg), (HS.sub b5 (List.sublist_append_left _ _)), kn, (agC rfl (agC rfl (agC rfl (agC rfl (agC rfl (agC rfl (agC rfl (agC rfl agN)))))))), rfl, (by simp; omega), (by exact dU z2 (by assumption)), (by exact dU z4 (by assumption)), (by first | assumption | omega | (simp at *; omega))⟩
     omega
    ·
     try simp only [BS] at ja
     refine wR 3 [] 1 0 [14] [(14, (iI 0))] trivial rfl fun _ => ?_
     refine wR 1 [] 94 99 [] [(99, (.bool (decide ((6 * (b : Int)) + 5 < (l.length : Int)))))] (vA (vi (n := 6 * (b : Int)) (by first | omega | (dsimp only; omega))) (vA (vi (n := (6 * (b : Int)) + 5) (by first | omega | (dsimp only; omega))) trivial)) rfl fun _ => ?_
     refine dH (fun f H' => ∃ (nn : Int), H' = kV ∧ bc f [(0, (.slice a_l l.length k_l)), (4, (.pointer (some ⟨b1, 0, none⟩))), (5, (.pointer (some ⟨b4, 0, none⟩))), (6, (iI (1 + (if (5 : Int) < ((l.length / 6 : Nat) : Int) then (5 : Int) else ((l.length / 6 : Nat) : Int))))), (11, (iI (b : Int))), (12, (.pointer (some ⟨E, 0, none⟩))), (13, (iI (k : Int))), (14, (iI nn)), (64, (.bool (decide ((b : Int) < 1 + (if (5 : Int) < ((l.length / 6 : Nat) : Int) then (5 : Int) else ((l.length / 6 : Nat) : Int)))))), (77, (.bool ((decide ((k : Int) < 5)) && (decide ((6 * (b : Int)) + (k : Int) < (l.length : Int)))))), (99, (.bool (decide ((6 * (b : Int)) + 5 < (l.length : Int)))))] ∧ (in64 nn)) (fun kw => ?_) ?_
     ·
      refine au 0 0 (v := (decide ((6 * (b : Int)) + 5 < (l.length : Int)))) rfl rfl rfl rfl (fun jb => ?_) (fun jb => ?_)
      ·
       try simp only [BS] at jb
       obtain ⟨my, ku⟩ := Sv.view (SR.sv hl a1)
       have nF := fI (ku ((6 * b) + 5))
       refine wR 0 [(5, .o (iI (l.getD ((6 * b) + 5) 0)))] 100 105 [14] [(14, (iI (l.getD ((6 * b) + 5) 0)))] (vA (vi (n := 6 * (b : Int)) (by first | omega | (dsimp only; omega))) (vA (vi (n := (6 * (b : Int)) + 5) (by first | omega | (dsimp only; omega))) (vA (Sv.ix (j := (6 * (b : Int)) + 5) (SR.sv hl a1) (by first | omega | (dsimp only; omega)) (by first | omega | (dsimp only; omega))) (vA (ql 3 0 (vI (ku ((6 * b) + 5)) (by first | omega | (dsimp only; omega))) rfl rfl) trivial)))) rfl fun _ => ?_
       exact kw _ _ ⟨(l.getD ((6 * b) + 5) 0), rfl, (agC rfl (agC rfl (agC rfl (agC rfl (agC rfl (agC rfl (agC rfl (agC rfl (agC rfl (agC rfl (agC rfl agN))))))))))), (by first | assumption | omega | (simp at *; omega))⟩
      ·
       try simp only [BS] at jb
       exact kw _ _ ⟨0, rfl, (agC rfl (agC rfl (agC rfl (agC rfl (agC rfl (agC rfl (agC rfl (agC rfl (agC rfl (agC rfl (agC rfl agN))))))))))), (by first | assumption | omega | (simp at *; omega))⟩
     ·
      rintro nD kV ⟨nn, rfl, kl, hnn⟩
      refine aO _ kl (fun _ => ?_)
      clear kl
      refine aw 2 rfl ?_
      refine ah ?_
      refine wRo 2 0 [] 106 107 [] [(107, (.agg ⟨[(iI nn)]⟩))] trivial rfl fun _ => ?_
      refine bf (dQ a1 rfl rfl) rfl rfl ?_
      rintro _ nk _ ⟨Z, rfl, f6, _⟩
      have f6 : HS _ _ _ [_, _, _, _, _, _, [(E, .cells [(.slice z xi.length A), (iI 0), (iI 0), (iI 0), (iI 0)] none false)], ag, [(Z, .cells [(iI nn)] none false)]] _ := f6
      refine wa (.pointer (some ⟨Z, 0, none⟩)) rfl rfl rfl ?_
      refine ao 3 rfl ?_
      refine ah ?_
      refine wm (.pointer (some ⟨Z, 0, none⟩)) rfl rfl rfl ?_
      refine aJ (ay rfl rfl rfl) rfl rfl (m4.cT ex (⟨nn⟩ : DigT) (6) (HS.callOwn f6 (i := 8) rfl) (by first | omega | (dsimp only; omega)) (by first | omega | (dsimp only; omega)) hT (by first | omega | (dsimp only; omega))) ?_
      rintro _ nm ⟨a7, ch, lC, dk, ar, rfl, lN, nH⟩
      replace ar := HS.backOwn f6 (i := 8) rfl rfl (fun _ hb => hb) ar
      have ar : HS _ _ _ [_, _, _, _, _, _, _, _, [(Z, .cells [(iI ch.n)] none false)]] _ := ar
      replace hT := hT.mono dk
      replace U := U.mono dk
      replace V := V.mono dk
      refine ao 3 rfl ?_
      refine wR 1 [] 127 128 [] [(127, (.bool (a7 == 0)))] trivial rfl fun _ => ?_
      refine dH (fun f H' => ∃ (xe : Int) (xg : Int) (xt : Int) (xf : Int) (dd : DigT) (F' : Fz), Fz.le lC F' ∧ HS (Base.of H []) F' H' [b6, g4, c4, [], g5, ad, [(E, .cells [(.slice z xi.length A), (iI xe), (iI xg), (iI xt), (iI xf)] none false)], ag, [(Z, .cells [(iI dd.n)] none false)]] R ∧ bc f [(0, (.slice a_l l.length k_l)), (4, (.pointer (some ⟨b1, 0, none⟩))), (5, (.pointer (some ⟨b4, 0, none⟩))), (6, (iI (1 + (if (5 : Int) < ((l.length / 6 : Nat) : Int) then (5 : Int) else ((l.length / 6 : Nat) : Int))))), (11, (iI (b : Int))), (12, (.pointer (some ⟨E, 0, none⟩))), (13, (iI (k : Int))), (14, (iI nn)), (15, (.pointer (some ⟨Z, 0, none⟩))), (64, (.bool (decide ((b : Int) < 1 + (if (5 : Int) < ((l.length / 6 : Nat) : Int) then (5 : Int) else ((l.length / 6 : Nat) : Int)))))), (77, (.bool ((decide ((k : Int) < 5)) && (decide ((6 * (b : Int)) + (k : Int) < (l.length : Int)))))), (99, (.bool (decide ((6 * (b : Int)) + 5 < (l.length : Int))))), (107, (.agg ⟨[(iI nn)]⟩)), (108, (.pointer (some ⟨Z, 0, none⟩))), (109, (.pointer (some ⟨Z, 0, none⟩))), (110, (iI a7)), (127, (.bool (a7 == 0)))] ∧ ((xe = 1 ∧ 0 ≤ xt ∧ xt < ((1 + (if (5 : Int) < ((l.length / 6 : Nat) : Int) then (5 : Int) else ((l.length / 6 : Nat) : Int)))) + 1 ∧ xf = 0 ∧ xg = 0 ∨ xe = 2 ∧ 0 ≤ xt ∧ xt < ((1 + (if (5 : Int) < ((l.length / 6 : Nat) : Int) then (5 : Int) else ((l.length / 6 : Nat) : Int)))) + 1 ∧ 0 ≤ xf ∧ xf < ((1 + (if (5 : Int) < ((l.length / 6 : Nat) : Int) then (5 : Int) else ((l.length / 6 : Nat) : Int)))) + 1 ∧ 0 ≤ xg ∧ xg < 9 + (i : Int) ∨ xe = 3 ∧ 0 ≤ xg ∧ xg < 9 + (i : Int) ∧ xt = 0 ∧ xf = 0 ∨ xe = 4 ∧ 1 ≤ xt ∧ xt < 33554432 ∧ xf = 0 ∧ xg = 0)) ∧ (in64 dd.n)) (fun gn => ?_) ?_
      ·
       refine au 0 1 (v := (a7 == 0)) rfl rfl rfl rfl (fun jc => ?_) (fun jc => ?_)
       ·
        try simp only [BS] at jc
        refine ah ?_
        refine wRo 2 0 [] 129 130 [] [(129, (.pointer (some ⟨Z, 0, none⟩))), (130, (iI (1 + (if (5 : Int) < ((l.length / 6 : Nat) : Int) then (5 : Int) else ((l.length / 6 : Nat) : Int)))))] trivial rfl fun _ => ?_
        refine aJ (ay rfl rfl rfl) rfl rfl (m4.cT ex (⟨ch.n⟩ : DigT) (1 + (if (5 : Int) < ((l.length / 6 : Nat) : Int) then (5 : Int) else ((l.length / 6 : Nat) : Int))) (HS.callOwn ar (i := 8) rfl) (by first | omega | (dsimp only; omega)) (by first | omega | (dsimp only; omega)) hT (by first | omega | (dsimp only; omega))) ?_
        rintro _ nq ⟨h3, jw, mP, k4, co, rfl, lO, nI⟩
        replace co := HS.backOwn ar (i := 8) rfl rfl (fun _ hb => hb) co
        have co : HS _ _ _ [_, _, _, _, _, _, _, _, [(Z, .cells [(iI jw.n)] none false)]] _ := co
        refine wRo 2 3 [] 132 133 [] [(132, (iI (1 + h3))), (133, (.pointer (some ⟨E, 1, none⟩)))] (vA (vi (n := 1 + h3) (by first | omega | (dsimp only; omega))) trivial) rfl fun _ => ?_
        refine aN (aC (q := 6) co rfl rfl rfl rfl rfl rfl rfl rfl rfl) rfl ?_
        rintro _ nr _ ⟨hC, _⟩
        have hC : HS _ _ _ [_, _, _, _, _, _, [(E, .cells [(.slice z xi.length A), (iI 1), (iI 0), (iI 0), (iI 0)] none false)], _, _] _ := hC
        refine wRo 1 6 [] 134 134 [] [(134, (.pointer (some ⟨E, 3, none⟩)))] trivial rfl fun _ => ?_
        refine aN (aC (q := 6) hC rfl rfl rfl rfl rfl rfl rfl rfl rfl) rfl ?_
        rintro _ ns _ ⟨hE, _⟩
        have hE : HS _ _ _ [_, _, _, _, _, _, [(E, .cells [(.slice z xi.length A), (iI 1), (iI 0), (iI (1 + h3)), (iI 0)] none false)], _, _] _ := hE
        refine ao 0 rfl ?_
        exact gn _ _ ⟨1, 0, 1 + h3, 0, (⟨jw.n⟩ : DigT), _, (k4), hE, (agC rfl (agC rfl (agC rfl (agC rfl (agC rfl (agC rfl (agC rfl (agC rfl (agC rfl (agC rfl (agC rfl (agC rfl (agC rfl (agC rfl (agC rfl (agC rfl (agC rfl agN))))))))))))))))), (by first | assumption | omega | (simp at *; omega)), (by first | assumption | omega | (simp at *; omega))⟩
       ·
        try simp only [BS] at jc
        refine wR 1 [] 135 136 [] [(135, (.bool (a7 == 1)))] trivial rfl fun _ => ?_
        refine au 0 1 (v := (a7 == 1)) rfl rfl rfl rfl (fun jq => ?_) (fun jq => ?_)
        ·
         try simp only [BS] at jq
         refine ah ?_
         refine wm (.pointer (some ⟨Z, 0, none⟩)) rfl rfl rfl ?_
         refine aJ (ay rfl rfl rfl) rfl rfl (m4.cT ex (⟨ch.n⟩ : DigT) (9) (HS.callOwn ar (i := 8) rfl) (by first | omega | (dsimp only; omega)) (by first | omega | (dsimp only; omega)) hT (by first | omega | (dsimp only; omega))) ?_
         rintro _ nt ⟨h4, kd, mQ, k5, c0, rfl, lP, nJ⟩
         replace c0 := HS.backOwn ar (i := 8) rfl rfl (fun _ hb => hb) c0
         have c0 : HS _ _ _ [_, _, _, _, _, _, _, _, [(Z, .cells [(iI kd.n)] none false)]] _ := c0
         refine wRo 2 2 [] 139 140 [] [(139, (iI (1 + h4))), (140, (.pointer (some ⟨E, 1, none⟩)))] (vA (vi (n := 1 + h4) (by first | omega | (dsimp only; omega))) trivial) rfl fun _ => ?_
         refine aN (aC (q := 6) c0 rfl rfl rfl rfl rfl rfl rfl rfl rfl) rfl ?_
         rintro _ nu _ ⟨hF, _⟩
         have hF : HS _ _ _ [_, _, _, _, _, _, [(E, .cells [(.slice z xi.length A), (iI 4), (iI 0), (iI 0), (iI 0)] none false)], _, _] _ := hF
         refine wRo 1 5 [] 141 141 [] [(141, (.pointer (some ⟨E, 3, none⟩)))] trivial rfl fun _ => ?_
         refine aN (aC (q := 6) hF rfl rfl rfl rfl rfl rfl rfl rfl rfl) rfl ?_
         rintro _ nv _ ⟨hG, _⟩
         have hG : HS _ _ _ [_, _, _, _, _, _, [(E, .cells [(.slice z xi.length A), (iI 4), (iI 0), (iI (1 + h4)), (iI 0)] none false)], _, _] _ := hG
         refine ao 0 rfl ?_
         exact gn _ _ ⟨4, 0, 1 + h4, 0, (⟨kd.n⟩ : DigT), _, (k5), hG, (agC rfl (agC rfl (agC rfl (agC rfl (agC rfl (agC rfl (agC rfl (agC rfl (agC rfl (agC rfl (agC rfl (agC rfl (agC rfl (agC rfl (agC rfl (agC rfl (agC rfl agN))))))))))))))))), (by first | assumption | omega | (simp at *; omega)), (by first | assumption | omega | (simp at *; omega))⟩
        ·
         try simp only [BS] at jq
         refine wR 1 [] 142 143 [] [(142, (.bool (a7 == 2)))] trivial rfl fun _ => ?_
         refine au 0 0 (v := (a7 == 2)) rfl rfl rfl rfl (fun g6 => ?_) (fun g6 => ?_)
         ·
          try simp only [BS] at g6
          refine ah ?_
          refine wRo 3 0 [(2, .o (iI (9 + (i : Int))))] 144 146 [] [(144, (.pointer (some ⟨Z, 0, none⟩))), (146, (iI (9 + (i : Int))))] (vA (ql 3 1 (HS.hc ar (i := 1) rfl) rfl rfl) trivial) rfl fun _ => ?_
          refine aJ (ay rfl rfl rfl) rfl rfl (m4.cT ex (⟨ch.n⟩ : DigT) (9 + (i : Int)) (HS.callOwn ar (i := 8) rfl) (by first | omega | (dsimp only; omega)) (by first | omega | (dsimp only; omega)) hT (by first | omega | (dsimp only; omega))) ?_
          rintro _ l8 ⟨kE, hK, l1, kJ, b0, rfl, lp, mB⟩
          replace b0 := HS.backOwn ar (i := 8) rfl rfl (fun _ hb => hb) b0
          have b0 : HS _ _ _ [_, _, _, _, _, _, _, _, [(Z, .cells [(iI hK.n)] none false)]] _ := b0
          refine wRo 1 4 [] 148 148 [] [(148, (.pointer (some ⟨E, 1, none⟩)))] trivial rfl fun _ => ?_
          refine aN (aC (q := 6) b0 rfl rfl rfl rfl rfl rfl rfl rfl rfl) rfl ?_
          rintro _ l9 _ ⟨dl, _⟩
          have dl : HS _ _ _ [_, _, _, _, _, _, [(E, .cells [(.slice z xi.length A), (iI 3), (iI 0), (iI 0), (iI 0)] none false)], _, _] _ := dl
          refine wRo 1 6 [] 149 149 [] [(149, (.pointer (some ⟨E, 2, none⟩)))] trivial rfl fun _ => ?_
          refine aN (aC (q := 6) dl rfl rfl rfl rfl rfl rfl rfl rfl rfl) rfl ?_
          rintro _ ma _ ⟨dn, _⟩
          have dn : HS _ _ _ [_, _, _, _, _, _, [(E, .cells [(.slice z xi.length A), (iI 3), (iI kE), (iI 0), (iI 0)] none false)], _, _] _ := dn
          refine ao 0 rfl ?_
          exact gn _ _ ⟨3, kE, 0, 0, (⟨hK.n⟩ : DigT), _, (kJ), dn, (agC rfl (agC rfl (agC rfl (agC rfl (agC rfl (agC rfl (agC rfl (agC rfl (agC rfl (agC rfl (agC rfl (agC rfl (agC rfl (agC rfl (agC rfl (agC rfl (agC rfl agN))))))))))))))))), (by first | assumption | omega | (simp at *; omega)), (by first | assumption | omega | (simp at *; omega))⟩
         ·
          try simp only [BS] at g6
          refine ah ?_
          refine wRo 3 0 [(2, .o (iI (9 + (i : Int))))] 111 113 [] [(111, (.pointer (some ⟨Z, 0, none⟩))), (113, (iI (9 + (i : Int))))] (vA (ql 3 1 (HS.hc ar (i := 1) rfl) rfl rfl) trivial) rfl fun _ => ?_
          refine aJ (ay rfl rfl rfl) rfl rfl (m4.cT ex (⟨ch.n⟩ : DigT) (9 + (i : Int)) (HS.callOwn ar (i := 8) rfl) (by first | omega | (dsimp only; omega)) (by first | omega | (dsimp only; omega)) hT (by first | omega | (dsimp only; omega))) ?_
          rintro _ mb ⟨g2, hN, l2, hS, a5, rfl, lq, mC⟩
          replace a5 := HS.backOwn ar (i := 8) rfl rfl (fun _ hb => hb) a5
          have a5 : HS _ _ _ [_, _, _, _, _, _, _, _, [(Z, .cells [(iI hN.n)] none false)]] _ := a5
          replace hT := hT.mono hS
          refine wRo 2 4 [] 115 116 [] [(115, (.pointer (some ⟨Z, 0, none⟩))), (116, (iI (1 + (if (5 : Int) < ((l.length / 6 : Nat) : Int) then (5 : Int) else ((l.length / 6 : Nat) : Int)))))] trivial rfl fun _ => ?_
          refine aJ (ay rfl rfl rfl) rfl rfl (m4.cT ex (⟨hN.n⟩ : DigT) (1 + (if (5 : Int) < ((l.length / 6 : Nat) : Int) then (5 : Int) else ((l.length / 6 : Nat) : Int))) (HS.callOwn a5 (i := 8) rfl) (by first | omega | (dsimp only; omega)) (by first | omega | (dsimp only; omega)) hT (by first | omega | (dsimp only; omega))) ?_
          rintro _ mc ⟨c3, hP, l3, hV, a6, rfl, lr, mD⟩
          replace a6 := HS.backOwn a5 (i := 8) rfl rfl (fun _ hb => hb) a6
          have a6 : HS _ _ _ [_, _, _, _, _, _, _, _, [(Z, .cells [(iI hP.n)] none false)]] _ := a6
          replace hT := hT.mono hV
          refine wRo 3 7 [] 118 120 [] [(118, (iI (1 + c3))), (119, (.pointer (some ⟨Z, 0, none⟩))), (120, (iI (1 + (if (5 : Int) < ((l.length / 6 : Nat) : Int) then (5 : Int) else ((l.length / 6 : Nat) : Int)))))] (vA (vi (n := 1 + c3) (by first | omega | (dsimp only; omega))) trivial) rfl fun _ => ?_
          refine aJ (ay rfl rfl rfl) rfl rfl (m4.cT ex (⟨hP.n⟩ : DigT) (1 + (if (5 : Int) < ((l.length / 6 : Nat) : Int) then (5 : Int) else ((l.length / 6 : Nat) : Int))) (HS.callOwn a6 (i := 8) rfl) (by first | omega | (dsimp only; omega)) (by first | omega | (dsimp only; omega)) hT (by first | omega | (dsimp only; omega))) ?_
          rintro _ md ⟨g3, hQ, l4, kK, b2, rfl, lv, mE⟩
          replace b2 := HS.backOwn a6 (i := 8) rfl rfl (fun _ hb => hb) b2
          have b2 : HS _ _ _ [_, _, _, _, _, _, _, _, [(Z, .cells [(iI hQ.n)] none false)]] _ := b2
          refine wRo 2 11 [] 122 123 [] [(122, (iI (1 + g3))), (123, (.pointer (some ⟨E, 1, none⟩)))] (vA (vi (n := 1 + g3) (by first | omega | (dsimp only; omega))) trivial) rfl fun _ => ?_
          refine aN (aC (q := 6) b2 rfl rfl rfl rfl rfl rfl rfl rfl rfl) rfl ?_
          rintro _ me _ ⟨ds, _⟩
          have ds : HS _ _ _ [_, _, _, _, _, _, [(E, .cells [(.slice z xi.length A), (iI 2), (iI 0), (iI 0), (iI 0)] none false)], _, _] _ := ds
          refine wRo 1 14 [] 124 124 [] [(124, (.pointer (some ⟨E, 2, none⟩)))] trivial rfl fun _ => ?_
          refine aN (aC (q := 6) ds rfl rfl rfl rfl rfl rfl rfl rfl rfl) rfl ?_
          rintro _ mf _ ⟨dt, _⟩
          have dt : HS _ _ _ [_, _, _, _, _, _, [(E, .cells [(.slice z xi.length A), (iI 2), (iI g2), (iI 0), (iI 0)] none false)], _, _] _ := dt
          refine wRo 1 16 [] 125 125 [] [(125, (.pointer (some ⟨E, 3, none⟩)))] trivial rfl fun _ => ?_
          refine aN (aC (q := 6) dt rfl rfl rfl rfl rfl rfl rfl rfl rfl) rfl ?_
          rintro _ mg _ ⟨dv, _⟩
          have dv : HS _ _ _ [_, _, _, _, _, _, [(E, .cells [(.slice z xi.length A), (iI 2), (iI g2), (iI (1 + c3)), (iI 0)] none false)], _, _] _ := dv
          refine wRo 1 18 [] 126 126 [] [(126, (.pointer (some ⟨E, 4, none⟩)))] trivial rfl fun _ => ?_
          refine aN (aC (q := 6) dv rfl rfl rfl rfl rfl rfl rfl rfl rfl) rfl ?_
          rintro _ mh _ ⟨d1, _⟩
          have d1 : HS _ _ _ [_, _, _, _, _, _, [(E, .cells [(.slice z xi.length A), (iI 2), (iI g2), (iI (1 + c3)), (iI (1 + g3))] none false)], _, _] _ := d1
          refine ao 0 rfl ?_
          exact gn _ _ ⟨2, g2, 1 + c3, 1 + g3, (⟨hQ.n⟩ : DigT), _, (fT (fT (hS) hV) kK), d1, (agC rfl (agC rfl (agC rfl (agC rfl (agC rfl (agC rfl (agC rfl (agC rfl (agC rfl (agC rfl (agC rfl (agC rfl (agC rfl (agC rfl (agC rfl (agC rfl (agC rfl agN))))))))))))))))), (by first | assumption | omega | (simp at *; omega)), (by first | assumption | omega | (simp at *; omega))⟩
      ·
       rintro nE np ⟨xe, xg, xt, xf, dd, lD, ha, hB, km, hD, hdd⟩
       refine aO _ km (fun _ => ?_)
       clear km
       replace U := U.mono ha
       replace V := V.mono ha
       refine aw 4 rfl ?_
       refine wR 1 [(6, .o (iI xe))] 150 158 [] [(158, (.bool (((b : Int) == (1 + (if (5 : Int) < ((l.length / 6 : Nat) : Int) then (5 : Int) else ((l.length / 6 : Nat) : Int))) - 1) && (xe == 1))))] (vA (vi (n := (1 + (if (5 : Int) < ((l.length / 6 : Nat) : Int) then (5 : Int) else ((l.length / 6 : Nat) : Int))) - 1) (by first | omega | (dsimp only; omega))) (vA (fun (g1 : ((b : Int) == (1 + (if (5 : Int) < ((l.length / 6 : Nat) : Int) then (5 : Int) else ((l.length / 6 : Nat) : Int))) - 1) = true) => (ql 3 1 (HS.hc hB (i := 6) rfl) rfl rfl)) trivial)) rfl fun _ => ?_
       refine dH (fun f H' => ∃ (ye : Int) (yg : Int) (yt : Int) (F' : Fz), Fz.le lD F' ∧ HS (Base.of H []) F' H' [b6, g4, c4, [], g5, ad, [(E, .cells [(.slice z xi.length A), (iI ye), (iI yg), (iI yt), (iI xf)] none false)], ag, [(Z, .cells [(iI dd.n)] none false)]] R ∧ bc f [(0, (.slice a_l l.length k_l)), (4, (.pointer (some ⟨b1, 0, none⟩))), (5, (.pointer (some ⟨b4, 0, none⟩))), (6, (iI (1 + (if (5 : Int) < ((l.length / 6 : Nat) : Int) then (5 : Int) else ((l.length / 6 : Nat) : Int))))), (11, (iI (b : Int))), (12, (.pointer (some ⟨E, 0, none⟩))), (13, (iI (k : Int))), (14, (iI nn)), (15, (.pointer (some ⟨Z, 0, none⟩))), (64, (.bool (decide ((b : Int) < 1 + (if (5 : Int) < ((l.length / 6 : Nat) : Int) then (5 : Int) else ((l.length / 6 : Nat) : Int)))))), (77, (.bool ((decide ((k : Int) < 5)) && (decide ((6 * (b : Int)) + (k : Int) < (l.length : Int)))))), (99, (.bool (decide ((6 * (b : Int)) + 5 < (l.length : Int))))), (107, (.agg ⟨[(iI nn)]⟩)), (108, (.pointer (some ⟨Z, 0, none⟩))), (109, (.pointer (some ⟨Z, 0, none⟩))), (110, (iI a7)), (127, (.bool (a7 == 0))), (158, (.bool (((b : Int) == (1 + (if (5 : Int) < ((l.length / 6 : Nat) : Int) then (5 : Int) else ((l.length / 6 : Nat) : Int))) - 1) && (xe == 1))))] ∧ ((ye = 1 ∧ 0 ≤ yt ∧ yt < ((1 + (if (5 : Int) < ((l.length / 6 : Nat) : Int) then (5 : Int) else ((l.length / 6 : Nat) : Int)))) + 1 ∧ xf = 0 ∧ yg = 0 ∨ ye = 2 ∧ 0 ≤ yt ∧ yt < ((1 + (if (5 : Int) < ((l.length / 6 : Nat) : Int) then (5 : Int) else ((l.length / 6 : Nat) : Int)))) + 1 ∧ 0 ≤ xf ∧ xf < ((1 + (if (5 : Int) < ((l.length / 6 : Nat) : Int) then (5 : Int) else ((l.length / 6 : Nat) : Int)))) + 1 ∧ 0 ≤ yg ∧ yg < 9 + (i : Int) ∨ ye = 3 ∧ 0 ≤ yg ∧ yg < 9 + (i : Int) ∧ yt = 0 ∧ xf = 0 ∨ ye = 4 ∧ 1 ≤ yt ∧ yt < 33554432 ∧ xf = 0 ∧ yg = 0))) (fun h2 => ?_) ?_
       ·
        refine au 0 0 (v := (((b : Int) == (1 + (if (5 : Int) < ((l.length / 6 : Nat) : Int) then (5 : Int) else ((l.length / 6 : Nat) : Int))) - 1) && (xe == 1))) rfl rfl rfl rfl (fun g7 => ?_) (fun g7 => ?_)
        ·
         try simp only [BS] at g7
         refine ah ?_
         refine wRo 1 0 [] 159 159 [] [(159, (.pointer (some ⟨E, 1, none⟩)))] trivial rfl fun _ => ?_
         refine aN (aC (q := 6) hB rfl rfl rfl rfl rfl rfl rfl rfl rfl) rfl ?_
         rintro _ mj _ ⟨eb, _⟩
         have eb : HS _ _ _ [_, _, _, _, _, _, [(E, .cells [(.slice z xi.length A), (iI 3), (iI xg), (iI xt), (iI xf)] none false)], _, [(Z, .cells [(iI dd.n)] none false)]] _ := eb
         refine wRo 1 2 [] 160 160 [] [(160, (.pointer (some ⟨E, 3, none⟩)))] trivial rfl fun _ => ?_
         refine aN (aC (q := 6) eb rfl rfl rfl rfl rfl rfl rfl rfl rfl) rfl ?_
         rintro _ ml _ ⟨ei, _⟩
         have ei : HS _ _ _ [_, _, _, _, _, _, [(E, .cells [(.slice z xi.length A), (iI 3), (iI xg), (iI 0), (iI xf)] none false)], _, _] _ := ei
         refine wRo 1 4 [] 161 161 [] [(161, (.pointer (some ⟨E, 2, none⟩)))] trivial rfl fun _ => ?_
         refine aN (aC (q := 6) ei rfl rfl rfl rfl rfl rfl rfl rfl rfl) rfl ?_
         rintro _ mn _ ⟨em, _⟩
         have em : HS _ _ _ [_, _, _, _, _, _, [(E, .cells [(.slice z xi.length A), (iI 3), (iI 0), (iI 0), (iI xf)] none false)], _, _] _ := em
         refine ao 0 rfl ?_
         exact h2 _ _ ⟨3, 0, 0, _, fR, em, (agC rfl (agC rfl (agC rfl (agC rfl (agC rfl (agC rfl (agC rfl (agC rfl (agC rfl (agC rfl (agC rfl (agC rfl (agC rfl (agC rfl (agC rfl (agC rfl (agC rfl (agC rfl agN)))))))))))))))))), (by first | assumption | omega | (simp at *; omega))⟩
        ·
         try simp only [BS] at g7
         exact h2 _ _ ⟨xe, xg, xt, _, fR, hB, (agC rfl (agC rfl (agC rfl (agC rfl (agC rfl (agC rfl (agC rfl (agC rfl (agC rfl (agC rfl (agC rfl (agC rfl (agC rfl (agC rfl (agC rfl (agC rfl (agC rfl (agC rfl agN)))))))))))))))))), (by first | assumption | omega | (simp at *; omega))⟩
       ·
        rintro mA mi ⟨ye, yg, yt, l5, c7, d2, h1, hY⟩
        refine aO _ h1 (fun _ => ?_)
        clear h1
        replace V := V.mono c7
        refine aw 1 rfl ?_
        refine ah ?_
        let hI : Value := (.agg ⟨[(.slice z xi.length A), (iI ye), (iI yg), (iI yt), (iI xf)]⟩)
        refine wRo 3 0 [(1, .o (.slice O bl.length T)), (2, .o hI)] 162 164 [] [(163, (.slice O bl.length T)), (164, hI)] (vA (ql 22 2 (HS.hc d2 (i := 1) rfl) rfl rfl) (vA (qn 42 0 5 (HS.hc d2 (i := 6) rfl) rfl rfl rfl rfl) trivial)) rfl fun _ => ?_
        obtain ⟨l6, hW, es, kS, lZ⟩ := OS.frz V d2 (i := 7) rfl
        have es : HS _ _ _ [_, _, _, _, _, _, [(E, .cells [(.slice z xi.length A), (iI ye), (iI yg), (iI yt), (iI xf)] none false)], [], [(Z, .cells [(iI dd.n)] none false)]] _ := es
        replace U := (U.mono c7).mono hW
        refine bf (cS (α := BlkT) (ps := [(0, hI)]) (cells := [(.slice z xi.length A), (iI ye), (iI yg), (iI yt), (iI xf)]) ([(⟨xi, ye, yg, yt, xf⟩ : BlkT)] : List BlkT) es rfl rfl rfl (by kernel_rfl) ⟨[(.slice z xi.length A), (iI ye), (iI yg), (iI yt), (iI xf)], [], rfl, ⟨z, A, rfl, by first | omega | (dsimp only; omega), by first | omega | (dsimp only; omega), by first | omega | (dsimp only; omega), by first | omega | (dsimp only; omega), kS⟩, rfl⟩ rfl) rfl rfl ?_
        rintro _ mo ln ⟨mx, mH, rfl, kQ, b7, _⟩
        have b7 : HS _ _ _ [_, _, _, _, _, _, _, _, _, ln] _ := b7
        refine bf (d3 (α := BlkT) (q := 5) U b7 rfl rfl rfl (OS.sv kQ b7 (i := 9) rfl) rfl rfl rfl rfl rfl rfl rfl (by first | omega | (simp only [List.length_cons, List.length_nil]; omega))) rfl rfl ?_
        rintro _ mp kB ⟨h7, kx, rfl, kR, et, _⟩
        have et : HS _ _ _ [_, _, _, _, _, kB, _, _, _, _] _ := et
        refine wRo 1 5 [] 167 167 [] [(167, (.pointer (some ⟨b4, 2, none⟩)))] trivial rfl fun _ => ?_
        refine aN (aC (q := 1) et rfl rfl rfl rfl rfl rfl rfl rfl rfl) rfl ?_
        rintro _ mq _ ⟨ez, _⟩
        have ez : HS _ _ _ [_, [(b4, .cells [(iI params), (iI (9 + (i : Int))), (.slice h7 (bl ++ ([(⟨xi, ye, yg, yt, xf⟩ : BlkT)] : List BlkT)).length kx)] none false)], _, _, _, _, _, _, _, _] _ := ez
        refine ao 2 rfl ?_
        refine wR 1 [] 65 66 [11] [(11, (iI ((b : Int) + 1)))] (vA (vi (n := (b : Int) + 1) (by first | omega | (dsimp only; omega))) trivial) rfl fun _ => ?_
        refine lf _ _ _ ?_ ⟨bl ++ ([(⟨xi, ye, yg, yt, xf⟩ : BlkT)] : List BlkT), b + 1, kB, h7, kx, _, (fT (fT (fT (fT (fT (c9) ci) dk) ha) c7) hW), (HS.sub ez (List.sublist_append_left _ _)), kR, (agC rfl (agC rfl (agC rfl (agC rfl (agC rfl agN))))), rfl, (by simp; omega), (by exact dU e2 (blk_mk z2 (by omega))), (by exact ins_snoc e3 (by first | omega | (dsimp only; omega))), (by exact dU e5 z4), (by exact first_snoc e6 (by omega)), (by first | assumption | omega | (simp at *; omega))⟩
        omega
   ·
    try simp only [BS] at i3
    refine ah ?_
    let kG : Value := (.agg ⟨[(iI params), (iI (9 + (i : Int))), (.slice O bl.length T)]⟩)
    refine wRo 1 0 [(0, .o kG)] 168 168 [] [(168, kG)] (vA (qn 24 0 3 (HS.hc hy (i := 1) rfl) rfl rfl rfl rfl) trivial) rfl fun _ => ?_
    refine aN (aC (q := 0) hy rfl rfl rfl rfl rfl rfl rfl rfl rfl) rfl ?_
    rintro _ mr _ ⟨cd, _⟩
    have cd : HS _ _ _ [[(b1, .cells [(iI params), (iI (9 + (i : Int))), (.slice O bl.length T)] none false)], [(b4, .cells [(iI params), (iI (9 + (i : Int))), (.slice O bl.length T)] none false)], _, _, _, ad] _ := cd
    refine ao 1 rfl ?_
    obtain ⟨l7, kL, e0, kT, l0⟩ := OS.frz U cd (i := 5) rfl
    have e0 : HS _ _ _ [_, _, _, _, _, []] _ := e0
    refine am ⟨.inr rfl, _, (rC rfl (ldVN rfl rfl (HS.hc cd (i := 0) rfl) rfl) rN), (⟨params, 9 + (i : Int), bl⟩ : VFnT), O, T, _, (fT (fT (fT (fT (hX) c8) g9) c9) kL), (HS.forget e0), rfl, (by first | omega | (dsimp only; omega)), (by first | omega | (dsimp only; omega)), kT, (by exact ⟨val_mk (by omega) (by omega) e2, rfl, by first | omega | (dsimp only; omega), ⟨by first | omega | (dsimp only; omega), by first | omega | (dsimp only; omega)⟩, ins_at e3, e5, fi, e6, by first | omega | (dsimp only; omega), w5⟩)⟩
end Go.Proofs.YtlabedbmgmfbaaaDoor.m5
