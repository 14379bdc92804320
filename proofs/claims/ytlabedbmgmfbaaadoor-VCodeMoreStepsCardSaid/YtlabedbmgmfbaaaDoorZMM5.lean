/-
 The generator of virtual code, whole, by a symbolic run: what it makes is valid. No condition but that the table lies as laid.
-/
import Derived.Test.YtlabedbmgmfbaaaDoorZMM4
noncomputable section
namespace Go.Proofs.YtlabedbmgmfbaaaDoor.m5
open Go.R
set_option maxRecDepth 10000
set_option linter.unusedVariables false
open m1 m2 m3 m4
theorem vin_ldi {params regs r op : Int} (hr : 0 ≤ r ∧ r < regs) (ho : op = 13 ∨ op = 38 ∧ r < params) : f0 params regs ⟨⟨op, r, 0, 0, r⟩, []⟩ = true := by
 rcases ho with rfl | ⟨rfl, hp⟩
 ·
  exact vin_mk (by decide) (.inr rfl) (by simp) rfl (gt (by decide) hr) (eX (by decide) rfl) (eX (by decide) rfl) rfl
 ·
  exact vin_mk (by decide) (.inr rfl) (by simp) rfl (gt (by decide) hr) (eX (by decide) rfl) (eX (by decide) rfl) (decide_eq_true ⟨hr.1, hp⟩)
theorem dT {α : Type} {p : α → Bool} {l : List α} {x : α} (h : l.all p = true) (hx : p x = true) : (l ++ [x]).all p = true := by rw [List.all_append, h]; simp [hx]
theorem blk_mk {params regs nb e g t f : Int} {l : List VInT} (h : l.all (f0 params regs) = true) (z : e = 1 ∧ 0 ≤ t ∧ t < nb ∧ f = 0 ∧ g = 0 ∨ e = 2 ∧ 0 ≤ t ∧ t < nb ∧ 0 ≤ f ∧ f < nb ∧ 0 ≤ g ∧ g < regs ∨ e = 3 ∧ 0 ≤ g ∧ g < regs ∧ t = 0 ∧ f = 0 ∨ e = 4 ∧ 1 ≤ t ∧ t < 33554432 ∧ f = 0 ∧ g = 0) : blkV params regs nb ⟨l, e, g, t, f⟩ = true := iK h (cF.2 z)
theorem ins_snoc {l : List BlkT} {x : BlkT} (h : ∀ y ∈ l, y.ins.length ≤ 11) (hx : x.ins.length ≤ 11) : ∀ y ∈ l ++ [x], y.ins.length ≤ 11 := fun y hy => by
 rcases List.mem_append.1 hy with hy | hy
 ·
  exact h y hy
 ·
  rw [List.mem_singleton] at hy; rw [hy]; exact hx
theorem ins_at {l : List BlkT} (h : ∀ y ∈ l, y.ins.length ≤ 11) (j : Nat) : (l.getD j default).ins.length ≤ 11 := by
 rw [List.getD_eq_getElem?_getD]
 rcases hj : l[j]? with _ | y
 ·
  exact Nat.zero_le _
 ·
  exact h y (List.mem_of_getElem? hj)
def fstOK (fi : List VInT) : Prop := ∀ q : Nat, q < fi.length → (fi.getD q default).i.a = q ∧ ((fi.getD q default).i.op = 13 ∨ (fi.getD q default).i.op = 38)
theorem fst_snoc {fi : List VInT} {x : VInT} (h : fstOK fi) (hx : x.i.a = (fi.length : Int) ∧ (x.i.op = 13 ∨ x.i.op = 38)) : fstOK (fi ++ [x]) := fun q hq => by
 rw [List.length_append] at hq
 simp only [List.length_cons, List.length_nil] at hq
 rcases Nat.lt_or_ge q fi.length with z | z
 ·
  rw [List.getD_eq_getElem?_getD, List.getElem?_append_left z, ← List.getD_eq_getElem?_getD]; exact h q z
 ·
  have : q = fi.length := by omega
  subst this
  rw [List.getD_eq_getElem?_getD, List.getElem?_append_right (Nat.le_refl _), Nat.sub_self]; exact hx
theorem first_snoc {l : List BlkT} {x y : BlkT} (h : l.getD 0 default = x) (hl : 0 < l.length) : (l ++ [y]).getD 0 default = x := by
 rw [List.getD_eq_getElem?_getD, List.getElem?_append_left hl, ← List.getD_eq_getElem?_getD]; exact h
theorem ck_ldi {v : VInT} (ho : v.i.op = 13 ∨ v.i.op = 38) : ckI v = true := decide_eq_true ⟨fun h => by omega, fun h => by omega⟩
structure vfG (x : VFnT) (params : Int) : Prop where
 val : eV x = true
 par : x.params = params
 reg : x.regs = 9 + params
 nb : 2 ≤ x.blocks.length ∧ x.blocks.length ≤ 7
 ins : ∀ j, (x.blocks.getD j default).ins.length ≤ 11
 ck : x.blocks.all (fun y => y.ins.all ckI) = true
 fst : ∃ fi, x.blocks.getD 0 default = ⟨fi, 1, 0, 1, 0⟩ ∧ (fi.length : Int) = x.regs ∧ fstOK fi
theorem val_mk {p r : Int} {l : List BlkT} {n : Int} (h : 0 ≤ p ∧ p ≤ 6 ∧ 0 ≤ r ∧ r ≤ 3000 ∧ 1 ≤ l.length ∧ l.length ≤ 1000) (hn : (l.length : Int) = n) (z : l.all (blkV p r n) = true) : eV ⟨p, r, l⟩ = true := by subst hn; exact (val_yes (c := ⟨p, r, l⟩) h z).symm
set_option maxHeartbeats 2000000 in
theorem vf_c (ex : FuncId) {a_l : Option Addr} {k_l : Nat} (l : List Int) (params : Int) {F : Fz} {H : Heap} {R : List Fp} (hs : HS (.of H []) F H [] R) (hl : SR F (.slice a_l l.length k_l) l) (hT : TB 37 tabC F) (hp : 0 ≤ params ∧ params ≤ 2) (hbl : l.length ≤ 1000) : C Tryd.prog 1 (KT 60 ex 37 tabC) 16 [(.slice a_l l.length k_l), (iI params)] H fun v H' => ∃ (x : VFnT) (i1 : Option Addr) (kx : Nat) (F' : Fz), Fz.le F F' ∧ HS (.of H []) F' H' [] R ∧ v = .agg ⟨[.int .i64 x.params, .int .i64 x.regs, .slice i1 x.blocks.length kx]⟩ ∧ in64 x.params ∧ in64 x.regs ∧ SR F' (.slice i1 x.blocks.length kx) x.blocks ∧ (vfG x params) := by
 refine aL Tryd.func16 rfl rfl ?_
 refine ay 1 rfl ?_
 refine ah ?_
 refine br (bX hs rfl) rfl rfl ?_
 rintro _ H2 _ ⟨b1, rfl, kl, _⟩
 let b6 : Fp := [(b1, .cells [(iI 0), (iI 0), (.slice none 0 0)] none false)]
 have kl : HS _ _ _ [b6] _ := kl
 refine au 2 rfl ?_
 refine ah ?_
 refine wRo 2 0 [] 16 17 [] [(17, (.agg ⟨[(iI params), (iI 9), (.slice none 0 0)]⟩))] trivial rfl fun _ => ?_
 refine br (bX kl rfl) rfl rfl ?_
 rintro _ H5 _ ⟨b4, rfl, km, _⟩
 have km : HS _ _ _ [_, [(b4, .cells [(iI 0), (iI 0), (.slice none 0 0)] none false)]] _ := km
 refine aN (aC (q := 1) km rfl rfl rfl rfl rfl rfl rfl rfl rfl) rfl ?_
 rintro _ H6 _ ⟨kn, _⟩
 have kn : HS _ _ _ [_, [(b4, .cells [(iI params), (iI 9), (.slice none 0 0)] none false)]] _ := kn
 refine au 2 rfl ?_
 refine wR 3 [] 18 22 [6] [(6, (iI (1 + (if (5 : Int) < ((l.length / 6 : Nat) : Int) then (5 : Int) else ((l.length / 6 : Nat) : Int)))))] (vA (vA (show (6 : Int) ≠ 0 from by decide) (vi (n := ((l.length / 6 : Nat) : Int)) (by first | omega | (dsimp only; omega)))) (vA (vi (n := 1 + (if (5 : Int) < ((l.length / 6 : Nat) : Int) then (5 : Int) else ((l.length / 6 : Nat) : Int))) (by first | omega | (dsimp only; omega))) trivial)) rfl fun _ => ?_
 have hM : 1 ≤ (1 + (if (5 : Int) < ((l.length / 6 : Nat) : Int) then (5 : Int) else ((l.length / 6 : Nat) : Int))) ∧ (1 + (if (5 : Int) < ((l.length / 6 : Nat) : Int) then (5 : Int) else ((l.length / 6 : Nat) : Int))) ≤ 6 := by omega
 refine wR 2 [] 1 0 [7] [(7, (iI 0))] trivial rfl fun _ => ?_
 refine aQ (fun (mm : Nat) f H' => ∃ (i : Nat) (F' : Fz), Fz.le F F' ∧ HS (Base.of H []) F' H' [b6, [(b4, .cells [(iI params), (iI (9 + (i : Int))), (.slice none 0 0)] none false)]] R ∧ be f [(0, (.slice a_l l.length k_l)), (1, (iI params)), (4, (.pointer (some ⟨b1, 0, none⟩))), (5, (.pointer (some ⟨b4, 0, none⟩))), (6, (iI (1 + (if (5 : Int) < ((l.length / 6 : Nat) : Int) then (5 : Int) else ((l.length / 6 : Nat) : Int))))), (7, (iI (i : Int)))] ∧ mm = (params - (i : Int)).toNat ∧ ((i : Int) ≤ params)) _ ⟨0, _, fR, kn, (agC rfl (agC rfl (agC rfl (agC rfl (agC rfl (agC rfl agN)))))), rfl, (by first | assumption | omega | (simp at *; omega))⟩ ?_
 rintro nK f9 H9 ⟨i, F9, h2, ko, kU, rfl, q1⟩ lN
 refine aO _ kU (fun _ => ?_)
 clear kU
 replace hT := hT.mono h2
 replace hl := hl.mono h2
 refine ay 2 rfl ?_
 refine wR 1 [] 23 25 [] [(25, (.bool (decide ((i : Int) < params))))] trivial rfl fun _ => ?_
 refine ao 3 5 (v := (decide ((i : Int) < params))) rfl rfl rfl rfl (fun i2 => ?_) (fun i2 => ?_)
 ·
  try simp only [BS] at i2
  refine ah ?_
  refine wRo 4 0 [(1, .o (iI (9 + (i : Int))))] 28 31 [] [(30, (iI ((9 + (i : Int)) + 1))), (31, (.pointer (some ⟨b4, 1, none⟩)))] (vA (ql 3 1 (HS.hc ko (i := 1) rfl) rfl rfl) (vA (vi (n := (9 + (i : Int)) + 1) (by first | omega | (dsimp only; omega))) trivial)) rfl fun _ => ?_
  refine aN (aC (q := 1) ko rfl rfl rfl rfl rfl rfl rfl rfl rfl) rfl ?_
  rintro _ mO _ ⟨hh, _⟩
  have hh : HS _ _ _ [_, [(b4, .cells [(iI params), (iI ((9 + (i : Int)) + 1)), (.slice none 0 0)] none false)]] _ := hh
  refine au 2 rfl ?_
  refine wR 1 [] 26 27 [7] [(7, (iI ((i : Int) + 1)))] (vA (vi (n := (i : Int) + 1) (by first | omega | (dsimp only; omega))) trivial) rfl fun _ => ?_
  refine lN _ _ _ ?_ ⟨i + 1, _, (h2), hh, (agC rfl (agC rfl (agC rfl (agC rfl (agC rfl (agC rfl agN)))))), rfl, (by first | assumption | omega | (simp at *; omega))⟩
  omega
 ·
  try simp only [BS] at i2
  refine ah ?_
  refine br (bX ko rfl) rfl rfl ?_
  rintro _ mP _ ⟨a3, rfl, hj, _⟩
  let kE : Fp := [(b4, .cells [(iI params), (iI (9 + (i : Int))), (.slice none 0 0)] none false)]
  have hj : HS _ _ _ [_, kE, [(a3, .cells [(.slice none 0 0), (iI 0), (iI 0), (iI 0), (iI 0)] none false)]] _ := hj
  refine au 3 rfl ?_
  refine wR 2 [] 1 0 [9] [(9, (iI 0))] trivial rfl fun _ => ?_
  have hm := HS.snoc hj
  have hm : HS _ _ _ [_, _, _, []] _ := hm
  refine aQ (fun (mm : Nat) f H' => ∃ (fi : List VInT) (r : Nat) (aq : Fp) (I : Option Addr) (J : Nat) (F' : Fz), Fz.le F9 F' ∧ HS (Base.of H []) F' H' [b6, kE, [(a3, .cells [(.slice I fi.length J), (iI 0), (iI 0), (iI 0), (iI 0)] none false)], aq] R ∧ OS F' (.slice I fi.length J) fi aq ∧ be f [(0, (.slice a_l l.length k_l)), (1, (iI params)), (4, (.pointer (some ⟨b1, 0, none⟩))), (5, (.pointer (some ⟨b4, 0, none⟩))), (6, (iI (1 + (if (5 : Int) < ((l.length / 6 : Nat) : Int) then (5 : Int) else ((l.length / 6 : Nat) : Int))))), (8, (.pointer (some ⟨a3, 0, none⟩))), (9, (iI (r : Int)))] ∧ mm = (9 + (i : Int) - (r : Int)).toNat ∧ (fi.length = r) ∧ (fi.all (f0 params (9 + (i : Int))) = true) ∧ (fi.all ckI = true) ∧ (fstOK fi) ∧ ((r : Int) ≤ 9 + (i : Int))) _ ⟨([] : List VInT), 0, [], none, 0, _, fR, hm, (OS.nil : OS F9 (.slice none 0 0) ([] : List VInT) []), (agC rfl (agC rfl (agC rfl (agC rfl (agC rfl (agC rfl (agC rfl agN))))))), rfl, (by rfl), (by rfl), (by rfl), (by intro q hq; cases hq), (by first | assumption | omega | (simp at *; omega))⟩ ?_
  rintro mF nw mQ ⟨fi, r, aq, I, J, ly, c8, hk, a0, ke, rfl, w1, w2, w4, w5, w3⟩ la
  refine aO _ ke (fun _ => ?_)
  clear ke
  replace hT := hT.mono c8
  replace hl := hl.mono c8
  refine ay 2 rfl ?_
  refine wR 1 [(2, .o (iI (9 + (i : Int))))] 32 35 [] [(35, (.bool (decide ((r : Int) < 9 + (i : Int)))))] (vA (ql 3 1 (HS.hc hk (i := 1) rfl) rfl rfl) trivial) rfl fun _ => ?_
  refine ao 4 5 (v := (decide ((r : Int) < 9 + (i : Int)))) rfl rfl rfl rfl (fun i3 => ?_) (fun i3 => ?_)
  ·
   try simp only [BS] at i3
   refine ah ?_
   let kX : Value := (.agg ⟨[(iI 13), (iI (r : Int)), (iI 0), (iI 0), (iI (r : Int))]⟩)
   refine wRo 3 0 [] 38 40 [] [(40, kX)] trivial rfl fun _ => ?_
   refine br (bX hk rfl) rfl rfl ?_
   rintro _ mR _ ⟨c6, rfl, hn, _⟩
   let kY : Fp := [(a3, .cells [(.slice I fi.length J), (iI 0), (iI 0), (iI 0), (iI 0)] none false)]
   have hn : HS _ _ _ [_, _, kY, aq, [(c6, .cells [(iI 0), (iI 0), (iI 0), (iI 0), (iI 0)] none false)]] _ := hn
   refine aN (aC (q := 4) hn rfl rfl rfl rfl rfl rfl rfl rfl rfl) rfl ?_
   rintro _ mS _ ⟨f2, _⟩
   have f2 : HS _ _ _ [_, _, _, _, [(c6, .cells [(iI 13), (iI (r : Int)), (iI 0), (iI 0), (iI (r : Int))] none false)]] _ := f2
   refine au 3 rfl ?_
   refine wR 1 [] 41 43 [] [(43, (.bool (decide ((r : Int) < params))))] trivial rfl fun _ => ?_
   refine dG (fun f H' => ∃ (vo : Int) (F' : Fz), Fz.le ly F' ∧ HS (Base.of H []) F' H' [b6, kE, kY, aq, [(c6, .cells [(iI vo), (iI (r : Int)), (iI 0), (iI 0), (iI (r : Int))] none false)]] R ∧ be f [(0, (.slice a_l l.length k_l)), (1, (iI params)), (4, (.pointer (some ⟨b1, 0, none⟩))), (5, (.pointer (some ⟨b4, 0, none⟩))), (6, (iI (1 + (if (5 : Int) < ((l.length / 6 : Nat) : Int) then (5 : Int) else ((l.length / 6 : Nat) : Int))))), (8, (.pointer (some ⟨a3, 0, none⟩))), (9, (iI (r : Int))), (10, (.pointer (some ⟨c6, 0, none⟩))), (35, (.bool (decide ((r : Int) < 9 + (i : Int))))), (40, kX), (43, (.bool (decide ((r : Int) < params))))] ∧ (vo = 13 ∨ vo = 38 ∧ (r : Int) < params)) (fun kr => ?_) ?_
   ·
    refine ao 0 0 (v := (decide ((r : Int) < params))) rfl rfl rfl rfl (fun ja => ?_) (fun ja => ?_)
    ·
     try simp only [BS] at ja
     refine ah ?_
     refine wRo 3 0 [] 44 46 [] [(46, (.agg ⟨[(iI 38), (iI (r : Int)), (iI 0), (iI 0), (iI (r : Int))]⟩))] trivial rfl fun _ => ?_
     refine aN (aC (q := 4) f2 rfl rfl rfl rfl rfl rfl rfl rfl rfl) rfl ?_
     rintro _ mU _ ⟨hr, _⟩
     have hr : HS _ _ _ [_, _, _, _, [(c6, .cells [(iI 38), (iI (r : Int)), (iI 0), (iI 0), (iI (r : Int))] none false)]] _ := hr
     refine au 0 rfl ?_
     exact kr _ _ ⟨38, _, fR, hr, (agC rfl (agC rfl (agC rfl (agC rfl (agC rfl (agC rfl (agC rfl (agC rfl (agC rfl (agC rfl (agC rfl agN))))))))))), (by first | assumption | omega | (simp at *; omega))⟩
    ·
     try simp only [BS] at ja
     exact kr _ _ ⟨13, _, fR, f2, (agC rfl (agC rfl (agC rfl (agC rfl (agC rfl (agC rfl (agC rfl (agC rfl (agC rfl (agC rfl (agC rfl agN))))))))))), (by first | assumption | omega | (simp at *; omega))⟩
   ·
    rintro nx mT ⟨vo, mJ, kb, ho, kf, hvo⟩
    refine aO _ kf (fun _ => ?_)
    clear kf
    replace a0 := a0.mono kb
    refine ay 1 rfl ?_
    refine ah ?_
    let kC : Value := (.agg ⟨[(iI vo), (iI (r : Int)), (iI 0), (iI 0), (iI (r : Int)), (.slice none 0 0)]⟩)
    refine wRo 4 0 [(1, .o (.slice I fi.length J)), (2, .o (.agg ⟨[(iI vo), (iI (r : Int)), (iI 0), (iI 0), (iI (r : Int))]⟩))] 47 50 [] [(48, (.slice I fi.length J)), (50, kC)] (vA (ql 40 0 (HS.hc ho (i := 2) rfl) rfl rfl) (vA (qn 45 0 5 (HS.hc ho (i := 4) rfl) rfl rfl rfl rfl) trivial)) rfl fun _ => ?_
    refine br (db (α := VInT) (ps := [(0, kC)]) (cells := [(iI vo), (iI (r : Int)), (iI 0), (iI 0), (iI (r : Int)), (.slice none 0 0)]) ([(⟨(⟨vo, (r : Int), 0, 0, (r : Int)⟩ : InsT), ([] : List Int)⟩ : VInT)] : List VInT) ho rfl rfl rfl (by kernel_rfl) ⟨[(iI vo), (iI (r : Int)), (iI 0), (iI 0), (iI (r : Int)), (.slice none 0 0)], [], rfl, ⟨none, 0, rfl, by first | omega | (dsimp only; omega), by first | omega | (dsimp only; omega), by first | omega | (dsimp only; omega), by first | omega | (dsimp only; omega), by first | omega | (dsimp only; omega), SR.nil⟩, rfl⟩ rfl) rfl rfl ?_
    rintro _ mV lO ⟨nt, nH, rfl, k4, f6, _⟩
    have f6 : HS _ _ _ [_, _, _, _, [(c6, .cells [(iI vo), (iI (r : Int)), (iI 0), (iI 0), (iI (r : Int))] none false)], lO] _ := f6
    refine br (eW (α := VInT) (q := 3) a0 f6 rfl rfl rfl (OS.sv k4 f6 (i := 5) rfl) rfl rfl rfl rfl rfl rfl rfl (by first | omega | (simp only [List.length_cons, List.length_nil]; omega))) rfl rfl ?_
    rintro _ mW kW ⟨kT, kV, rfl, k5, ht, _⟩
    have ht : HS _ _ _ [_, _, _, kW, _, _] _ := ht
    refine wRo 1 6 [] 53 53 [] [(53, (.pointer (some ⟨a3, 0, none⟩)))] trivial rfl fun _ => ?_
    refine aN (aC (q := 2) ht rfl rfl rfl rfl rfl rfl rfl rfl rfl) rfl ?_
    rintro _ mX _ ⟨hu, _⟩
    have hu : HS _ _ _ [_, _, [(a3, .cells [(.slice kT (fi ++ ([(⟨(⟨vo, (r : Int), 0, 0, (r : Int)⟩ : InsT), ([] : List Int)⟩ : VInT)] : List VInT)).length kV), (iI 0), (iI 0), (iI 0), (iI 0)] none false)], _, _, _] _ := hu
    refine au 2 rfl ?_
    refine wR 1 [] 36 37 [9] [(9, (iI ((r : Int) + 1)))] (vA (vi (n := (r : Int) + 1) (by first | omega | (dsimp only; omega))) trivial) rfl fun _ => ?_
    refine la _ _ _ ?_ ⟨fi ++ ([(⟨(⟨vo, (r : Int), 0, 0, (r : Int)⟩ : InsT), ([] : List Int)⟩ : VInT)] : List VInT), r + 1, kW, kT, kV, _, (fT (c8) kb), (HS.sub hu (List.sublist_append_left _ _)), k5, (agC rfl (agC rfl (agC rfl (agC rfl (agC rfl (agC rfl (agC rfl agN))))))), rfl, (by simp; omega), (by exact dT w2 (vin_ldi (by omega) (by omega))), (by exact dT w4 (ck_ldi (by first | omega | (dsimp only; omega)))), (by exact fst_snoc w5 ⟨by rw [w1], by first | omega | (dsimp only; omega)⟩), (by first | assumption | omega | (simp at *; omega))⟩
    omega
  ·
   try simp only [BS] at i3
   refine ah ?_
   refine wRo 1 0 [] 54 54 [] [(54, (.pointer (some ⟨a3, 1, none⟩)))] trivial rfl fun _ => ?_
   refine aN (aC (q := 2) hk rfl rfl rfl rfl rfl rfl rfl rfl rfl) rfl ?_
   rintro _ mY _ ⟨hv, _⟩
   have hv : HS _ _ _ [_, _, [(a3, .cells [(.slice I fi.length J), (iI 1), (iI 0), (iI 0), (iI 0)] none false)], aq] _ := hv
   refine wRo 1 2 [] 55 55 [] [(55, (.pointer (some ⟨a3, 3, none⟩)))] trivial rfl fun _ => ?_
   refine aN (aC (q := 2) hv rfl rfl rfl rfl rfl rfl rfl rfl rfl) rfl ?_
   rintro _ mZ _ ⟨cl, _⟩
   let c4 : Fp := [(a3, .cells [(.slice I fi.length J), (iI 1), (iI 0), (iI 1), (iI 0)] none false)]
   have cl : HS _ _ _ [_, _, c4, _] _ := cl
   refine au 2 rfl ?_
   refine ah ?_
   let hK : Value := (.agg ⟨[(.slice I fi.length J), (iI 1), (iI 0), (iI 1), (iI 0)]⟩)
   refine wRo 3 0 [(1, .o (.slice none 0 0)), (2, .o hK)] 56 58 [] [(57, (.slice none 0 0)), (58, hK)] (vA (ql 22 2 (HS.hc cl (i := 1) rfl) rfl rfl) (vA (qn 42 0 5 (HS.hc cl (i := 2) rfl) rfl rfl rfl rfl) trivial)) rfl fun _ => ?_
   obtain ⟨h8, he, hw, k8, mD⟩ := OS.frz a0 cl (i := 3) rfl
   have hw : HS _ _ _ [_, _, _, []] _ := hw
   refine br (db (α := BlkT) (ps := [(0, hK)]) (cells := [(.slice I fi.length J), (iI 1), (iI 0), (iI 1), (iI 0)]) ([(⟨fi, 1, 0, 1, 0⟩ : BlkT)] : List BlkT) hw rfl rfl rfl (by kernel_rfl) ⟨[(.slice I fi.length J), (iI 1), (iI 0), (iI 1), (iI 0)], [], rfl, ⟨I, J, rfl, by first | omega | (dsimp only; omega), by first | omega | (dsimp only; omega), by first | omega | (dsimp only; omega), by first | omega | (dsimp only; omega), k8⟩, rfl⟩ rfl) rfl rfl ?_
   rintro _ m0 g7 ⟨nu, nI, rfl, k6, hx, _⟩
   have hx : HS _ _ _ [_, _, _, _, g7] _ := hx
   have gn := HS.snoc hx
   have gn : HS _ _ _ [_, _, _, _, _, []] _ := gn
   refine br (eW (α := BlkT) (q := 5) (OS.nil : OS h8 (.slice none 0 0) ([] : List BlkT) []) gn rfl rfl rfl (OS.sv k6 gn (i := 4) rfl) rfl rfl rfl rfl rfl rfl rfl (by first | omega | (simp only [List.length_cons, List.length_nil]; omega))) rfl rfl ?_
   rintro _ m9 kz ⟨ik, kv, rfl, hg, hy, _⟩
   have hy : HS _ _ _ [_, _, _, _, _, kz] _ := hy
   have hg : OS h8 (.slice ik ([(⟨fi, 1, 0, 1, 0⟩ : BlkT)] : List BlkT).length kv) ([(⟨fi, 1, 0, 1, 0⟩ : BlkT)] : List BlkT) kz := hg
   refine wRo 1 5 [] 61 61 [] [(61, (.pointer (some ⟨b4, 2, none⟩)))] trivial rfl fun _ => ?_
   refine aN (aC (q := 1) hy rfl rfl rfl rfl rfl rfl rfl rfl rfl) rfl ?_
   rintro _ na _ ⟨hz, _⟩
   have hz : HS _ _ _ [_, [(b4, .cells [(iI params), (iI (9 + (i : Int))), (.slice ik ([(⟨fi, 1, 0, 1, 0⟩ : BlkT)] : List BlkT).length kv)] none false)], _, _, _, _] _ := hz
   refine au 3 rfl ?_
   refine wR 2 [] 1 0 [11] [(11, (iI 0))] trivial rfl fun _ => ?_
   refine aQ (fun (mm : Nat) f H' => ∃ (bl : List BlkT) (b : Nat) (ad : Fp) (O : Option Addr) (T : Nat) (F' : Fz), Fz.le h8 F' ∧ HS (Base.of H []) F' H' [b6, [(b4, .cells [(iI params), (iI (9 + (i : Int))), (.slice O bl.length T)] none false)], c4, [], g7, ad] R ∧ OS F' (.slice O bl.length T) bl ad ∧ be f [(0, (.slice a_l l.length k_l)), (4, (.pointer (some ⟨b1, 0, none⟩))), (5, (.pointer (some ⟨b4, 0, none⟩))), (6, (iI (1 + (if (5 : Int) < ((l.length / 6 : Nat) : Int) then (5 : Int) else ((l.length / 6 : Nat) : Int))))), (11, (iI (b : Int)))] ∧ mm = ((1 + (if (5 : Int) < ((l.length / 6 : Nat) : Int) then (5 : Int) else ((l.length / 6 : Nat) : Int))) - (b : Int)).toNat ∧ (bl.length = b + 1) ∧ (bl.all (blkV params (9 + (i : Int)) ((1 + (if (5 : Int) < ((l.length / 6 : Nat) : Int) then (5 : Int) else ((l.length / 6 : Nat) : Int))) + 1)) = true) ∧ (∀ y ∈ bl, y.ins.length ≤ 11) ∧ (bl.all (fun y => y.ins.all ckI) = true) ∧ (bl.getD 0 default = ⟨fi, 1, 0, 1, 0⟩) ∧ ((b : Int) ≤ (1 + (if (5 : Int) < ((l.length / 6 : Nat) : Int) then (5 : Int) else ((l.length / 6 : Nat) : Int))))) _ ⟨([(⟨fi, 1, 0, 1, 0⟩ : BlkT)] : List BlkT), 0, kz, ik, kv, _, fR, hz, hg, (agC rfl (agC rfl (agC rfl (agC rfl (agC rfl agN))))), rfl, (by rfl), (by exact dT (l := []) rfl (blk_mk w2 (by omega))), (by exact ins_snoc (l := []) (by simp) (by first | omega | (dsimp only; omega))), (by exact dT (l := []) rfl w4), (by rfl), (by first | assumption | omega | (simp at *; omega))⟩ ?_
   rintro mG ny ne ⟨bl, b, ad, O, T, kR, c9, hA, U, kg, rfl, e1, e2, e3, e5, e6, e4⟩ lb
   refine aO _ kg (fun _ => ?_)
   clear kg
   replace hT := (hT.mono he).mono c9
   replace hl := (hl.mono he).mono c9
   refine ay 2 rfl ?_
   refine wR 1 [] 62 64 [] [(64, (.bool (decide ((b : Int) < 1 + (if (5 : Int) < ((l.length / 6 : Nat) : Int) then (5 : Int) else ((l.length / 6 : Nat) : Int))))))] trivial rfl fun _ => ?_
   refine ao 4 5 (v := (decide ((b : Int) < 1 + (if (5 : Int) < ((l.length / 6 : Nat) : Int) then (5 : Int) else ((l.length / 6 : Nat) : Int))))) rfl rfl rfl rfl (fun jb => ?_) (fun jb => ?_)
   ·
    try simp only [BS] at jb
    refine ah ?_
    refine br (bX hA rfl) rfl rfl ?_
    rintro _ ng _ ⟨E, rfl, hB, _⟩
    let g6 : Fp := [(b4, .cells [(iI params), (iI (9 + (i : Int))), (.slice O bl.length T)] none false)]
    have hB : HS _ _ _ [_, g6, _, _, _, ad, [(E, .cells [(.slice none 0 0), (iI 0), (iI 0), (iI 0), (iI 0)] none false)]] _ := hB
    refine au 3 rfl ?_
    refine wR 2 [] 1 0 [13] [(13, (iI 0))] trivial rfl fun _ => ?_
    have hC := HS.snoc hB
    have hC : HS _ _ _ [_, _, _, _, _, _, _, []] _ := hC
    refine aQ (fun (mm : Nat) f H' => ∃ (xi : List VInT) (k : Nat) (ag : Fp) (z : Option Addr) (A : Nat) (F' : Fz), Fz.le kR F' ∧ HS (Base.of H []) F' H' [b6, g6, c4, [], g7, ad, [(E, .cells [(.slice z xi.length A), (iI 0), (iI 0), (iI 0), (iI 0)] none false)], ag] R ∧ OS F' (.slice z xi.length A) xi ag ∧ be f [(0, (.slice a_l l.length k_l)), (4, (.pointer (some ⟨b1, 0, none⟩))), (5, (.pointer (some ⟨b4, 0, none⟩))), (6, (iI (1 + (if (5 : Int) < ((l.length / 6 : Nat) : Int) then (5 : Int) else ((l.length / 6 : Nat) : Int))))), (11, (iI (b : Int))), (12, (.pointer (some ⟨E, 0, none⟩))), (13, (iI (k : Int))), (64, (.bool (decide ((b : Int) < 1 + (if (5 : Int) < ((l.length / 6 : Nat) : Int) then (5 : Int) else ((l.length / 6 : Nat) : Int))))))] ∧ mm = 5 - k ∧ (xi.length = k) ∧ (xi.all (f0 params (9 + (i : Int))) = true) ∧ (xi.all ckI = true) ∧ (k ≤ 5)) _ ⟨([] : List VInT), 0, [], none, 0, _, fR, hC, (OS.nil : OS kR (.slice none 0 0) ([] : List VInT) []), (agC rfl (agC rfl (agC rfl (agC rfl (agC rfl (agC rfl (agC rfl (agC rfl agN)))))))), rfl, (by rfl), (by rfl), (by rfl), (by first | assumption | omega | (simp at *; omega))⟩ ?_
    rintro mH nz kS ⟨xi, k, ag, z, A, mK, ci, a1, V, kh, rfl, z1, z2, z4, z3⟩ lc
    refine aO _ kh (fun _ => ?_)
    clear kh
    replace hT := hT.mono ci
    replace hl := hl.mono ci
    replace U := U.mono ci
    refine ay 2 rfl ?_
    refine wR 1 [] 67 77 [] [(77, (.bool ((decide ((k : Int) < 5)) && (decide ((6 * (b : Int)) + (k : Int) < (l.length : Int))))))] (vA (fun (g1 : (decide ((k : Int) < 5)) = true) => (vi (n := 6 * (b : Int)) (by (try simp only [BS] at g1); (first | omega | (dsimp only; omega))))) (vA (fun (g1 : (decide ((k : Int) < 5)) = true) => (vi (n := (6 * (b : Int)) + (k : Int)) (by (try simp only [BS] at g1); (first | omega | (dsimp only; omega))))) trivial)) rfl fun _ => ?_
    refine ao 3 5 (v := ((decide ((k : Int) < 5)) && (decide ((6 * (b : Int)) + (k : Int) < (l.length : Int))))) rfl rfl rfl rfl (fun jc => ?_) (fun jc => ?_)
    ·
     try simp only [BS] at jc
     refine aR rfl ?_
     refine ai (v := (.pointer (some ⟨E, 0, none⟩))) (id := .v) (bd rfl rfl) rfl rfl (aI rfl) (aF _) ?_
     refine ai (v := (.slice z xi.length A)) (id := .l E) (aT (i := 0) rfl rfl (HS.hc a1.log0 (i := 6) rfl) rfl rfl) rfl rfl (bn rfl) (⟨.inl rfl, trivial⟩) ?_
     refine fm (.slice a_l l.length k_l) rfl rfl rfl ?_
     refine fm (iI (b : Int)) rfl rfl rfl ?_
     refine ai (v := (iI (6 * (b : Int)))) (id := .v) (ap_mul rfl rfl (w_i64 (n := 6 * (b : Int)) (by first | omega | (dsimp only; omega)))) rfl rfl (aI rfl) (aF _) ?_
     refine fm (iI (k : Int)) rfl rfl rfl ?_
     refine ai (v := (iI ((6 * (b : Int)) + (k : Int)))) (id := .v) (ap_add rfl rfl (w_i64 (n := (6 * (b : Int)) + (k : Int)) (by first | omega | (dsimp only; omega)))) rfl rfl (aI rfl) (aF _) ?_
     refine ai (v := (.pointer (some ⟨sB (.slice a_l l.length k_l), sO (.slice a_l l.length k_l) + ((6 * b) + k) * Rp.sz Int, none⟩))) (id := .v) (eI (α := Int) (j := (6 * (b : Int)) + (k : Int)) rfl rfl rfl rfl (SR.sv hl a1.log0) (by first | omega | (dsimp only; omega)) (by first | omega | (dsimp only; omega))) rfl rfl (aI rfl) (aF _) ?_
     obtain ⟨mw, k9, k3⟩ := Sv.at (SR.sv hl a1.log0) (dM (x := (0 : Int)) (show (6 * b) + k < l.length from by first | omega | (dsimp only; omega)))
     obtain ⟨rfl, lV⟩ := k9
     refine ai (v := (iI (l.getD ((6 * b) + k) 0))) (id := .l (sB (.slice a_l l.length k_l))) (aT (i := 0) rfl rfl k3 rfl rfl) rfl rfl (bn rfl) (⟨.inl rfl, ⟨.inl rfl, ⟨.inl rfl, ⟨.inl rfl, ⟨.inl rfl, ⟨.inl rfl, ⟨.inr trivial, ⟨.inr trivial, trivial⟩⟩⟩⟩⟩⟩⟩⟩) ?_
     refine ai (v := (.agg ⟨[(iI params), (iI (9 + (i : Int))), (.slice O bl.length T)]⟩)) (id := .l b4) (iM (i := 0) rfl rfl rfl (HS.hc a1.log0 (i := 1) rfl) rfl rfl rfl) rfl rfl (bn rfl) (⟨.inr trivial, ⟨.inr trivial, ⟨.inr trivial, ⟨.inr trivial, ⟨.inr trivial, ⟨.inr trivial, ⟨.inr trivial, ⟨.inr trivial, ⟨.inr trivial, trivial⟩⟩⟩⟩⟩⟩⟩⟩⟩) ?_
     refine a9 (W := []) (ax rfl rfl rfl) rfl rfl rfl (m4.vi_c ex (l.getD ((6 * b) + k) 0) (⟨params, 9 + (i : Int), bl⟩ : VFnT) (HS.call a1.log0) (by first | omega | (dsimp only; omega)) (by first | omega | (dsimp only; omega)) (by first | omega | (dsimp only; omega)) hT (by first | omega | (dsimp only; omega))) (⟨.inl rfl, ⟨.inl rfl, ⟨.inl rfl, ⟨.inl rfl, ⟨.inl rfl, ⟨.inl rfl, ⟨.inl rfl, ⟨.inl rfl, ⟨.inr List.not_mem_nil, ⟨.inr trivial, trivial⟩⟩⟩⟩⟩⟩⟩⟩⟩⟩) ?_
     rintro _ lC ⟨ap, bb, b3, mL, kd, a2, rfl, lq, lr, lu, lv, lw, h7, nD, mC⟩
     refine ⟨Wr.did a2.log, fun ld kJ => ?_⟩
     replace a2 := HS.back a1.log0 rfl a2
     replace a2 := HS.lg a2 a1 kJ
     generalize ({ lC with log := ld } : Heap) = mp at a2 ⊢
     have a2 : HS _ _ _ [_, _, _, _, _, _, [(E, .cells [(.slice z xi.length A), (iI 0), (iI 0), (iI 0), (iI 0)] none false)], ag] _ := a2
     replace V := V.mono kd
     refine dU (id := .a) (db (α := VInT) (ps := [(0, (.agg ⟨[(iI ap.i.op), (iI ap.i.a), (iI ap.i.b), (iI ap.i.c), (iI ap.i.n), (.slice bb ap.args.length b3)]⟩))]) (cells := [(iI ap.i.op), (iI ap.i.a), (iI ap.i.b), (iI ap.i.c), (iI ap.i.n), (.slice bb ap.args.length b3)]) ([ap] : List VInT) a2.log0 rfl rfl rfl (by kernel_rfl) ⟨[(iI ap.i.op), (iI ap.i.a), (iI ap.i.b), (iI ap.i.c), (iI ap.i.n), (.slice bb ap.args.length b3)], [], rfl, ⟨bb, b3, rfl, by first | omega | (dsimp only; omega), by first | omega | (dsimp only; omega), by first | omega | (dsimp only; omega), by first | omega | (dsimp only; omega), by first | omega | (dsimp only; omega), h7⟩, rfl⟩ rfl) rfl rfl (fun _ _ _ _ => iF rfl rfl rfl) (⟨.inl rfl, ⟨.inl rfl, ⟨.inl rfl, ⟨.inl rfl, ⟨.inl rfl, ⟨.inl rfl, ⟨.inl rfl, ⟨.inl rfl, ⟨.inl rfl, ⟨.inr trivial, ⟨.inr trivial, trivial⟩⟩⟩⟩⟩⟩⟩⟩⟩⟩⟩) ?_
     rintro _ lD lP ⟨nv, nJ, rfl, k7, a4, _⟩ lf kK
     replace a4 := HS.lg a4 a2 kK
     generalize ({ lD with log := lf } : Heap) = mq at a4 ⊢
     have a4 : HS _ _ _ [_, _, _, _, _, _, _, _, lP] _ := a4
     refine dU (id := .x (ag.map Prod.fst)) (eW (α := VInT) (q := 7) V a4.log0 rfl rfl rfl (OS.sv k7 a4.log0 (i := 8) rfl) rfl rfl rfl rfl rfl rfl rfl (by first | omega | (simp only [List.length_cons, List.length_nil]; omega))) rfl rfl (by rintro _ _ kA ⟨iv, kw, rfl, kk, _, hwr⟩; exact ee rfl rfl (Wr.did hwr)) (⟨.inl rfl, ⟨.inl rfl, ⟨.inl rfl, ⟨.inl rfl, ⟨.inl rfl, ⟨.inl rfl, ⟨.inl rfl, ⟨.inl rfl, ⟨.inl rfl, ⟨.inl rfl, ⟨.inl rfl, ⟨.inl rfl, trivial⟩⟩⟩⟩⟩⟩⟩⟩⟩⟩⟩⟩) ?_
     rintro _ lE kA ⟨iv, kw, rfl, kk, a8, _⟩ lh kL
     replace a8 := HS.lg a8 a4 kL
     generalize ({ lE with log := lh } : Heap) = mr at a8 ⊢
     have a8 : HS _ _ _ [_, _, _, _, _, _, _, kA, _] _ := a8
     refine ai (v := (.pointer (some ⟨E, 0, none⟩))) (id := .v) (bd rfl rfl) rfl rfl (aI rfl) (aF _) ?_
     refine jA (id := .x [E]) (aC (q := 6) a8.log0 rfl rfl rfl rfl rfl rfl rfl rfl rfl) rfl (by rintro _ _ _ ⟨_, hwr⟩; exact ee rfl rfl (Wr.did hwr)) (⟨.inl rfl, ⟨.inl rfl, ⟨.inl rfl, ⟨.inl rfl, ⟨.inl rfl, ⟨.inl rfl, ⟨.inl rfl, ⟨.inl rfl, ⟨.inl rfl, ⟨.inl rfl, ⟨.inl rfl, ⟨.inl rfl, ⟨.inl rfl, ⟨.inl rfl, trivial⟩⟩⟩⟩⟩⟩⟩⟩⟩⟩⟩⟩⟩⟩) ?_
     rintro _ lF _ ⟨b5, _⟩ li kM
     replace b5 := HS.lg b5 a8 kM
     generalize ({ lF with log := li } : Heap) = ms at b5 ⊢
     have b5 : HS _ _ _ [_, _, _, _, _, _, [(E, .cells [(.slice iv (xi ++ ([ap] : List VInT)).length kw), (iI 0), (iI 0), (iI 0), (iI 0)] none false)], _, _] _ := b5
     refine bZ ?_
     refine ay 2 rfl ?_
     refine wR 1 [] 78 79 [13] [(13, (iI ((k : Int) + 1)))] (vA (vi (n := (k : Int) + 1) (by first | omega | (dsimp only; omega))) trivial) rfl fun _ => ?_
     refine lc _ _ _ ?_ ⟨xi ++ ([ap] : List VInT), k + 1, kA, iv, kw, _, (fT (ci) kd), (HS.sub b5 (List.sublist_append_left _ _)), kk, (agC rfl (agC rfl (agC rfl (agC rfl (agC rfl (agC rfl (agC rfl (agC rfl agN)))))))), rfl, (by simp; omega), (by exact dT z2 (by assumption)), (by exact dT z4 (by assumption)), (by first | assumption | omega | (simp at *; omega))⟩
     omega
    ·
     try simp only [BS] at jc
     refine wR 3 [] 1 0 [14] [(14, (iI 0))] trivial rfl fun _ => ?_
     refine wR 1 [] 94 99 [] [(99, (.bool (decide ((6 * (b : Int)) + 5 < (l.length : Int)))))] (vA (vi (n := 6 * (b : Int)) (by first | omega | (dsimp only; omega))) (vA (vi (n := (6 * (b : Int)) + 5) (by first | omega | (dsimp only; omega))) trivial)) rfl fun _ => ?_
     refine dG (fun f H' => ∃ (nn : Int), H' = kS ∧ be f [(0, (.slice a_l l.length k_l)), (4, (.pointer (some ⟨b1, 0, none⟩))), (5, (.pointer (some ⟨b4, 0, none⟩))), (6, (iI (1 + (if (5 : Int) < ((l.length / 6 : Nat) : Int) then (5 : Int) else ((l.length / 6 : Nat) : Int))))), (11, (iI (b : Int))), (12, (.pointer (some ⟨E, 0, none⟩))), (13, (iI (k : Int))), (14, (iI nn)), (64, (.bool (decide ((b : Int) < 1 + (if (5 : Int) < ((l.length / 6 : Nat) : Int) then (5 : Int) else ((l.length / 6 : Nat) : Int)))))), (77, (.bool ((decide ((k : Int) < 5)) && (decide ((6 * (b : Int)) + (k : Int) < (l.length : Int)))))), (99, (.bool (decide ((6 * (b : Int)) + 5 < (l.length : Int)))))] ∧ (in64 nn)) (fun kt => ?_) ?_
     ·
      refine ao 0 0 (v := (decide ((6 * (b : Int)) + 5 < (l.length : Int)))) rfl rfl rfl rfl (fun jq => ?_) (fun jq => ?_)
      ·
       try simp only [BS] at jq
       obtain ⟨mv, kp⟩ := Sv.view (SR.sv hl a1)
       have nC := fI (kp ((6 * b) + 5))
       refine wR 0 [(5, .o (iI (l.getD ((6 * b) + 5) 0)))] 100 105 [14] [(14, (iI (l.getD ((6 * b) + 5) 0)))] (vA (vi (n := 6 * (b : Int)) (by first | omega | (dsimp only; omega))) (vA (vi (n := (6 * (b : Int)) + 5) (by first | omega | (dsimp only; omega))) (vA (Sv.ix (j := (6 * (b : Int)) + 5) (SR.sv hl a1) (by first | omega | (dsimp only; omega)) (by first | omega | (dsimp only; omega))) (vA (ql 3 0 (vI (kp ((6 * b) + 5)) (by first | omega | (dsimp only; omega))) rfl rfl) trivial)))) rfl fun _ => ?_
       exact kt _ _ ⟨(l.getD ((6 * b) + 5) 0), rfl, (agC rfl (agC rfl (agC rfl (agC rfl (agC rfl (agC rfl (agC rfl (agC rfl (agC rfl (agC rfl (agC rfl agN))))))))))), (by first | assumption | omega | (simp at *; omega))⟩
      ·
       try simp only [BS] at jq
       exact kt _ _ ⟨0, rfl, (agC rfl (agC rfl (agC rfl (agC rfl (agC rfl (agC rfl (agC rfl (agC rfl (agC rfl (agC rfl (agC rfl agN))))))))))), (by first | assumption | omega | (simp at *; omega))⟩
     ·
      rintro nA kS ⟨nn, rfl, ki, hnn⟩
      refine aO _ ki (fun _ => ?_)
      clear ki
      refine ay 2 rfl ?_
      refine ah ?_
      refine wRo 2 0 [] 106 107 [] [(107, (.agg ⟨[(iI nn)]⟩))] trivial rfl fun _ => ?_
      refine br (dQ a1 rfl rfl) rfl rfl ?_
      rintro _ nh _ ⟨Z, rfl, g2, _⟩
      have g2 : HS _ _ _ [_, _, _, _, _, _, [(E, .cells [(.slice z xi.length A), (iI 0), (iI 0), (iI 0), (iI 0)] none false)], ag, [(Z, .cells [(iI nn)] none false)]] _ := g2
      refine wa (.pointer (some ⟨Z, 0, none⟩)) rfl rfl rfl ?_
      refine au 3 rfl ?_
      refine ah ?_
      refine wm (.pointer (some ⟨Z, 0, none⟩)) rfl rfl rfl ?_
      refine aJ (ax rfl rfl rfl) rfl rfl (m4.cS ex (⟨nn⟩ : DigT) (6) (HS.callOwn g2 (i := 8) rfl) (by first | omega | (dsimp only; omega)) (by first | omega | (dsimp only; omega)) hT (by first | omega | (dsimp only; omega))) ?_
      rintro _ ni ⟨a7, ch, lz, dk, ar, rfl, lK, nE⟩
      replace ar := HS.backOwn g2 (i := 8) rfl rfl (fun _ hb => hb) ar
      have ar : HS _ _ _ [_, _, _, _, _, _, _, _, [(Z, .cells [(iI ch.n)] none false)]] _ := ar
      replace hT := hT.mono dk
      replace U := U.mono dk
      replace V := V.mono dk
      refine au 3 rfl ?_
      refine wR 1 [] 127 128 [] [(127, (.bool (a7 == 0)))] trivial rfl fun _ => ?_
      refine dG (fun f H' => ∃ (xe : Int) (xg : Int) (xt : Int) (xf : Int) (dd : DigT) (F' : Fz), Fz.le lz F' ∧ HS (Base.of H []) F' H' [b6, g6, c4, [], g7, ad, [(E, .cells [(.slice z xi.length A), (iI xe), (iI xg), (iI xt), (iI xf)] none false)], ag, [(Z, .cells [(iI dd.n)] none false)]] R ∧ be f [(0, (.slice a_l l.length k_l)), (4, (.pointer (some ⟨b1, 0, none⟩))), (5, (.pointer (some ⟨b4, 0, none⟩))), (6, (iI (1 + (if (5 : Int) < ((l.length / 6 : Nat) : Int) then (5 : Int) else ((l.length / 6 : Nat) : Int))))), (11, (iI (b : Int))), (12, (.pointer (some ⟨E, 0, none⟩))), (13, (iI (k : Int))), (14, (iI nn)), (15, (.pointer (some ⟨Z, 0, none⟩))), (64, (.bool (decide ((b : Int) < 1 + (if (5 : Int) < ((l.length / 6 : Nat) : Int) then (5 : Int) else ((l.length / 6 : Nat) : Int)))))), (77, (.bool ((decide ((k : Int) < 5)) && (decide ((6 * (b : Int)) + (k : Int) < (l.length : Int)))))), (99, (.bool (decide ((6 * (b : Int)) + 5 < (l.length : Int))))), (107, (.agg ⟨[(iI nn)]⟩)), (108, (.pointer (some ⟨Z, 0, none⟩))), (109, (.pointer (some ⟨Z, 0, none⟩))), (110, (iI a7)), (127, (.bool (a7 == 0)))] ∧ ((xe = 1 ∧ 0 ≤ xt ∧ xt < ((1 + (if (5 : Int) < ((l.length / 6 : Nat) : Int) then (5 : Int) else ((l.length / 6 : Nat) : Int)))) + 1 ∧ xf = 0 ∧ xg = 0 ∨ xe = 2 ∧ 0 ≤ xt ∧ xt < ((1 + (if (5 : Int) < ((l.length / 6 : Nat) : Int) then (5 : Int) else ((l.length / 6 : Nat) : Int)))) + 1 ∧ 0 ≤ xf ∧ xf < ((1 + (if (5 : Int) < ((l.length / 6 : Nat) : Int) then (5 : Int) else ((l.length / 6 : Nat) : Int)))) + 1 ∧ 0 ≤ xg ∧ xg < 9 + (i : Int) ∨ xe = 3 ∧ 0 ≤ xg ∧ xg < 9 + (i : Int) ∧ xt = 0 ∧ xf = 0 ∨ xe = 4 ∧ 1 ≤ xt ∧ xt < 33554432 ∧ xf = 0 ∧ xg = 0)) ∧ (in64 dd.n)) (fun g3 => ?_) ?_
      ·
       refine ao 0 1 (v := (a7 == 0)) rfl rfl rfl rfl (fun jw => ?_) (fun jw => ?_)
       ·
        try simp only [BS] at jw
        refine ah ?_
        refine wRo 2 0 [] 129 130 [] [(129, (.pointer (some ⟨Z, 0, none⟩))), (130, (iI (1 + (if (5 : Int) < ((l.length / 6 : Nat) : Int) then (5 : Int) else ((l.length / 6 : Nat) : Int)))))] trivial rfl fun _ => ?_
        refine aJ (ax rfl rfl rfl) rfl rfl (m4.cS ex (⟨ch.n⟩ : DigT) (1 + (if (5 : Int) < ((l.length / 6 : Nat) : Int) then (5 : Int) else ((l.length / 6 : Nat) : Int))) (HS.callOwn ar (i := 8) rfl) (by first | omega | (dsimp only; omega)) (by first | omega | (dsimp only; omega)) hT (by first | omega | (dsimp only; omega))) ?_
        rintro _ nk ⟨h5, j9, mM, kZ, co, rfl, lL, nF⟩
        replace co := HS.backOwn ar (i := 8) rfl rfl (fun _ hb => hb) co
        have co : HS _ _ _ [_, _, _, _, _, _, _, _, [(Z, .cells [(iI j9.n)] none false)]] _ := co
        refine wRo 2 3 [] 132 133 [] [(132, (iI (1 + h5))), (133, (.pointer (some ⟨E, 1, none⟩)))] (vA (vi (n := 1 + h5) (by first | omega | (dsimp only; omega))) trivial) rfl fun _ => ?_
        refine aN (aC (q := 6) co rfl rfl rfl rfl rfl rfl rfl rfl rfl) rfl ?_
        rintro _ nm _ ⟨hF, _⟩
        have hF : HS _ _ _ [_, _, _, _, _, _, [(E, .cells [(.slice z xi.length A), (iI 1), (iI 0), (iI 0), (iI 0)] none false)], _, _] _ := hF
        refine wRo 1 6 [] 134 134 [] [(134, (.pointer (some ⟨E, 3, none⟩)))] trivial rfl fun _ => ?_
        refine aN (aC (q := 6) hF rfl rfl rfl rfl rfl rfl rfl rfl rfl) rfl ?_
        rintro _ np _ ⟨hG, _⟩
        have hG : HS _ _ _ [_, _, _, _, _, _, [(E, .cells [(.slice z xi.length A), (iI 1), (iI 0), (iI (1 + h5)), (iI 0)] none false)], _, _] _ := hG
        refine au 0 rfl ?_
        exact g3 _ _ ⟨1, 0, 1 + h5, 0, (⟨j9.n⟩ : DigT), _, (kZ), hG, (agC rfl (agC rfl (agC rfl (agC rfl (agC rfl (agC rfl (agC rfl (agC rfl (agC rfl (agC rfl (agC rfl (agC rfl (agC rfl (agC rfl (agC rfl (agC rfl (agC rfl agN))))))))))))))))), (by first | assumption | omega | (simp at *; omega)), (by first | assumption | omega | (simp at *; omega))⟩
       ·
        try simp only [BS] at jw
        refine wR 1 [] 135 136 [] [(135, (.bool (a7 == 1)))] trivial rfl fun _ => ?_
        refine ao 0 1 (v := (a7 == 1)) rfl rfl rfl rfl (fun j8 => ?_) (fun j8 => ?_)
        ·
         try simp only [BS] at j8
         refine ah ?_
         refine wm (.pointer (some ⟨Z, 0, none⟩)) rfl rfl rfl ?_
         refine aJ (ax rfl rfl rfl) rfl rfl (m4.cS ex (⟨ch.n⟩ : DigT) (9) (HS.callOwn ar (i := 8) rfl) (by first | omega | (dsimp only; omega)) (by first | omega | (dsimp only; omega)) hT (by first | omega | (dsimp only; omega))) ?_
         rintro _ nq ⟨h6, ka, mN, k0, c0, rfl, lM, nG⟩
         replace c0 := HS.backOwn ar (i := 8) rfl rfl (fun _ hb => hb) c0
         have c0 : HS _ _ _ [_, _, _, _, _, _, _, _, [(Z, .cells [(iI ka.n)] none false)]] _ := c0
         refine wRo 2 2 [] 139 140 [] [(139, (iI (1 + h6))), (140, (.pointer (some ⟨E, 1, none⟩)))] (vA (vi (n := 1 + h6) (by first | omega | (dsimp only; omega))) trivial) rfl fun _ => ?_
         refine aN (aC (q := 6) c0 rfl rfl rfl rfl rfl rfl rfl rfl rfl) rfl ?_
         rintro _ nr _ ⟨hH, _⟩
         have hH : HS _ _ _ [_, _, _, _, _, _, [(E, .cells [(.slice z xi.length A), (iI 4), (iI 0), (iI 0), (iI 0)] none false)], _, _] _ := hH
         refine wRo 1 5 [] 141 141 [] [(141, (.pointer (some ⟨E, 3, none⟩)))] trivial rfl fun _ => ?_
         refine aN (aC (q := 6) hH rfl rfl rfl rfl rfl rfl rfl rfl rfl) rfl ?_
         rintro _ ns _ ⟨hI, _⟩
         have hI : HS _ _ _ [_, _, _, _, _, _, [(E, .cells [(.slice z xi.length A), (iI 4), (iI 0), (iI (1 + h6)), (iI 0)] none false)], _, _] _ := hI
         refine au 0 rfl ?_
         exact g3 _ _ ⟨4, 0, 1 + h6, 0, (⟨ka.n⟩ : DigT), _, (k0), hI, (agC rfl (agC rfl (agC rfl (agC rfl (agC rfl (agC rfl (agC rfl (agC rfl (agC rfl (agC rfl (agC rfl (agC rfl (agC rfl (agC rfl (agC rfl (agC rfl (agC rfl agN))))))))))))))))), (by first | assumption | omega | (simp at *; omega)), (by first | assumption | omega | (simp at *; omega))⟩
        ·
         try simp only [BS] at j8
         refine wR 1 [] 142 143 [] [(142, (.bool (a7 == 2)))] trivial rfl fun _ => ?_
         refine ao 0 0 (v := (a7 == 2)) rfl rfl rfl rfl (fun g9 => ?_) (fun g9 => ?_)
         ·
          try simp only [BS] at g9
          refine ah ?_
          refine wRo 3 0 [(2, .o (iI (9 + (i : Int))))] 144 146 [] [(144, (.pointer (some ⟨Z, 0, none⟩))), (146, (iI (9 + (i : Int))))] (vA (ql 3 1 (HS.hc ar (i := 1) rfl) rfl rfl) trivial) rfl fun _ => ?_
          refine aJ (ax rfl rfl rfl) rfl rfl (m4.cS ex (⟨ch.n⟩ : DigT) (9 + (i : Int)) (HS.callOwn ar (i := 8) rfl) (by first | omega | (dsimp only; omega)) (by first | omega | (dsimp only; omega)) hT (by first | omega | (dsimp only; omega))) ?_
          rintro _ l5 ⟨kB, hP, lY, kG, b0, rfl, ll, my⟩
          replace b0 := HS.backOwn ar (i := 8) rfl rfl (fun _ hb => hb) b0
          have b0 : HS _ _ _ [_, _, _, _, _, _, _, _, [(Z, .cells [(iI hP.n)] none false)]] _ := b0
          refine wRo 1 4 [] 148 148 [] [(148, (.pointer (some ⟨E, 1, none⟩)))] trivial rfl fun _ => ?_
          refine aN (aC (q := 6) b0 rfl rfl rfl rfl rfl rfl rfl rfl rfl) rfl ?_
          rintro _ l6 _ ⟨dl, _⟩
          have dl : HS _ _ _ [_, _, _, _, _, _, [(E, .cells [(.slice z xi.length A), (iI 3), (iI 0), (iI 0), (iI 0)] none false)], _, _] _ := dl
          refine wRo 1 6 [] 149 149 [] [(149, (.pointer (some ⟨E, 2, none⟩)))] trivial rfl fun _ => ?_
          refine aN (aC (q := 6) dl rfl rfl rfl rfl rfl rfl rfl rfl rfl) rfl ?_
          rintro _ l7 _ ⟨dn, _⟩
          have dn : HS _ _ _ [_, _, _, _, _, _, [(E, .cells [(.slice z xi.length A), (iI 3), (iI kB), (iI 0), (iI 0)] none false)], _, _] _ := dn
          refine au 0 rfl ?_
          exact g3 _ _ ⟨3, kB, 0, 0, (⟨hP.n⟩ : DigT), _, (kG), dn, (agC rfl (agC rfl (agC rfl (agC rfl (agC rfl (agC rfl (agC rfl (agC rfl (agC rfl (agC rfl (agC rfl (agC rfl (agC rfl (agC rfl (agC rfl (agC rfl (agC rfl agN))))))))))))))))), (by first | assumption | omega | (simp at *; omega)), (by first | assumption | omega | (simp at *; omega))⟩
         ·
          try simp only [BS] at g9
          refine ah ?_
          refine wRo 3 0 [(2, .o (iI (9 + (i : Int))))] 111 113 [] [(111, (.pointer (some ⟨Z, 0, none⟩))), (113, (iI (9 + (i : Int))))] (vA (ql 3 1 (HS.hc ar (i := 1) rfl) rfl rfl) trivial) rfl fun _ => ?_
          refine aJ (ax rfl rfl rfl) rfl rfl (m4.cS ex (⟨ch.n⟩ : DigT) (9 + (i : Int)) (HS.callOwn ar (i := 8) rfl) (by first | omega | (dsimp only; omega)) (by first | omega | (dsimp only; omega)) hT (by first | omega | (dsimp only; omega))) ?_
          rintro _ l8 ⟨g4, hQ, lZ, hW, a5, rfl, lm, mz⟩
          replace a5 := HS.backOwn ar (i := 8) rfl rfl (fun _ hb => hb) a5
          have a5 : HS _ _ _ [_, _, _, _, _, _, _, _, [(Z, .cells [(iI hQ.n)] none false)]] _ := a5
          replace hT := hT.mono hW
          refine wRo 2 4 [] 115 116 [] [(115, (.pointer (some ⟨Z, 0, none⟩))), (116, (iI (1 + (if (5 : Int) < ((l.length / 6 : Nat) : Int) then (5 : Int) else ((l.length / 6 : Nat) : Int)))))] trivial rfl fun _ => ?_
          refine aJ (ax rfl rfl rfl) rfl rfl (m4.cS ex (⟨hQ.n⟩ : DigT) (1 + (if (5 : Int) < ((l.length / 6 : Nat) : Int) then (5 : Int) else ((l.length / 6 : Nat) : Int))) (HS.callOwn a5 (i := 8) rfl) (by first | omega | (dsimp only; omega)) (by first | omega | (dsimp only; omega)) hT (by first | omega | (dsimp only; omega))) ?_
          rintro _ l9 ⟨c3, hS, l0, hX, a6, rfl, ln, mA⟩
          replace a6 := HS.backOwn a5 (i := 8) rfl rfl (fun _ hb => hb) a6
          have a6 : HS _ _ _ [_, _, _, _, _, _, _, _, [(Z, .cells [(iI hS.n)] none false)]] _ := a6
          replace hT := hT.mono hX
          refine wRo 3 7 [] 118 120 [] [(118, (iI (1 + c3))), (119, (.pointer (some ⟨Z, 0, none⟩))), (120, (iI (1 + (if (5 : Int) < ((l.length / 6 : Nat) : Int) then (5 : Int) else ((l.length / 6 : Nat) : Int)))))] (vA (vi (n := 1 + c3) (by first | omega | (dsimp only; omega))) trivial) rfl fun _ => ?_
          refine aJ (ax rfl rfl rfl) rfl rfl (m4.cS ex (⟨hS.n⟩ : DigT) (1 + (if (5 : Int) < ((l.length / 6 : Nat) : Int) then (5 : Int) else ((l.length / 6 : Nat) : Int))) (HS.callOwn a6 (i := 8) rfl) (by first | omega | (dsimp only; omega)) (by first | omega | (dsimp only; omega)) hT (by first | omega | (dsimp only; omega))) ?_
          rintro _ ma ⟨g5, hV, l1, kH, b2, rfl, lp, mB⟩
          replace b2 := HS.backOwn a6 (i := 8) rfl rfl (fun _ hb => hb) b2
          have b2 : HS _ _ _ [_, _, _, _, _, _, _, _, [(Z, .cells [(iI hV.n)] none false)]] _ := b2
          refine wRo 2 11 [] 122 123 [] [(122, (iI (1 + g5))), (123, (.pointer (some ⟨E, 1, none⟩)))] (vA (vi (n := 1 + g5) (by first | omega | (dsimp only; omega))) trivial) rfl fun _ => ?_
          refine aN (aC (q := 6) b2 rfl rfl rfl rfl rfl rfl rfl rfl rfl) rfl ?_
          rintro _ mb _ ⟨ds, _⟩
          have ds : HS _ _ _ [_, _, _, _, _, _, [(E, .cells [(.slice z xi.length A), (iI 2), (iI 0), (iI 0), (iI 0)] none false)], _, _] _ := ds
          refine wRo 1 14 [] 124 124 [] [(124, (.pointer (some ⟨E, 2, none⟩)))] trivial rfl fun _ => ?_
          refine aN (aC (q := 6) ds rfl rfl rfl rfl rfl rfl rfl rfl rfl) rfl ?_
          rintro _ mc _ ⟨dt, _⟩
          have dt : HS _ _ _ [_, _, _, _, _, _, [(E, .cells [(.slice z xi.length A), (iI 2), (iI g4), (iI 0), (iI 0)] none false)], _, _] _ := dt
          refine wRo 1 16 [] 125 125 [] [(125, (.pointer (some ⟨E, 3, none⟩)))] trivial rfl fun _ => ?_
          refine aN (aC (q := 6) dt rfl rfl rfl rfl rfl rfl rfl rfl rfl) rfl ?_
          rintro _ md _ ⟨dv, _⟩
          have dv : HS _ _ _ [_, _, _, _, _, _, [(E, .cells [(.slice z xi.length A), (iI 2), (iI g4), (iI (1 + c3)), (iI 0)] none false)], _, _] _ := dv
          refine wRo 1 18 [] 126 126 [] [(126, (.pointer (some ⟨E, 4, none⟩)))] trivial rfl fun _ => ?_
          refine aN (aC (q := 6) dv rfl rfl rfl rfl rfl rfl rfl rfl rfl) rfl ?_
          rintro _ me _ ⟨d1, _⟩
          have d1 : HS _ _ _ [_, _, _, _, _, _, [(E, .cells [(.slice z xi.length A), (iI 2), (iI g4), (iI (1 + c3)), (iI (1 + g5))] none false)], _, _] _ := d1
          refine au 0 rfl ?_
          exact g3 _ _ ⟨2, g4, 1 + c3, 1 + g5, (⟨hV.n⟩ : DigT), _, (fT (fT (hW) hX) kH), d1, (agC rfl (agC rfl (agC rfl (agC rfl (agC rfl (agC rfl (agC rfl (agC rfl (agC rfl (agC rfl (agC rfl (agC rfl (agC rfl (agC rfl (agC rfl (agC rfl (agC rfl agN))))))))))))))))), (by first | assumption | omega | (simp at *; omega)), (by first | assumption | omega | (simp at *; omega))⟩
      ·
       rintro nB nj ⟨xe, xg, xt, xf, dd, lA, hf, hE, kj, hD, hdd⟩
       refine aO _ kj (fun _ => ?_)
       clear kj
       replace U := U.mono hf
       replace V := V.mono hf
       refine ay 4 rfl ?_
       refine wR 1 [(6, .o (iI xe))] 150 158 [] [(158, (.bool (((b : Int) == (1 + (if (5 : Int) < ((l.length / 6 : Nat) : Int) then (5 : Int) else ((l.length / 6 : Nat) : Int))) - 1) && (xe == 1))))] (vA (vi (n := (1 + (if (5 : Int) < ((l.length / 6 : Nat) : Int) then (5 : Int) else ((l.length / 6 : Nat) : Int))) - 1) (by first | omega | (dsimp only; omega))) (vA (fun (g1 : ((b : Int) == (1 + (if (5 : Int) < ((l.length / 6 : Nat) : Int) then (5 : Int) else ((l.length / 6 : Nat) : Int))) - 1) = true) => (ql 3 1 (HS.hc hE (i := 6) rfl) rfl rfl)) trivial)) rfl fun _ => ?_
       refine dG (fun f H' => ∃ (ye : Int) (yg : Int) (yt : Int) (F' : Fz), Fz.le lA F' ∧ HS (Base.of H []) F' H' [b6, g6, c4, [], g7, ad, [(E, .cells [(.slice z xi.length A), (iI ye), (iI yg), (iI yt), (iI xf)] none false)], ag, [(Z, .cells [(iI dd.n)] none false)]] R ∧ be f [(0, (.slice a_l l.length k_l)), (4, (.pointer (some ⟨b1, 0, none⟩))), (5, (.pointer (some ⟨b4, 0, none⟩))), (6, (iI (1 + (if (5 : Int) < ((l.length / 6 : Nat) : Int) then (5 : Int) else ((l.length / 6 : Nat) : Int))))), (11, (iI (b : Int))), (12, (.pointer (some ⟨E, 0, none⟩))), (13, (iI (k : Int))), (14, (iI nn)), (15, (.pointer (some ⟨Z, 0, none⟩))), (64, (.bool (decide ((b : Int) < 1 + (if (5 : Int) < ((l.length / 6 : Nat) : Int) then (5 : Int) else ((l.length / 6 : Nat) : Int)))))), (77, (.bool ((decide ((k : Int) < 5)) && (decide ((6 * (b : Int)) + (k : Int) < (l.length : Int)))))), (99, (.bool (decide ((6 * (b : Int)) + 5 < (l.length : Int))))), (107, (.agg ⟨[(iI nn)]⟩)), (108, (.pointer (some ⟨Z, 0, none⟩))), (109, (.pointer (some ⟨Z, 0, none⟩))), (110, (iI a7)), (127, (.bool (a7 == 0))), (158, (.bool (((b : Int) == (1 + (if (5 : Int) < ((l.length / 6 : Nat) : Int) then (5 : Int) else ((l.length / 6 : Nat) : Int))) - 1) && (xe == 1))))] ∧ ((ye = 1 ∧ 0 ≤ yt ∧ yt < ((1 + (if (5 : Int) < ((l.length / 6 : Nat) : Int) then (5 : Int) else ((l.length / 6 : Nat) : Int)))) + 1 ∧ xf = 0 ∧ yg = 0 ∨ ye = 2 ∧ 0 ≤ yt ∧ yt < ((1 + (if (5 : Int) < ((l.length / 6 : Nat) : Int) then (5 : Int) else ((l.length / 6 : Nat) : Int)))) + 1 ∧ 0 ≤ xf ∧ xf < ((1 + (if (5 : Int) < ((l.length / 6 : Nat) : Int) then (5 : Int) else ((l.length / 6 : Nat) : Int)))) + 1 ∧ 0 ≤ yg ∧ yg < 9 + (i : Int) ∨ ye = 3 ∧ 0 ≤ yg ∧ yg < 9 + (i : Int) ∧ yt = 0 ∧ xf = 0 ∨ ye = 4 ∧ 1 ≤ yt ∧ yt < 33554432 ∧ xf = 0 ∧ yg = 0))) (fun h4 => ?_) ?_
       ·
        refine ao 0 0 (v := (((b : Int) == (1 + (if (5 : Int) < ((l.length / 6 : Nat) : Int) then (5 : Int) else ((l.length / 6 : Nat) : Int))) - 1) && (xe == 1))) rfl rfl rfl rfl (fun ha => ?_) (fun ha => ?_)
        ·
         try simp only [BS] at ha
         refine ah ?_
         refine wRo 1 0 [] 159 159 [] [(159, (.pointer (some ⟨E, 1, none⟩)))] trivial rfl fun _ => ?_
         refine aN (aC (q := 6) hE rfl rfl rfl rfl rfl rfl rfl rfl rfl) rfl ?_
         rintro _ mg _ ⟨em, _⟩
         have em : HS _ _ _ [_, _, _, _, _, _, [(E, .cells [(.slice z xi.length A), (iI 3), (iI xg), (iI xt), (iI xf)] none false)], _, [(Z, .cells [(iI dd.n)] none false)]] _ := em
         refine wRo 1 2 [] 160 160 [] [(160, (.pointer (some ⟨E, 3, none⟩)))] trivial rfl fun _ => ?_
         refine aN (aC (q := 6) em rfl rfl rfl rfl rfl rfl rfl rfl rfl) rfl ?_
         rintro _ mh _ ⟨es, _⟩
         have es : HS _ _ _ [_, _, _, _, _, _, [(E, .cells [(.slice z xi.length A), (iI 3), (iI xg), (iI 0), (iI xf)] none false)], _, _] _ := es
         refine wRo 1 4 [] 161 161 [] [(161, (.pointer (some ⟨E, 2, none⟩)))] trivial rfl fun _ => ?_
         refine aN (aC (q := 6) es rfl rfl rfl rfl rfl rfl rfl rfl rfl) rfl ?_
         rintro _ mi _ ⟨et, _⟩
         have et : HS _ _ _ [_, _, _, _, _, _, [(E, .cells [(.slice z xi.length A), (iI 3), (iI 0), (iI 0), (iI xf)] none false)], _, _] _ := et
         refine au 0 rfl ?_
         exact h4 _ _ ⟨3, 0, 0, _, fR, et, (agC rfl (agC rfl (agC rfl (agC rfl (agC rfl (agC rfl (agC rfl (agC rfl (agC rfl (agC rfl (agC rfl (agC rfl (agC rfl (agC rfl (agC rfl (agC rfl (agC rfl (agC rfl agN)))))))))))))))))), (by first | assumption | omega | (simp at *; omega))⟩
        ·
         try simp only [BS] at ha
         exact h4 _ _ ⟨xe, xg, xt, _, fR, hE, (agC rfl (agC rfl (agC rfl (agC rfl (agC rfl (agC rfl (agC rfl (agC rfl (agC rfl (agC rfl (agC rfl (agC rfl (agC rfl (agC rfl (agC rfl (agC rfl (agC rfl (agC rfl agN)))))))))))))))))), (by first | assumption | omega | (simp at *; omega))⟩
       ·
        rintro mx mf ⟨ye, yg, yt, l2, c7, d2, h3, hY⟩
        refine aO _ h3 (fun _ => ?_)
        clear h3
        replace V := V.mono c7
        refine ay 1 rfl ?_
        refine ah ?_
        let hN : Value := (.agg ⟨[(.slice z xi.length A), (iI ye), (iI yg), (iI yt), (iI xf)]⟩)
        refine wRo 3 0 [(1, .o (.slice O bl.length T)), (2, .o hN)] 162 164 [] [(163, (.slice O bl.length T)), (164, hN)] (vA (ql 22 2 (HS.hc d2 (i := 1) rfl) rfl rfl) (vA (qn 42 0 5 (HS.hc d2 (i := 6) rfl) rfl rfl rfl rfl) trivial)) rfl fun _ => ?_
        obtain ⟨l3, h1, ez, kP, lW⟩ := OS.frz V d2 (i := 7) rfl
        have ez : HS _ _ _ [_, _, _, _, _, _, [(E, .cells [(.slice z xi.length A), (iI ye), (iI yg), (iI yt), (iI xf)] none false)], [], [(Z, .cells [(iI dd.n)] none false)]] _ := ez
        replace U := (U.mono c7).mono h1
        refine br (db (α := BlkT) (ps := [(0, hN)]) (cells := [(.slice z xi.length A), (iI ye), (iI yg), (iI yt), (iI xf)]) ([(⟨xi, ye, yg, yt, xf⟩ : BlkT)] : List BlkT) ez rfl rfl rfl (by kernel_rfl) ⟨[(.slice z xi.length A), (iI ye), (iI yg), (iI yt), (iI xf)], [], rfl, ⟨z, A, rfl, by first | omega | (dsimp only; omega), by first | omega | (dsimp only; omega), by first | omega | (dsimp only; omega), by first | omega | (dsimp only; omega), kP⟩, rfl⟩ rfl) rfl rfl ?_
        rintro _ mj lj ⟨mu, mE, rfl, kN, b7, _⟩
        have b7 : HS _ _ _ [_, _, _, _, _, _, _, _, _, lj] _ := b7
        refine br (eW (α := BlkT) (q := 5) U b7 rfl rfl rfl (OS.sv kN b7 (i := 9) rfl) rfl rfl rfl rfl rfl rfl rfl (by first | omega | (simp only [List.length_cons, List.length_nil]; omega))) rfl rfl ?_
        rintro _ ml ky ⟨ih, ku, rfl, kO, e0, _⟩
        have e0 : HS _ _ _ [_, _, _, _, _, ky, _, _, _, _] _ := e0
        refine wRo 1 5 [] 167 167 [] [(167, (.pointer (some ⟨b4, 2, none⟩)))] trivial rfl fun _ => ?_
        refine aN (aC (q := 1) e0 rfl rfl rfl rfl rfl rfl rfl rfl rfl) rfl ?_
        rintro _ mn _ ⟨fd, _⟩
        have fd : HS _ _ _ [_, [(b4, .cells [(iI params), (iI (9 + (i : Int))), (.slice ih (bl ++ ([(⟨xi, ye, yg, yt, xf⟩ : BlkT)] : List BlkT)).length ku)] none false)], _, _, _, _, _, _, _, _] _ := fd
        refine au 2 rfl ?_
        refine wR 1 [] 65 66 [11] [(11, (iI ((b : Int) + 1)))] (vA (vi (n := (b : Int) + 1) (by first | omega | (dsimp only; omega))) trivial) rfl fun _ => ?_
        refine lb _ _ _ ?_ ⟨bl ++ ([(⟨xi, ye, yg, yt, xf⟩ : BlkT)] : List BlkT), b + 1, ky, ih, ku, _, (fT (fT (fT (fT (fT (c9) ci) dk) hf) c7) h1), (HS.sub fd (List.sublist_append_left _ _)), kO, (agC rfl (agC rfl (agC rfl (agC rfl (agC rfl agN))))), rfl, (by simp; omega), (by exact dT e2 (blk_mk z2 (by omega))), (by exact ins_snoc e3 (by first | omega | (dsimp only; omega))), (by exact dT e5 z4), (by exact first_snoc e6 (by omega)), (by first | assumption | omega | (simp at *; omega))⟩
        omega
   ·
    try simp only [BS] at jb
    refine ah ?_
    let kD : Value := (.agg ⟨[(iI params), (iI (9 + (i : Int))), (.slice O bl.length T)]⟩)
    refine wRo 1 0 [(0, .o kD)] 168 168 [] [(168, kD)] (vA (qn 24 0 3 (HS.hc hA (i := 1) rfl) rfl rfl rfl rfl) trivial) rfl fun _ => ?_
    refine aN (aC (q := 0) hA rfl rfl rfl rfl rfl rfl rfl rfl rfl) rfl ?_
    rintro _ mo _ ⟨cd, _⟩
    have cd : HS _ _ _ [[(b1, .cells [(iI params), (iI (9 + (i : Int))), (.slice O bl.length T)] none false)], [(b4, .cells [(iI params), (iI (9 + (i : Int))), (.slice O bl.length T)] none false)], _, _, _, ad] _ := cd
    refine au 1 rfl ?_
    obtain ⟨l4, kI, f1, kQ, lX⟩ := OS.frz U cd (i := 5) rfl
    have f1 : HS _ _ _ [_, _, _, _, _, []] _ := f1
    refine am ⟨.inr rfl, _, (rC rfl (ldVN rfl rfl (HS.hc cd (i := 0) rfl) rfl) rN), (⟨params, 9 + (i : Int), bl⟩ : VFnT), O, T, _, (fT (fT (fT (fT (h2) c8) he) c9) kI), (HS.forget f1), rfl, (by first | omega | (dsimp only; omega)), (by first | omega | (dsimp only; omega)), kQ, (by exact ⟨val_mk (by omega) (by omega) e2, rfl, by first | omega | (dsimp only; omega), ⟨by first | omega | (dsimp only; omega), by first | omega | (dsimp only; omega)⟩, ins_at e3, e5, fi, e6, by first | omega | (dsimp only; omega), w5⟩)⟩
end Go.Proofs.YtlabedbmgmfbaaaDoor.m5
