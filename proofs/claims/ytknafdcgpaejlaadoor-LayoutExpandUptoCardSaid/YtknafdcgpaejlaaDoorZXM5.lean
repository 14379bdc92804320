/-
 The generator of virtual code, whole, by a symbolic run: what it makes is valid. No condition but that the table lies as laid.
-/
import Derived.Test.YtknafdcgpaejlaaDoorZXM4
import Derived.Test.YtknafdcgpaejlaaDoorZXRC
noncomputable section
namespace Go.Proofs.YtknafdcgpaejlaaDoor.m5
open Go.R
set_option maxRecDepth 10000
set_option linter.unusedVariables false
set_option linter.unusedSimpArgs false
open m1 m2 m3 m4
theorem vin_ldi {params regs r op : Int} (hr : 0 ≤ r ∧ r < regs) (ho : op = 13 ∨ op = 38 ∧ r < params) : fK params regs ⟨⟨op, r, 0, 0, r⟩, []⟩ = true := by
 rcases ho with rfl | ⟨rfl, hp⟩
 ·
  exact vin_mk (by decide) (.inr rfl) (by simp) rfl (opOK_t (by decide) hr) (ij (by decide) rfl) (ij (by decide) rfl) rfl
 exact vin_mk (by decide) (.inr rfl) (by simp) rfl (opOK_t (by decide) hr) (ij (by decide) rfl) (ij (by decide) rfl) (decide_eq_true ⟨hr.1, hp⟩)
theorem dV {α : Type} {p : α → Bool} {l : List α} {x : α} (h : l.all p = true) (hx : p x = true) : (l ++ [x]).all p = true := by rw [List.all_append, h]; simp [hx]
theorem blk_mk {params regs nb e g t f : Int} {l : List VInT} (h : l.all (fK params regs) = true) (z : e = 1 ∧ 0 ≤ t ∧ t < nb ∧ f = 0 ∧ g = 0 ∨ e = 2 ∧ 0 ≤ t ∧ t < nb ∧ 0 ≤ f ∧ f < nb ∧ 0 ≤ g ∧ g < regs ∨ e = 3 ∧ 0 ≤ g ∧ g < regs ∧ t = 0 ∧ f = 0 ∨ e = 4 ∧ 1 ≤ t ∧ t < 33554432 ∧ f = 0 ∧ g = 0) : blkV params regs nb ⟨l, e, g, t, f⟩ = true := blk_yes h (dP.2 z)
theorem ins_snoc {l : List BlkT} {x : BlkT} (h : ∀ y ∈ l, y.ins.length ≤ 11) (hx : x.ins.length ≤ 11) : ∀ y ∈ l ++ [x], y.ins.length ≤ 11 := fun y hy => by
 rcases List.mem_append.1 hy with hy | hy
 ·
  exact h y hy
 rw [List.mem_singleton] at hy; rw [hy]; exact hx
theorem ins_at {l : List BlkT} (h : ∀ y ∈ l, y.ins.length ≤ 11) (j : Nat) : (l.getD j default).ins.length ≤ 11 := by
 rw [List.getD_eq_getElem?_getD]
 rcases hj : l[j]? with _ | y
 ·
  exact Nat.zero_le _
 exact h y (List.mem_of_getElem? hj)
def fstOK (fi : List VInT) : Prop := ∀ q : Nat, q < fi.length → (fi.getD q default).i.a = q ∧ ((fi.getD q default).i.op = 13 ∨ (fi.getD q default).i.op = 38)
theorem fst_snoc {fi : List VInT} {x : VInT} (h : fstOK fi) (hx : x.i.a = (fi.length : Int) ∧ (x.i.op = 13 ∨ x.i.op = 38)) : fstOK (fi ++ [x]) := fun q hq => by
 rw [List.length_append] at hq
 simp only [List.length_cons, List.length_nil] at hq
 rcases Nat.lt_or_ge q fi.length with z | z
 ·
  rw [List.getD_eq_getElem?_getD, List.getElem?_append_left z, ← List.getD_eq_getElem?_getD]; exact h q z
 have : q = fi.length := by omega
 subst this
 rw [List.getD_eq_getElem?_getD, List.getElem?_append_right (Nat.le_refl _), Nat.sub_self]; exact hx
theorem first_snoc {l : List BlkT} {x y : BlkT} (h : l.getD 0 default = x) (hl : 0 < l.length) : (l ++ [y]).getD 0 default = x := by
 rw [List.getD_eq_getElem?_getD, List.getElem?_append_left hl, ← List.getD_eq_getElem?_getD]; exact h
theorem ck_ldi {v : VInT} (ho : v.i.op = 13 ∨ v.i.op = 38) : ckI v = true := decide_eq_true ⟨fun h => by omega, fun h => by omega⟩
structure vfG (x : VFnT) (params : Int) : Prop where
 val : dQ x = true
 par : x.params = params
 reg : x.regs = 9 + params
 nb : 2 ≤ x.blocks.length ∧ x.blocks.length ≤ 7
 ins : ∀ j, (x.blocks.getD j default).ins.length ≤ 11
 ck : x.blocks.all (fun y => y.ins.all ckI) = true
 fst : ∃ fi, x.blocks.getD 0 default = ⟨fi, 1, 0, 1, 0⟩ ∧ (fi.length : Int) = x.regs ∧ fstOK fi
theorem val_mk {p r : Int} {l : List BlkT} {n : Int} (h : 0 ≤ p ∧ p ≤ 6 ∧ 0 ≤ r ∧ r ≤ 3000 ∧ 1 ≤ l.length ∧ l.length ≤ 1000) (hn : (l.length : Int) = n) (z : l.all (blkV p r n) = true) : dQ ⟨p, r, l⟩ = true := by subst hn; exact (val_yes (c := ⟨p, r, l⟩) h z).symm
set_option maxHeartbeats 2000000 in
theorem vf_c (ex : FuncId) {a_l : Option Addr} {k_l : Nat} (l : List Int) (params : Int) {F : Fz} {H : Heap} {R : List Fp} (hs : HS (.of H []) F H [] R) (hl : SR F (.slice a_l l.length k_l) l) (hT : TB 37 tabC F) (hp : 0 ≤ params ∧ params ≤ 2) (hbl : l.length ≤ 1000) : C Tryd.prog 1 (KT 60 ex 37 tabC) 16 [(.slice a_l l.length k_l), (iI params)] H fun v H' => ∃ (x : VFnT) (hz : Option Addr) (i1 : Nat) (F' : Fz), Fz.le F F' ∧ HS (.of H []) F' H' [] R ∧ v = .agg ⟨[.int .i64 x.params, .int .i64 x.regs, .slice hz x.blocks.length i1]⟩ ∧ in64 x.params ∧ in64 x.regs ∧ SR F' (.slice hz x.blocks.length i1) x.blocks ∧ (vfG x params) := by
 refine aJ Tryd.func16 rfl rfl ?_
 refine aq 1 rfl ?_
 refine aa ?_
 refine aC (aR hs rfl) rfl rfl ?_
 rintro _ H2 _ ⟨b1, rfl, (lN : HS _ _ _ [[(b1, .cells [(iI 0), (iI 0), (.slice none 0 0)] none false)]] _), _⟩
 refine ab 2 rfl ?_
 refine aa ?_
 refine wRo 2 0 [] 16 17 [] [(17, (.agg ⟨[(iI params), (iI 9), (.slice none 0 0)]⟩))] trivial rfl fun _ => ?_
 refine aC (aR lN rfl) rfl rfl ?_
 rintro _ H5 _ ⟨b4, rfl, (lO : HS _ _ _ [_, [(b4, .cells [(iI 0), (iI 0), (.slice none 0 0)] none false)]] _), _⟩
 refine aF (aw (q := 1) lO rfl rfl rfl rfl rfl rfl rfl rfl rfl) rfl ?_
 rintro _ H6 _ ⟨(lP : HS _ _ _ [_, [(b4, .cells [(iI params), (iI 9), (.slice none 0 0)] none false)]] _), _⟩
 refine ab 2 rfl ?_
 refine wR 3 [] 18 22 [6] [(6, (iI (1 + (if (5 : Int) < ((l.length / 6 : Nat) : Int) then (5 : Int) else ((l.length / 6 : Nat) : Int)))))] (vA (vA (show (6 : Int) ≠ 0 from by decide) (vi (n := ((l.length / 6 : Nat) : Int)) (by omega))) (vA (vi (n := 1 + (if (5 : Int) < ((l.length / 6 : Nat) : Int) then (5 : Int) else ((l.length / 6 : Nat) : Int))) (by omega)) trivial)) rfl fun _ => ?_
 have hM : 1 ≤ (1 + (if (5 : Int) < ((l.length / 6 : Nat) : Int) then (5 : Int) else ((l.length / 6 : Nat) : Int))) ∧ (1 + (if (5 : Int) < ((l.length / 6 : Nat) : Int) then (5 : Int) else ((l.length / 6 : Nat) : Int))) ≤ 6 := by omega
 refine wR 2 [] 1 0 [7] [(7, (iI 0))] trivial rfl fun _ => ?_
 let b3 : Fp := [(b1, .cells [(iI 0), (iI 0), (.slice none 0 0)] none false)]
 refine aE (fun (mm : Nat) f H' => ∃ (i : Nat) (F' : Fz), Fz.le F F' ∧ HS (Base.of H []) F' H' [b3, [(b4, .cells [(iI params), (iI (9 + (i : Int))), (.slice none 0 0)] none false)]] R ∧ aH f [(0, (.slice a_l l.length k_l)), (1, (iI params)), (4, (.pointer (some ⟨b1, 0, none⟩))), (5, (.pointer (some ⟨b4, 0, none⟩))), (6, (iI (1 + (if (5 : Int) < ((l.length / 6 : Nat) : Int) then (5 : Int) else ((l.length / 6 : Nat) : Int))))), (7, (iI (i : Int)))] ∧ mm = (params - (i : Int)).toNat ∧ ((i : Int) ≤ params)) _ ⟨0, _, fR, lP, ⟨rfl, rfl, rfl, rfl, rfl, rfl, trivial⟩, rfl, (by omega)⟩ ?_
 rintro nW f9 H9 ⟨i, F9, hf, ib, kC, rfl, q1⟩ lQ
 refine au _ kC (fun _ => ?_)
 clear kC
 replace hT := hT.mono hf
 replace hl := hl.mono hf
 refine aq 2 rfl ?_
 refine wR 1 [] 23 25 [] [(25, (.bool (decide ((i : Int) < params))))] trivial rfl fun _ => ?_
 refine ap 3 5 (v := (decide ((i : Int) < params))) rfl rfl rfl rfl (fun ds => ?_) (fun ds => ?_)
 ·
  have hA := ds
  try simp only [BS] at hA
  refine aa ?_
  refine wRo 4 0 [(1, .o (iI (9 + (i : Int))))] 28 31 [] [(30, (iI ((9 + (i : Int)) + 1))), (31, (.pointer (some ⟨b4, 1, none⟩)))] (vA (ql 3 1 (HS.hc ib (i := 1) rfl) rfl rfl) (vA (vi (n := (9 + (i : Int)) + 1) (by omega)) trivial)) rfl fun _ => ?_
  refine aF (aw (q := 1) ib rfl rfl rfl rfl rfl rfl rfl rfl rfl) rfl ?_
  rintro _ na _ ⟨(kR : HS _ _ _ [_, [(b4, .cells [(iI params), (iI ((9 + (i : Int)) + 1)), (.slice none 0 0)] none false)]] _), _⟩
  refine ab 2 rfl ?_
  refine wR 1 [] 26 27 [7] [(7, (iI ((i : Int) + 1)))] (vA (vi (n := (i : Int) + 1) (by omega)) trivial) rfl fun _ => ?_
  refine lQ _ _ _ ?_ ⟨i + 1, _, (hf), kR, ⟨rfl, rfl, rfl, rfl, rfl, rfl, trivial⟩, rfl, (by omega)⟩
  omega
 have hA := ds
 try simp only [BS] at hA
 refine aa ?_
 refine aC (aR ib rfl) rfl rfl ?_
 rintro _ nc _ ⟨a2, rfl, (kS : HS _ _ _ [_, [(b4, .cells [(iI params), (iI (9 + (i : Int))), (.slice none 0 0)] none false)], [(a2, .cells [(.slice none 0 0), (iI 0), (iI 0), (iI 0), (iI 0)] none false)]] _), _⟩
 refine ab 3 rfl ?_
 refine wR 2 [] 1 0 [9] [(9, (iI 0))] trivial rfl fun _ => ?_
 have f0 := HS.snoc kS
 have f0 : HS _ _ _ [_, _, _, []] _ := f0
 let kF : Fp := [(b4, .cells [(iI params), (iI (9 + (i : Int))), (.slice none 0 0)] none false)]
 refine aE (fun (mm : Nat) f H' => ∃ (fi : List VInT) (r : Nat) (ar : Fp) (E : Option Addr) (J : Nat) (F' : Fz), Fz.le F9 F' ∧ HS (Base.of H []) F' H' [b3, kF, [(a2, .cells [(.slice E fi.length J), (iI 0), (iI 0), (iI 0), (iI 0)] none false)], ar] R ∧ OS F' (.slice E fi.length J) fi ar ∧ aH f [(0, (.slice a_l l.length k_l)), (1, (iI params)), (4, (.pointer (some ⟨b1, 0, none⟩))), (5, (.pointer (some ⟨b4, 0, none⟩))), (6, (iI (1 + (if (5 : Int) < ((l.length / 6 : Nat) : Int) then (5 : Int) else ((l.length / 6 : Nat) : Int))))), (8, (.pointer (some ⟨a2, 0, none⟩))), (9, (iI (r : Int)))] ∧ mm = (9 + (i : Int) - (r : Int)).toNat ∧ (fi.length = r) ∧ (fi.all (fK params (9 + (i : Int))) = true) ∧ (fi.all ckI = true) ∧ (fstOK fi) ∧ ((r : Int) ≤ 9 + (i : Int))) _ ⟨([] : List VInT), 0, [], none, 0, _, fR, f0, (OS.nil : OS F9 (.slice none 0 0) ([] : List VInT) []), ⟨rfl, rfl, rfl, rfl, rfl, rfl, rfl, trivial⟩, rfl, (by rfl), (by rfl), (by rfl), (by intro q hq; cases hq), (by omega)⟩ ?_
 rintro mU nI ne ⟨fi, r, ar, E, J, lw, cc, fd, ay, hW, rfl, w1, w2, w4, w5, w3⟩ k8
 refine au _ hW (fun _ => ?_)
 clear hW
 replace hT := hT.mono cc
 replace hl := hl.mono cc
 refine aq 2 rfl ?_
 refine wR 1 [(2, .o (iI (9 + (i : Int))))] 32 35 [] [(35, (.bool (decide ((r : Int) < 9 + (i : Int)))))] (vA (ql 3 1 (HS.hc fd (i := 1) rfl) rfl rfl) trivial) rfl fun _ => ?_
 refine ap 4 5 (v := (decide ((r : Int) < 9 + (i : Int)))) rfl rfl rfl rfl (fun dv => ?_) (fun dv => ?_)
 ·
  have hB := dv
  try simp only [BS] at hB
  refine aa ?_
  let kG : Value := (.agg ⟨[(iI 13), (iI (r : Int)), (iI 0), (iI 0), (iI (r : Int))]⟩)
  refine wRo 3 0 [] 38 40 [] [(40, kG)] trivial rfl fun _ => ?_
  refine aC (aR fd rfl) rfl rfl ?_
  rintro _ ng _ ⟨b6, rfl, (kT : HS _ _ _ [_, _, [(a2, .cells [(.slice E fi.length J), (iI 0), (iI 0), (iI 0), (iI 0)] none false)], ar, [(b6, .cells [(iI 0), (iI 0), (iI 0), (iI 0), (iI 0)] none false)]] _), _⟩
  refine aF (aw (q := 4) kT rfl rfl rfl rfl rfl rfl rfl rfl rfl) rfl ?_
  rintro _ nh _ ⟨(h6 : HS _ _ _ [_, _, _, _, [(b6, .cells [(iI 13), (iI (r : Int)), (iI 0), (iI 0), (iI (r : Int))] none false)]] _), _⟩
  refine ab 3 rfl ?_
  refine wR 1 [] 41 43 [] [(43, (.bool (decide ((r : Int) < params))))] trivial rfl fun _ => ?_
  refine aY (fun f H' => ∃ (vo : Int) (F' : Fz), Fz.le lw F' ∧ HS (Base.of H []) F' H' [b3, kF, [(a2, .cells [(.slice E fi.length J), (iI 0), (iI 0), (iI 0), (iI 0)] none false)], ar, [(b6, .cells [(iI vo), (iI (r : Int)), (iI 0), (iI 0), (iI (r : Int))] none false)]] R ∧ aH f [(0, (.slice a_l l.length k_l)), (1, (iI params)), (4, (.pointer (some ⟨b1, 0, none⟩))), (5, (.pointer (some ⟨b4, 0, none⟩))), (6, (iI (1 + (if (5 : Int) < ((l.length / 6 : Nat) : Int) then (5 : Int) else ((l.length / 6 : Nat) : Int))))), (8, (.pointer (some ⟨a2, 0, none⟩))), (9, (iI (r : Int))), (10, (.pointer (some ⟨b6, 0, none⟩))), (35, (.bool (decide ((r : Int) < 9 + (i : Int))))), (40, kG), (43, (.bool (decide ((r : Int) < params))))] ∧ (vo = 13 ∨ vo = 38 ∧ (r : Int) < params)) (fun ii => ?_) ?_
  ·
   refine ap 0 0 (v := (decide ((r : Int) < params))) rfl rfl rfl rfl (fun d1 => ?_) (fun d1 => ?_)
   ·
    have hC := d1
    try simp only [BS] at hC
    refine aa ?_
    refine wRo 3 0 [] 44 46 [] [(46, (.agg ⟨[(iI 38), (iI (r : Int)), (iI 0), (iI 0), (iI (r : Int))]⟩))] trivial rfl fun _ => ?_
    refine aF (aw (q := 4) h6 rfl rfl rfl rfl rfl rfl rfl rfl rfl) rfl ?_
    rintro _ nj _ ⟨(kU : HS _ _ _ [_, _, _, _, [(b6, .cells [(iI 38), (iI (r : Int)), (iI 0), (iI 0), (iI (r : Int))] none false)]] _), _⟩
    refine ab 0 rfl ?_
    exact ii _ _ ⟨38, _, fR, kU, ⟨rfl, rfl, rfl, rfl, rfl, rfl, rfl, rfl, rfl, rfl, rfl, trivial⟩, (by omega)⟩
   have hC := d1
   try simp only [BS] at hC
   exact ii _ _ ⟨13, _, fR, h6, ⟨rfl, rfl, rfl, rfl, rfl, rfl, rfl, rfl, rfl, rfl, rfl, trivial⟩, (by omega)⟩
  skip
  rintro nJ ni ⟨vo, mY, hS, f1, hX, hvo⟩
  refine au _ hX (fun _ => ?_)
  clear hX
  replace ay := ay.mono hS
  refine aq 1 rfl ?_
  refine aa ?_
  let kH : Value := (.agg ⟨[(iI vo), (iI (r : Int)), (iI 0), (iI 0), (iI (r : Int)), (.slice none 0 0)]⟩)
  refine wRo 4 0 [(1, .o (.slice E fi.length J)), (2, .o (.agg ⟨[(iI vo), (iI (r : Int)), (iI 0), (iI 0), (iI (r : Int))]⟩))] 47 50 [] [(48, (.slice E fi.length J)), (50, kH)] (vA (ql 46 0 (HS.hc f1 (i := 2) rfl) rfl rfl) (vA (qn 50 0 5 (HS.hc f1 (i := 4) rfl) rfl rfl rfl rfl) trivial)) rfl fun _ => ?_
  refine aC (aP (α := VInT) (ps := [(0, kH)]) (cells := [(iI vo), (iI (r : Int)), (iI 0), (iI 0), (iI (r : Int)), (.slice none 0 0)]) ([(⟨(⟨vo, (r : Int), 0, 0, (r : Int)⟩ : InsT), ([] : List Int)⟩ : VInT)] : List VInT) f1 rfl rfl rfl (by kernel_rfl) ⟨[(iI vo), (iI (r : Int)), (iI 0), (iI 0), (iI (r : Int)), (.slice none 0 0)], [], rfl, ⟨none, 0, rfl, by (dsimp only; omega), by (dsimp only; omega), by (dsimp only; omega), by (dsimp only; omega), by (dsimp only; omega), SR.nil⟩, rfl⟩ rfl) rfl rfl ?_
  rintro _ nk lR ⟨nF, nT, rfl, kL, (h7 : HS _ _ _ [_, _, _, _, [(b6, .cells [(iI vo), (iI (r : Int)), (iI 0), (iI 0), (iI (r : Int))] none false)], lR] _), _⟩
  refine aC (aW (α := VInT) (q := 3) ay h7 rfl rfl rfl (OS.sv kL h7 (i := 5) rfl) rfl rfl rfl rfl rfl rfl rfl (by (simp only [List.length_append, List.length_cons, List.length_nil]; omega))) rfl rfl ?_
  rintro _ nl kE ⟨kB, kD, rfl, kM, (kV : HS _ _ _ [_, _, _, kE, _, _] _), _⟩
  refine wRo 1 6 [] 53 53 [] [(53, (.pointer (some ⟨a2, 0, none⟩)))] trivial rfl fun _ => ?_
  refine aF (aw (q := 2) kV rfl rfl rfl rfl rfl rfl rfl rfl rfl) rfl ?_
  rintro _ nm _ ⟨(kW : HS _ _ _ [_, _, [(a2, .cells [(.slice kB (fi ++ ([(⟨(⟨vo, (r : Int), 0, 0, (r : Int)⟩ : InsT), ([] : List Int)⟩ : VInT)] : List VInT)).length kD), (iI 0), (iI 0), (iI 0), (iI 0)] none false)], _, _, _] _), _⟩
  refine ab 2 rfl ?_
  refine wR 1 [] 36 37 [9] [(9, (iI ((r : Int) + 1)))] (vA (vi (n := (r : Int) + 1) (by omega)) trivial) rfl fun _ => ?_
  refine k8 _ _ _ ?_ ⟨fi ++ ([(⟨(⟨vo, (r : Int), 0, 0, (r : Int)⟩ : InsT), ([] : List Int)⟩ : VInT)] : List VInT), r + 1, kE, kB, kD, _, (fT (cc) hS), (HS.sub kW (List.sublist_append_left _ _)), kM, ⟨rfl, rfl, rfl, rfl, rfl, rfl, rfl, trivial⟩, rfl, (by simp; omega), (by exact dV w2 (vin_ldi (by omega) (by omega))), (by exact dV w4 (ck_ldi (by (dsimp only; omega)))), (by exact fst_snoc w5 ⟨by rw [w1], by (dsimp only; omega)⟩), (by omega)⟩
  omega
 have hB := dv
 try simp only [BS] at hB
 refine aa ?_
 refine wRo 1 0 [] 54 54 [] [(54, (.pointer (some ⟨a2, 1, none⟩)))] trivial rfl fun _ => ?_
 refine aF (aw (q := 2) fd rfl rfl rfl rfl rfl rfl rfl rfl rfl) rfl ?_
 rintro _ np _ ⟨(kX : HS _ _ _ [_, _, [(a2, .cells [(.slice E fi.length J), (iI 1), (iI 0), (iI 0), (iI 0)] none false)], ar] _), _⟩
 refine wRo 1 2 [] 55 55 [] [(55, (.pointer (some ⟨a2, 3, none⟩)))] trivial rfl fun _ => ?_
 refine aF (aw (q := 2) kX rfl rfl rfl rfl rfl rfl rfl rfl rfl) rfl ?_
 rintro _ nq _ ⟨(f2 : HS _ _ _ [_, _, [(a2, .cells [(.slice E fi.length J), (iI 1), (iI 0), (iI 1), (iI 0)] none false)], _] _), _⟩
 refine ab 2 rfl ?_
 refine aa ?_
 let g2 : Value := (.agg ⟨[(.slice E fi.length J), (iI 1), (iI 0), (iI 1), (iI 0)]⟩)
 refine wRo 3 0 [(1, .o (.slice none 0 0)), (2, .o g2)] 56 58 [] [(57, (.slice none 0 0)), (58, g2)] (vA (ql 22 2 (HS.hc f2 (i := 1) rfl) rfl rfl) (vA (qn 48 0 5 (HS.hc f2 (i := 2) rfl) rfl rfl rfl rfl) trivial)) rfl fun _ => ?_
 obtain ⟨ht, et, f3, kP, mS⟩ := OS.frz ay f2 (i := 3) rfl
 have f3 : HS _ _ _ [_, _, _, []] _ := f3
 refine aC (aP (α := BlkT) (ps := [(0, g2)]) (cells := [(.slice E fi.length J), (iI 1), (iI 0), (iI 1), (iI 0)]) ([(⟨fi, 1, 0, 1, 0⟩ : BlkT)] : List BlkT) f3 rfl rfl rfl (by kernel_rfl) ⟨[(.slice E fi.length J), (iI 1), (iI 0), (iI 1), (iI 0)], [], rfl, ⟨E, J, rfl, by (dsimp only; omega), by (dsimp only; omega), by (dsimp only; omega), by (dsimp only; omega), kP⟩, rfl⟩ rfl) rfl rfl ?_
 rintro _ nr dl ⟨nG, nU, rfl, kN, (kY : HS _ _ _ [_, _, _, _, dl] _), _⟩
 have c6 := HS.snoc kY
 have c6 : HS _ _ _ [_, _, _, _, _, []] _ := c6
 refine aC (aW (α := BlkT) (q := 5) (OS.nil : OS ht (.slice none 0 0) ([] : List BlkT) []) c6 rfl rfl rfl (OS.sv kN c6 (i := 4) rfl) rfl rfl rfl rfl rfl rfl rfl (by (simp only [List.length_append, List.length_cons, List.length_nil]; omega))) rfl rfl ?_
 rintro _ ns i3 ⟨hv, iv, rfl, e0, (kZ : HS _ _ _ [_, _, _, _, _, i3] _), _⟩
 have e0 : OS ht (.slice hv ([(⟨fi, 1, 0, 1, 0⟩ : BlkT)] : List BlkT).length iv) ([(⟨fi, 1, 0, 1, 0⟩ : BlkT)] : List BlkT) i3 := e0
 refine wRo 1 5 [] 61 61 [] [(61, (.pointer (some ⟨b4, 2, none⟩)))] trivial rfl fun _ => ?_
 refine aF (aw (q := 1) kZ rfl rfl rfl rfl rfl rfl rfl rfl rfl) rfl ?_
 rintro _ nt _ ⟨(k0 : HS _ _ _ [_, [(b4, .cells [(iI params), (iI (9 + (i : Int))), (.slice hv ([(⟨fi, 1, 0, 1, 0⟩ : BlkT)] : List BlkT).length iv)] none false)], _, _, _, _] _), _⟩
 refine ab 3 rfl ?_
 refine wR 2 [] 1 0 [11] [(11, (iI 0))] trivial rfl fun _ => ?_
 let dk : Fp := [(a2, .cells [(.slice E fi.length J), (iI 1), (iI 0), (iI 1), (iI 0)] none false)]
 refine aE (fun (mm : Nat) f H' => ∃ (bl : List BlkT) (b : Nat) (ag : Fp) (T : Option Addr) (U : Nat) (F' : Fz), Fz.le ht F' ∧ HS (Base.of H []) F' H' [b3, [(b4, .cells [(iI params), (iI (9 + (i : Int))), (.slice T bl.length U)] none false)], dk, [], dl, ag] R ∧ OS F' (.slice T bl.length U) bl ag ∧ aH f [(0, (.slice a_l l.length k_l)), (4, (.pointer (some ⟨b1, 0, none⟩))), (5, (.pointer (some ⟨b4, 0, none⟩))), (6, (iI (1 + (if (5 : Int) < ((l.length / 6 : Nat) : Int) then (5 : Int) else ((l.length / 6 : Nat) : Int))))), (11, (iI (b : Int)))] ∧ mm = ((1 + (if (5 : Int) < ((l.length / 6 : Nat) : Int) then (5 : Int) else ((l.length / 6 : Nat) : Int))) - (b : Int)).toNat ∧ (bl.length = b + 1) ∧ (bl.all (blkV params (9 + (i : Int)) ((1 + (if (5 : Int) < ((l.length / 6 : Nat) : Int) then (5 : Int) else ((l.length / 6 : Nat) : Int))) + 1)) = true) ∧ (∀ y ∈ bl, y.ins.length ≤ 11) ∧ (bl.all (fun y => y.ins.all ckI) = true) ∧ (bl.getD 0 default = ⟨fi, 1, 0, 1, 0⟩) ∧ ((b : Int) ≤ (1 + (if (5 : Int) < ((l.length / 6 : Nat) : Int) then (5 : Int) else ((l.length / 6 : Nat) : Int))))) _ ⟨([(⟨fi, 1, 0, 1, 0⟩ : BlkT)] : List BlkT), 0, i3, hv, iv, _, fR, k0, e0, ⟨rfl, rfl, rfl, rfl, rfl, trivial⟩, rfl, (by rfl), (by exact dV (l := []) rfl (blk_mk w2 (by omega))), (by exact ins_snoc (l := []) (by simp) (by (dsimp only; omega))), (by exact dV (l := []) rfl w4), (by rfl), (by omega)⟩ ?_
 rintro mV nK nu ⟨bl, b, ag, T, U, kz, ch, f4, V, h1, rfl, e1, e2, e3, e5, e6, e4⟩ k9
 refine au _ h1 (fun _ => ?_)
 clear h1
 replace hT := (hT.mono et).mono ch
 replace hl := (hl.mono et).mono ch
 refine aq 2 rfl ?_
 refine wR 1 [] 62 64 [] [(64, (.bool (decide ((b : Int) < 1 + (if (5 : Int) < ((l.length / 6 : Nat) : Int) then (5 : Int) else ((l.length / 6 : Nat) : Int))))))] trivial rfl fun _ => ?_
 refine ap 4 5 (v := (decide ((b : Int) < 1 + (if (5 : Int) < ((l.length / 6 : Nat) : Int) then (5 : Int) else ((l.length / 6 : Nat) : Int))))) rfl rfl rfl rfl (fun d2 => ?_) (fun d2 => ?_)
 ·
  have hE := d2
  try simp only [BS] at hE
  refine aa ?_
  refine aC (aR f4 rfl) rfl rfl ?_
  rintro _ nv _ ⟨N, rfl, (k3 : HS _ _ _ [_, [(b4, .cells [(iI params), (iI (9 + (i : Int))), (.slice T bl.length U)] none false)], _, _, _, ag, [(N, .cells [(.slice none 0 0), (iI 0), (iI 0), (iI 0), (iI 0)] none false)]] _), _⟩
  refine ab 3 rfl ?_
  refine wR 2 [] 1 0 [13] [(13, (iI 0))] trivial rfl fun _ => ?_
  have f5 := HS.snoc k3
  have f5 : HS _ _ _ [_, _, _, _, _, _, _, []] _ := f5
  let g3 : Fp := [(b4, .cells [(iI params), (iI (9 + (i : Int))), (.slice T bl.length U)] none false)]
  refine aE (fun (mm : Nat) f H' => ∃ (xi : List VInT) (k : Nat) (al : Fp) (z : Option Addr) (A : Nat) (F' : Fz), Fz.le kz F' ∧ HS (Base.of H []) F' H' [b3, g3, dk, [], dl, ag, [(N, .cells [(.slice z xi.length A), (iI 0), (iI 0), (iI 0), (iI 0)] none false)], al] R ∧ OS F' (.slice z xi.length A) xi al ∧ aH f [(0, (.slice a_l l.length k_l)), (4, (.pointer (some ⟨b1, 0, none⟩))), (5, (.pointer (some ⟨b4, 0, none⟩))), (6, (iI (1 + (if (5 : Int) < ((l.length / 6 : Nat) : Int) then (5 : Int) else ((l.length / 6 : Nat) : Int))))), (11, (iI (b : Int))), (12, (.pointer (some ⟨N, 0, none⟩))), (13, (iI (k : Int))), (64, (.bool (decide ((b : Int) < 1 + (if (5 : Int) < ((l.length / 6 : Nat) : Int) then (5 : Int) else ((l.length / 6 : Nat) : Int))))))] ∧ mm = 5 - k ∧ (xi.length = k) ∧ (xi.all (fK params (9 + (i : Int))) = true) ∧ (xi.all ckI = true) ∧ (k ≤ 5)) _ ⟨([] : List VInT), 0, [], none, 0, _, fR, f5, (OS.nil : OS kz (.slice none 0 0) ([] : List VInT) []), ⟨rfl, rfl, rfl, rfl, rfl, rfl, rfl, rfl, trivial⟩, rfl, (by rfl), (by rfl), (by rfl), (by omega)⟩ ?_
  rintro mW nL kA ⟨xi, k, al, z, A, mZ, b0, a0, Z, h2, rfl, z1, z2, z4, z3⟩ la
  refine au _ h2 (fun _ => ?_)
  clear h2
  replace hT := hT.mono b0
  replace hl := hl.mono b0
  replace V := V.mono b0
  refine aq 2 rfl ?_
  refine wR 1 [] 67 77 [] [(77, (.bool ((decide ((k : Int) < 5)) && (decide ((6 * (b : Int)) + (k : Int) < (l.length : Int))))))] (vA (fun (g1 : (decide ((k : Int) < 5)) = true) => (vi (n := 6 * (b : Int)) (by (try simp only [BS] at g1); (first | omega | (dsimp only; omega))))) (vA (fun (g1 : (decide ((k : Int) < 5)) = true) => (vi (n := (6 * (b : Int)) + (k : Int)) (by (try simp only [BS] at g1); (first | omega | (dsimp only; omega))))) trivial)) rfl fun _ => ?_
  refine ap 3 5 (v := ((decide ((k : Int) < 5)) && (decide ((6 * (b : Int)) + (k : Int) < (l.length : Int))))) rfl rfl rfl rfl (fun d3 => ?_) (fun d3 => ?_)
  ·
   have hF := d3
   try simp only [BS] at hF
   refine aQ rfl ?_
   refine wfv (v := (.pointer (some ⟨N, 0, none⟩))) (cg rfl rfl) ?_
   refine aB (v := (.slice z xi.length A)) (id := .l N) (bh (i := 0) rfl rfl (HS.hc a0.log0 (i := 6) rfl) rfl rfl) rfl rfl (bg rfl) (kb rfl) ?_
   refine fm (.slice a_l l.length k_l) rfl rfl rfl ?_
   refine fm (iI (b : Int)) rfl rfl rfl ?_
   refine wfv (v := (iI (6 * (b : Int)))) (ap_mul rfl rfl (w_i64 (n := 6 * (b : Int)) (by omega))) ?_
   refine fm (iI (k : Int)) rfl rfl rfl ?_
   refine wfv (v := (iI ((6 * (b : Int)) + (k : Int)))) (ap_add rfl rfl (w_i64 (n := (6 * (b : Int)) + (k : Int)) (by omega))) ?_
   refine wfv (v := (.pointer (some ⟨sB (.slice a_l l.length k_l), sO (.slice a_l l.length k_l) + ((6 * b) + k) * Rp.sz Int, none⟩))) (br (α := Int) (j := (6 * (b : Int)) + (k : Int)) rfl rfl rfl rfl (SR.sv hl a0.log0) (by omega) (by omega)) ?_
   obtain ⟨mL, kQ, kK⟩ := Sv.at (SR.sv hl a0.log0) (aK (x := (0 : Int)) (show (6 * b) + k < l.length from by omega))
   obtain ⟨rfl, lY⟩ := kQ
   refine aB (v := (iI (l.getD ((6 * b) + k) 0))) (id := .l (sB (.slice a_l l.length k_l))) (bh (i := 0) rfl rfl kK rfl rfl) rfl rfl (bg rfl) (kb rfl) ?_
   refine aB (v := (.agg ⟨[(iI params), (iI (9 + (i : Int))), (.slice T bl.length U)]⟩)) (id := .l b4) (bQ (i := 0) rfl rfl rfl (HS.hc a0.log0 (i := 1) rfl) rfl rfl rfl) rfl rfl (bg rfl) (kb rfl) ?_
   refine aX (W := []) (am rfl rfl rfl) rfl rfl rfl (m4.vi_c ex (l.getD ((6 * b) + k) 0) (⟨params, 9 + (i : Int), bl⟩ : VFnT) (HS.call a0.log0) (by omega) (by (dsimp only; omega)) (by (dsimp only; omega)) hT (by (dsimp only; omega))) (⟨.inl rfl, ⟨.inl rfl, ⟨.inl rfl, ⟨.inl rfl, ⟨.inl rfl, ⟨.inl rfl, ⟨.inl rfl, ⟨.inl rfl, ⟨.inr List.not_mem_nil, ⟨.inr trivial, trivial⟩⟩⟩⟩⟩⟩⟩⟩⟩⟩) ?_
   rintro _ lC ⟨an, a6, a7, m0, hV, a1, rfl, lp, lq, lr, lu, lv, hr, nP, mR⟩
   refine ⟨Wr.did a1.log, fun lb j2 => ?_⟩
   replace a1 := HS.back a0.log0 rfl a1
   replace a1 := HS.lg a1 a0 j2
   generalize ({ lC with log := lb } : Heap) = mF at a1 ⊢
   have a1 : HS _ _ _ [_, _, _, _, _, _, [(N, .cells [(.slice z xi.length A), (iI 0), (iI 0), (iI 0), (iI 0)] none false)], al] _ := a1
   replace Z := Z.mono hV
   refine cL (id := .a) (aP (α := VInT) (ps := [(0, (.agg ⟨[(iI an.i.op), (iI an.i.a), (iI an.i.b), (iI an.i.c), (iI an.i.n), (.slice a6 an.args.length a7)]⟩))]) (cells := [(iI an.i.op), (iI an.i.a), (iI an.i.b), (iI an.i.c), (iI an.i.n), (.slice a6 an.args.length a7)]) ([an] : List VInT) a1.log0 rfl rfl rfl (by kernel_rfl) ⟨[(iI an.i.op), (iI an.i.a), (iI an.i.b), (iI an.i.c), (iI an.i.n), (.slice a6 an.args.length a7)], [], rfl, ⟨a6, a7, rfl, by omega, by omega, by omega, by omega, by omega, hr⟩, rfl⟩ rfl) rfl rfl (fun _ _ _ _ => iU rfl rfl rfl) (kb rfl) ?_
   rintro _ lD lS ⟨nH, nV, rfl, kO, a3, _⟩ lc kc
   replace a3 := HS.lg a3 a1 kc
   generalize ({ lD with log := lc } : Heap) = mG at a3 ⊢
   have a3 : HS _ _ _ [_, _, _, _, _, _, _, _, lS] _ := a3
   refine cL (id := .x (al.map Prod.fst)) (aW (α := VInT) (q := 7) Z a3.log0 rfl rfl rfl (OS.sv kO a3.log0 (i := 8) rfl) rfl rfl rfl rfl rfl rfl rfl (by (simp only [List.length_append, List.length_cons, List.length_nil]; omega))) rfl rfl (by rintro _ _ ja ⟨hw, iz, rfl, h5, _, hwr⟩; exact dh rfl rfl (Wr.did hwr)) (kb rfl) ?_
   rintro _ lE ja ⟨hw, iz, rfl, h5, a5, _⟩ ld kd
   replace a5 := HS.lg a5 a3 kd
   generalize ({ lE with log := ld } : Heap) = mH at a5 ⊢
   have a5 : HS _ _ _ [_, _, _, _, _, _, _, ja, _] _ := a5
   refine wfv (v := (.pointer (some ⟨N, 0, none⟩))) (cg rfl rfl) ?_
   refine jz (id := .x [N]) (aw (q := 6) a5.log0 rfl rfl rfl rfl rfl rfl rfl rfl rfl) rfl (by rintro _ _ _ ⟨_, hwr⟩; exact dh rfl rfl (Wr.did hwr)) (kb rfl) ?_
   rintro _ lF _ ⟨a8, _⟩ lf kg
   replace a8 := HS.lg a8 a5 kg
   generalize ({ lF with log := lf } : Heap) = mI at a8 ⊢
   have a8 : HS _ _ _ [_, _, _, _, _, _, [(N, .cells [(.slice hw (xi ++ ([an] : List VInT)).length iz), (iI 0), (iI 0), (iI 0), (iI 0)] none false)], _, _] _ := a8
   refine bU ?_
   refine aq 2 rfl ?_
   refine wR 1 [] 78 79 [13] [(13, (iI ((k : Int) + 1)))] (vA (vi (n := (k : Int) + 1) (by omega)) trivial) rfl fun _ => ?_
   refine la _ _ _ ?_ ⟨xi ++ ([an] : List VInT), k + 1, ja, hw, iz, _, (fT (b0) hV), (HS.sub a8 (List.sublist_append_left _ _)), h5, ⟨rfl, rfl, rfl, rfl, rfl, rfl, rfl, rfl, trivial⟩, rfl, (by simp; omega), (by exact dV z2 (by assumption)), (by exact dV z4 (by assumption)), (by omega)⟩
   omega
  have hF := d3
  try simp only [BS] at hF
  refine wR 3 [] 1 0 [14] [(14, (iI 0))] trivial rfl fun _ => ?_
  refine wR 1 [] 94 99 [] [(99, (.bool (decide ((6 * (b : Int)) + 5 < (l.length : Int)))))] (vA (vi (n := 6 * (b : Int)) (by omega)) (vA (vi (n := (6 * (b : Int)) + 5) (by omega)) trivial)) rfl fun _ => ?_
  refine aY (fun f H' => ∃ (nn : Int), H' = kA ∧ aH f [(0, (.slice a_l l.length k_l)), (4, (.pointer (some ⟨b1, 0, none⟩))), (5, (.pointer (some ⟨b4, 0, none⟩))), (6, (iI (1 + (if (5 : Int) < ((l.length / 6 : Nat) : Int) then (5 : Int) else ((l.length / 6 : Nat) : Int))))), (11, (iI (b : Int))), (12, (.pointer (some ⟨N, 0, none⟩))), (13, (iI (k : Int))), (14, (iI nn)), (64, (.bool (decide ((b : Int) < 1 + (if (5 : Int) < ((l.length / 6 : Nat) : Int) then (5 : Int) else ((l.length / 6 : Nat) : Int)))))), (77, (.bool ((decide ((k : Int) < 5)) && (decide ((6 * (b : Int)) + (k : Int) < (l.length : Int)))))), (99, (.bool (decide ((6 * (b : Int)) + 5 < (l.length : Int)))))] ∧ (in64 nn)) (fun ik => ?_) ?_
  ·
   refine ap 0 0 (v := (decide ((6 * (b : Int)) + 5 < (l.length : Int)))) rfl rfl rfl rfl (fun d4 => ?_) (fun d4 => ?_)
   ·
    have hG := d4
    try simp only [BS] at hG
    obtain ⟨mK, ih⟩ := Sv.view (SR.sv hl a0)
    have nO := fI (ih ((6 * b) + 5))
    refine wR 0 [(5, .o (iI (l.getD ((6 * b) + 5) 0)))] 100 105 [14] [(14, (iI (l.getD ((6 * b) + 5) 0)))] (vA (vi (n := 6 * (b : Int)) (by omega)) (vA (vi (n := (6 * (b : Int)) + 5) (by omega)) (vA (Sv.ix (j := (6 * (b : Int)) + 5) (SR.sv hl a0) (by omega) (by omega)) (vA (ql 3 0 (vI (ih ((6 * b) + 5)) (by omega)) rfl rfl) trivial)))) rfl fun _ => ?_
    exact ik _ _ ⟨(l.getD ((6 * b) + 5) 0), rfl, ⟨rfl, rfl, rfl, rfl, rfl, rfl, rfl, rfl, rfl, rfl, rfl, trivial⟩, (by omega)⟩
   have hG := d4
   try simp only [BS] at hG
   exact ik _ _ ⟨0, rfl, ⟨rfl, rfl, rfl, rfl, rfl, rfl, rfl, rfl, rfl, rfl, rfl, trivial⟩, (by omega)⟩
  skip
  rintro nM kA ⟨nn, rfl, h3, hnn⟩
  refine au _ h3 (fun _ => ?_)
  clear h3
  refine aq 2 rfl ?_
  refine aa ?_
  refine wRo 2 0 [] 106 107 [] [(107, (.agg ⟨[(iI nn)]⟩))] trivial rfl fun _ => ?_
  refine aC (be a0 rfl rfl) rfl rfl ?_
  rintro _ nw _ ⟨ad, rfl, (h8 : HS _ _ _ [_, _, _, _, _, _, [(N, .cells [(.slice z xi.length A), (iI 0), (iI 0), (iI 0), (iI 0)] none false)], al, [(ad, .cells [(iI nn)] none false)]] _), _⟩
  refine wa (.pointer (some ⟨ad, 0, none⟩)) rfl rfl rfl ?_
  refine ab 3 rfl ?_
  refine aa ?_
  refine wm (.pointer (some ⟨ad, 0, none⟩)) rfl rfl rfl ?_
  refine az (am rfl rfl rfl) rfl rfl (m4.cm ex (⟨nn⟩ : DigT) (6) (HS.callOwn h8 (i := 8) rfl) (by omega) (by omega) hT (by omega)) ?_
  rintro _ nx ⟨a4, bz, lz, ci, av, rfl, lK, nQ⟩
  replace av : HS _ _ _ [_, _, _, _, _, _, _, _, [(ad, .cells [(iI bz.n)] none false)]] _ := HS.backOwn h8 (i := 8) rfl rfl (fun _ hb => hb) av
  replace hT := hT.mono ci
  replace V := V.mono ci
  replace Z := Z.mono ci
  refine ab 3 rfl ?_
  refine wR 1 [] 127 128 [] [(127, (.bool (a4 == 0)))] trivial rfl fun _ => ?_
  refine aY (fun f H' => ∃ (xe : Int) (xg : Int) (xt : Int) (xf : Int) (dd : DigT) (F' : Fz), Fz.le lz F' ∧ HS (Base.of H []) F' H' [b3, g3, dk, [], dl, ag, [(N, .cells [(.slice z xi.length A), (iI xe), (iI xg), (iI xt), (iI xf)] none false)], al, [(ad, .cells [(iI dd.n)] none false)]] R ∧ aH f [(0, (.slice a_l l.length k_l)), (4, (.pointer (some ⟨b1, 0, none⟩))), (5, (.pointer (some ⟨b4, 0, none⟩))), (6, (iI (1 + (if (5 : Int) < ((l.length / 6 : Nat) : Int) then (5 : Int) else ((l.length / 6 : Nat) : Int))))), (11, (iI (b : Int))), (12, (.pointer (some ⟨N, 0, none⟩))), (13, (iI (k : Int))), (14, (iI nn)), (15, (.pointer (some ⟨ad, 0, none⟩))), (64, (.bool (decide ((b : Int) < 1 + (if (5 : Int) < ((l.length / 6 : Nat) : Int) then (5 : Int) else ((l.length / 6 : Nat) : Int)))))), (77, (.bool ((decide ((k : Int) < 5)) && (decide ((6 * (b : Int)) + (k : Int) < (l.length : Int)))))), (99, (.bool (decide ((6 * (b : Int)) + 5 < (l.length : Int))))), (107, (.agg ⟨[(iI nn)]⟩)), (108, (.pointer (some ⟨ad, 0, none⟩))), (109, (.pointer (some ⟨ad, 0, none⟩))), (110, (iI a4)), (127, (.bool (a4 == 0)))] ∧ ((xe = 1 ∧ 0 ≤ xt ∧ xt < ((1 + (if (5 : Int) < ((l.length / 6 : Nat) : Int) then (5 : Int) else ((l.length / 6 : Nat) : Int)))) + 1 ∧ xf = 0 ∧ xg = 0 ∨ xe = 2 ∧ 0 ≤ xt ∧ xt < ((1 + (if (5 : Int) < ((l.length / 6 : Nat) : Int) then (5 : Int) else ((l.length / 6 : Nat) : Int)))) + 1 ∧ 0 ≤ xf ∧ xf < ((1 + (if (5 : Int) < ((l.length / 6 : Nat) : Int) then (5 : Int) else ((l.length / 6 : Nat) : Int)))) + 1 ∧ 0 ≤ xg ∧ xg < 9 + (i : Int) ∨ xe = 3 ∧ 0 ≤ xg ∧ xg < 9 + (i : Int) ∧ xt = 0 ∧ xf = 0 ∨ xe = 4 ∧ 1 ≤ xt ∧ xt < 33554432 ∧ xf = 0 ∧ xg = 0)) ∧ (in64 dd.n)) (fun c7 => ?_) ?_
  ·
   refine ap 0 1 (v := (a4 == 0)) rfl rfl rfl rfl (fun em => ?_) (fun em => ?_)
   ·
    have hH := em
    try simp only [BS] at hH
    refine aa ?_
    refine wRo 2 0 [] 129 130 [] [(129, (.pointer (some ⟨ad, 0, none⟩))), (130, (iI (1 + (if (5 : Int) < ((l.length / 6 : Nat) : Int) then (5 : Int) else ((l.length / 6 : Nat) : Int)))))] trivial rfl fun _ => ?_
    refine az (am rfl rfl rfl) rfl rfl (m4.cm ex (⟨bz.n⟩ : DigT) (1 + (if (5 : Int) < ((l.length / 6 : Nat) : Int) then (5 : Int) else ((l.length / 6 : Nat) : Int))) (HS.callOwn av (i := 8) rfl) (by omega) (by omega) hT (by omega)) ?_
    rintro _ nz ⟨hm, hK, m7, kI, go, rfl, lL, nR⟩
    replace go : HS _ _ _ [_, _, _, _, _, _, _, _, [(ad, .cells [(iI hK.n)] none false)]] _ := HS.backOwn av (i := 8) rfl rfl (fun _ hb => hb) go
    refine wRo 2 3 [] 132 133 [] [(132, (iI (1 + hm))), (133, (.pointer (some ⟨N, 1, none⟩)))] (vA (vi (n := 1 + hm) (by omega)) trivial) rfl fun _ => ?_
    refine aF (aw (q := 6) go rfl rfl rfl rfl rfl rfl rfl rfl rfl) rfl ?_
    rintro _ nA _ ⟨(k4 : HS _ _ _ [_, _, _, _, _, _, [(N, .cells [(.slice z xi.length A), (iI 1), (iI 0), (iI 0), (iI 0)] none false)], _, _] _), _⟩
    refine wRo 1 6 [] 134 134 [] [(134, (.pointer (some ⟨N, 3, none⟩)))] trivial rfl fun _ => ?_
    refine aF (aw (q := 6) k4 rfl rfl rfl rfl rfl rfl rfl rfl rfl) rfl ?_
    rintro _ nB _ ⟨(k5 : HS _ _ _ [_, _, _, _, _, _, [(N, .cells [(.slice z xi.length A), (iI 1), (iI 0), (iI (1 + hm)), (iI 0)] none false)], _, _] _), _⟩
    refine ab 0 rfl ?_
    exact c7 _ _ ⟨1, 0, 1 + hm, 0, (⟨hK.n⟩ : DigT), _, (kI), k5, ⟨rfl, rfl, rfl, rfl, rfl, rfl, rfl, rfl, rfl, rfl, rfl, rfl, rfl, rfl, rfl, rfl, rfl, trivial⟩, (by omega), (by omega)⟩
   have hH := em
   try simp only [BS] at hH
   refine wR 1 [] 135 136 [] [(135, (.bool (a4 == 1)))] trivial rfl fun _ => ?_
   refine ap 0 1 (v := (a4 == 1)) rfl rfl rfl rfl (fun es => ?_) (fun es => ?_)
   ·
    have hI := es
    try simp only [BS] at hI
    refine aa ?_
    refine wm (.pointer (some ⟨ad, 0, none⟩)) rfl rfl rfl ?_
    refine az (am rfl rfl rfl) rfl rfl (m4.cm ex (⟨bz.n⟩ : DigT) (9) (HS.callOwn av (i := 8) rfl) (by omega) (by omega) hT (by omega)) ?_
    rintro _ nC ⟨hn, hQ, m8, kJ, g0, rfl, lM, nS⟩
    replace g0 : HS _ _ _ [_, _, _, _, _, _, _, _, [(ad, .cells [(iI hQ.n)] none false)]] _ := HS.backOwn av (i := 8) rfl rfl (fun _ hb => hb) g0
    refine wRo 2 2 [] 139 140 [] [(139, (iI (1 + hn))), (140, (.pointer (some ⟨N, 1, none⟩)))] (vA (vi (n := 1 + hn) (by omega)) trivial) rfl fun _ => ?_
    refine aF (aw (q := 6) g0 rfl rfl rfl rfl rfl rfl rfl rfl rfl) rfl ?_
    rintro _ nD _ ⟨(k6 : HS _ _ _ [_, _, _, _, _, _, [(N, .cells [(.slice z xi.length A), (iI 4), (iI 0), (iI 0), (iI 0)] none false)], _, _] _), _⟩
    refine wRo 1 5 [] 141 141 [] [(141, (.pointer (some ⟨N, 3, none⟩)))] trivial rfl fun _ => ?_
    refine aF (aw (q := 6) k6 rfl rfl rfl rfl rfl rfl rfl rfl rfl) rfl ?_
    rintro _ nE _ ⟨(k7 : HS _ _ _ [_, _, _, _, _, _, [(N, .cells [(.slice z xi.length A), (iI 4), (iI 0), (iI (1 + hn)), (iI 0)] none false)], _, _] _), _⟩
    refine ab 0 rfl ?_
    exact c7 _ _ ⟨4, 0, 1 + hn, 0, (⟨hQ.n⟩ : DigT), _, (kJ), k7, ⟨rfl, rfl, rfl, rfl, rfl, rfl, rfl, rfl, rfl, rfl, rfl, rfl, rfl, rfl, rfl, rfl, rfl, trivial⟩, (by omega), (by omega)⟩
   have hI := es
   try simp only [BS] at hI
   refine wR 1 [] 142 143 [] [(142, (.bool (a4 == 2)))] trivial rfl fun _ => ?_
   refine ap 0 0 (v := (a4 == 2)) rfl rfl rfl rfl (fun b7 => ?_) (fun b7 => ?_)
   ·
    have dn := b7
    try simp only [BS] at dn
    refine aa ?_
    refine wRo 3 0 [(2, .o (iI (9 + (i : Int))))] 144 146 [] [(144, (.pointer (some ⟨ad, 0, none⟩))), (146, (iI (9 + (i : Int))))] (vA (ql 3 1 (HS.hc av (i := 1) rfl) rfl rfl) trivial) rfl fun _ => ?_
    refine az (am rfl rfl rfl) rfl rfl (m4.cm ex (⟨bz.n⟩ : DigT) (9 + (i : Int)) (HS.callOwn av (i := 8) rfl) (by omega) (by omega) hT (by omega)) ?_
    rintro _ l8 ⟨jb, g5, l1, jw, co, rfl, lj, mN⟩
    replace co : HS _ _ _ [_, _, _, _, _, _, _, _, [(ad, .cells [(iI g5.n)] none false)]] _ := HS.backOwn av (i := 8) rfl rfl (fun _ hb => hb) co
    refine wRo 1 4 [] 148 148 [] [(148, (.pointer (some ⟨N, 1, none⟩)))] trivial rfl fun _ => ?_
    refine aF (aw (q := 6) co rfl rfl rfl rfl rfl rfl rfl rfl rfl) rfl ?_
    rintro _ l9 _ ⟨(km : HS _ _ _ [_, _, _, _, _, _, [(N, .cells [(.slice z xi.length A), (iI 3), (iI 0), (iI 0), (iI 0)] none false)], _, _] _), _⟩
    refine wRo 1 6 [] 149 149 [] [(149, (.pointer (some ⟨N, 2, none⟩)))] trivial rfl fun _ => ?_
    refine aF (aw (q := 6) km rfl rfl rfl rfl rfl rfl rfl rfl rfl) rfl ?_
    rintro _ mk _ ⟨(kn : HS _ _ _ [_, _, _, _, _, _, [(N, .cells [(.slice z xi.length A), (iI 3), (iI jb), (iI 0), (iI 0)] none false)], _, _] _), _⟩
    refine ab 0 rfl ?_
    exact c7 _ _ ⟨3, jb, 0, 0, (⟨g5.n⟩ : DigT), _, (jw), kn, ⟨rfl, rfl, rfl, rfl, rfl, rfl, rfl, rfl, rfl, rfl, rfl, rfl, rfl, rfl, rfl, rfl, rfl, trivial⟩, (by omega), (by omega)⟩
   have dn := b7
   try simp only [BS] at dn
   refine aa ?_
   refine wRo 3 0 [(2, .o (iI (9 + (i : Int))))] 111 113 [] [(111, (.pointer (some ⟨ad, 0, none⟩))), (113, (iI (9 + (i : Int))))] (vA (ql 3 1 (HS.hc av (i := 1) rfl) rfl rfl) trivial) rfl fun _ => ?_
   refine az (am rfl rfl rfl) rfl rfl (m4.cm ex (⟨bz.n⟩ : DigT) (9 + (i : Int)) (HS.callOwn av (i := 8) rfl) (by omega) (by omega) hT (by omega)) ?_
   rintro _ mn ⟨c8, g6, l2, g9, a9, rfl, ll, mO⟩
   replace a9 : HS _ _ _ [_, _, _, _, _, _, _, _, [(ad, .cells [(iI g6.n)] none false)]] _ := HS.backOwn av (i := 8) rfl rfl (fun _ hb => hb) a9
   replace hT := hT.mono g9
   refine wRo 2 4 [] 115 116 [] [(115, (.pointer (some ⟨ad, 0, none⟩))), (116, (iI (1 + (if (5 : Int) < ((l.length / 6 : Nat) : Int) then (5 : Int) else ((l.length / 6 : Nat) : Int)))))] trivial rfl fun _ => ?_
   refine az (am rfl rfl rfl) rfl rfl (m4.cm ex (⟨g6.n⟩ : DigT) (1 + (if (5 : Int) < ((l.length / 6 : Nat) : Int) then (5 : Int) else ((l.length / 6 : Nat) : Int))) (HS.callOwn a9 (i := 8) rfl) (by omega) (by omega) hT (by omega)) ?_
   rintro _ mp ⟨b2, g7, l3, ha, bb, rfl, lm, mP⟩
   replace bb : HS _ _ _ [_, _, _, _, _, _, _, _, [(ad, .cells [(iI g7.n)] none false)]] _ := HS.backOwn a9 (i := 8) rfl rfl (fun _ hb => hb) bb
   replace hT := hT.mono ha
   refine wRo 3 7 [] 118 120 [] [(118, (iI (1 + b2))), (119, (.pointer (some ⟨ad, 0, none⟩))), (120, (iI (1 + (if (5 : Int) < ((l.length / 6 : Nat) : Int) then (5 : Int) else ((l.length / 6 : Nat) : Int)))))] (vA (vi (n := 1 + b2) (by omega)) trivial) rfl fun _ => ?_
   refine az (am rfl rfl rfl) rfl rfl (m4.cm ex (⟨g7.n⟩ : DigT) (1 + (if (5 : Int) < ((l.length / 6 : Nat) : Int) then (5 : Int) else ((l.length / 6 : Nat) : Int))) (HS.callOwn bb (i := 8) rfl) (by omega) (by omega) hT (by omega)) ?_
   rintro _ mq ⟨c9, g8, l4, j0, c0, rfl, ln, mQ⟩
   replace c0 : HS _ _ _ [_, _, _, _, _, _, _, _, [(ad, .cells [(iI g8.n)] none false)]] _ := HS.backOwn bb (i := 8) rfl rfl (fun _ hb => hb) c0
   refine wRo 2 11 [] 122 123 [] [(122, (iI (1 + c9))), (123, (.pointer (some ⟨N, 1, none⟩)))] (vA (vi (n := 1 + c9) (by omega)) trivial) rfl fun _ => ?_
   refine aF (aw (q := 6) c0 rfl rfl rfl rfl rfl rfl rfl rfl rfl) rfl ?_
   rintro _ mr _ ⟨(ko : HS _ _ _ [_, _, _, _, _, _, [(N, .cells [(.slice z xi.length A), (iI 2), (iI 0), (iI 0), (iI 0)] none false)], _, _] _), _⟩
   refine wRo 1 14 [] 124 124 [] [(124, (.pointer (some ⟨N, 2, none⟩)))] trivial rfl fun _ => ?_
   refine aF (aw (q := 6) ko rfl rfl rfl rfl rfl rfl rfl rfl rfl) rfl ?_
   rintro _ ms _ ⟨(kp : HS _ _ _ [_, _, _, _, _, _, [(N, .cells [(.slice z xi.length A), (iI 2), (iI c8), (iI 0), (iI 0)] none false)], _, _] _), _⟩
   refine wRo 1 16 [] 125 125 [] [(125, (.pointer (some ⟨N, 3, none⟩)))] trivial rfl fun _ => ?_
   refine aF (aw (q := 6) kp rfl rfl rfl rfl rfl rfl rfl rfl rfl) rfl ?_
   rintro _ mu _ ⟨(kr : HS _ _ _ [_, _, _, _, _, _, [(N, .cells [(.slice z xi.length A), (iI 2), (iI c8), (iI (1 + b2)), (iI 0)] none false)], _, _] _), _⟩
   refine wRo 1 18 [] 126 126 [] [(126, (.pointer (some ⟨N, 4, none⟩)))] trivial rfl fun _ => ?_
   refine aF (aw (q := 6) kr rfl rfl rfl rfl rfl rfl rfl rfl rfl) rfl ?_
   rintro _ mw _ ⟨(kt : HS _ _ _ [_, _, _, _, _, _, [(N, .cells [(.slice z xi.length A), (iI 2), (iI c8), (iI (1 + b2)), (iI (1 + c9))] none false)], _, _] _), _⟩
   refine ab 0 rfl ?_
   exact c7 _ _ ⟨2, c8, 1 + b2, 1 + c9, (⟨g8.n⟩ : DigT), _, (fT (fT (g9) ha) j0), kt, ⟨rfl, rfl, rfl, rfl, rfl, rfl, rfl, rfl, rfl, rfl, rfl, rfl, rfl, rfl, rfl, rfl, rfl, trivial⟩, (by omega), (by omega)⟩
  skip
  rintro nN ny ⟨xe, xg, xt, xf, dd, lA, ez, f7, h4, hD, hdd⟩
  refine au _ h4 (fun _ => ?_)
  clear h4
  replace V := V.mono ez
  replace Z := Z.mono ez
  refine aq 4 rfl ?_
  refine wR 1 [(6, .o (iI xe))] 150 158 [] [(158, (.bool (((b : Int) == (1 + (if (5 : Int) < ((l.length / 6 : Nat) : Int) then (5 : Int) else ((l.length / 6 : Nat) : Int))) - 1) && (xe == 1))))] (vA (vi (n := (1 + (if (5 : Int) < ((l.length / 6 : Nat) : Int) then (5 : Int) else ((l.length / 6 : Nat) : Int))) - 1) (by omega)) (vA (fun (g1 : ((b : Int) == (1 + (if (5 : Int) < ((l.length / 6 : Nat) : Int) then (5 : Int) else ((l.length / 6 : Nat) : Int))) - 1) = true) => (ql 3 1 (HS.hc f7 (i := 6) rfl) rfl rfl)) trivial)) rfl fun _ => ?_
  refine aY (fun f H' => ∃ (ye : Int) (yg : Int) (yt : Int) (F' : Fz), Fz.le lA F' ∧ HS (Base.of H []) F' H' [b3, g3, dk, [], dl, ag, [(N, .cells [(.slice z xi.length A), (iI ye), (iI yg), (iI yt), (iI xf)] none false)], al, [(ad, .cells [(iI dd.n)] none false)]] R ∧ aH f [(0, (.slice a_l l.length k_l)), (4, (.pointer (some ⟨b1, 0, none⟩))), (5, (.pointer (some ⟨b4, 0, none⟩))), (6, (iI (1 + (if (5 : Int) < ((l.length / 6 : Nat) : Int) then (5 : Int) else ((l.length / 6 : Nat) : Int))))), (11, (iI (b : Int))), (12, (.pointer (some ⟨N, 0, none⟩))), (13, (iI (k : Int))), (14, (iI nn)), (15, (.pointer (some ⟨ad, 0, none⟩))), (64, (.bool (decide ((b : Int) < 1 + (if (5 : Int) < ((l.length / 6 : Nat) : Int) then (5 : Int) else ((l.length / 6 : Nat) : Int)))))), (77, (.bool ((decide ((k : Int) < 5)) && (decide ((6 * (b : Int)) + (k : Int) < (l.length : Int)))))), (99, (.bool (decide ((6 * (b : Int)) + 5 < (l.length : Int))))), (107, (.agg ⟨[(iI nn)]⟩)), (108, (.pointer (some ⟨ad, 0, none⟩))), (109, (.pointer (some ⟨ad, 0, none⟩))), (110, (iI a4)), (127, (.bool (a4 == 0))), (158, (.bool (((b : Int) == (1 + (if (5 : Int) < ((l.length / 6 : Nat) : Int) then (5 : Int) else ((l.length / 6 : Nat) : Int))) - 1) && (xe == 1))))] ∧ ((ye = 1 ∧ 0 ≤ yt ∧ yt < ((1 + (if (5 : Int) < ((l.length / 6 : Nat) : Int) then (5 : Int) else ((l.length / 6 : Nat) : Int)))) + 1 ∧ xf = 0 ∧ yg = 0 ∨ ye = 2 ∧ 0 ≤ yt ∧ yt < ((1 + (if (5 : Int) < ((l.length / 6 : Nat) : Int) then (5 : Int) else ((l.length / 6 : Nat) : Int)))) + 1 ∧ 0 ≤ xf ∧ xf < ((1 + (if (5 : Int) < ((l.length / 6 : Nat) : Int) then (5 : Int) else ((l.length / 6 : Nat) : Int)))) + 1 ∧ 0 ≤ yg ∧ yg < 9 + (i : Int) ∨ ye = 3 ∧ 0 ≤ yg ∧ yg < 9 + (i : Int) ∧ yt = 0 ∧ xf = 0 ∨ ye = 4 ∧ 1 ≤ yt ∧ yt < 33554432 ∧ xf = 0 ∧ yg = 0))) (fun hk => ?_) ?_
  ·
   refine ap 0 0 (v := (((b : Int) == (1 + (if (5 : Int) < ((l.length / 6 : Nat) : Int) then (5 : Int) else ((l.length / 6 : Nat) : Int))) - 1) && (xe == 1))) rfl rfl rfl rfl (fun b8 => ?_) (fun b8 => ?_)
   ·
    have dt := b8
    try simp only [BS] at dt
    refine aa ?_
    refine wRo 1 0 [] 159 159 [] [(159, (.pointer (some ⟨N, 1, none⟩)))] trivial rfl fun _ => ?_
    refine aF (aw (q := 6) f7 rfl rfl rfl rfl rfl rfl rfl rfl rfl) rfl ?_
    rintro _ my _ ⟨(ku : HS _ _ _ [_, _, _, _, _, _, [(N, .cells [(.slice z xi.length A), (iI 3), (iI xg), (iI xt), (iI xf)] none false)], _, [(ad, .cells [(iI dd.n)] none false)]] _), _⟩
    refine wRo 1 2 [] 160 160 [] [(160, (.pointer (some ⟨N, 3, none⟩)))] trivial rfl fun _ => ?_
    refine aF (aw (q := 6) ku rfl rfl rfl rfl rfl rfl rfl rfl rfl) rfl ?_
    rintro _ mz _ ⟨(kv : HS _ _ _ [_, _, _, _, _, _, [(N, .cells [(.slice z xi.length A), (iI 3), (iI xg), (iI 0), (iI xf)] none false)], _, _] _), _⟩
    refine wRo 1 4 [] 161 161 [] [(161, (.pointer (some ⟨N, 2, none⟩)))] trivial rfl fun _ => ?_
    refine aF (aw (q := 6) kv rfl rfl rfl rfl rfl rfl rfl rfl rfl) rfl ?_
    rintro _ mA _ ⟨(kw : HS _ _ _ [_, _, _, _, _, _, [(N, .cells [(.slice z xi.length A), (iI 3), (iI 0), (iI 0), (iI xf)] none false)], _, _] _), _⟩
    refine ab 0 rfl ?_
    exact hk _ _ ⟨3, 0, 0, _, fR, kw, ⟨rfl, rfl, rfl, rfl, rfl, rfl, rfl, rfl, rfl, rfl, rfl, rfl, rfl, rfl, rfl, rfl, rfl, rfl, trivial⟩, (by omega)⟩
   have dt := b8
   try simp only [BS] at dt
   exact hk _ _ ⟨xe, xg, xt, _, fR, f7, ⟨rfl, rfl, rfl, rfl, rfl, rfl, rfl, rfl, rfl, rfl, rfl, rfl, rfl, rfl, rfl, rfl, rfl, rfl, trivial⟩, (by omega)⟩
  skip
  rintro mM mx ⟨ye, yg, yt, l5, b9, c3, hg, hY⟩
  refine au _ hg (fun _ => ?_)
  clear hg
  replace Z := Z.mono b9
  refine aq 1 rfl ?_
  refine aa ?_
  let g4 : Value := (.agg ⟨[(.slice z xi.length A), (iI ye), (iI yg), (iI yt), (iI xf)]⟩)
  refine wRo 3 0 [(1, .o (.slice T bl.length U)), (2, .o g4)] 162 164 [] [(163, (.slice T bl.length U)), (164, g4)] (vA (ql 22 2 (HS.hc c3 (i := 1) rfl) rfl rfl) (vA (qn 48 0 5 (HS.hc c3 (i := 6) rfl) rfl rfl rfl rfl) trivial)) rfl fun _ => ?_
  obtain ⟨l6, he, c4, kk, lZ⟩ := OS.frz Z c3 (i := 7) rfl
  have c4 : HS _ _ _ [_, _, _, _, _, _, [(N, .cells [(.slice z xi.length A), (iI ye), (iI yg), (iI yt), (iI xf)] none false)], [], [(ad, .cells [(iI dd.n)] none false)]] _ := c4
  replace V := (V.mono b9).mono he
  refine aC (aP (α := BlkT) (ps := [(0, g4)]) (cells := [(.slice z xi.length A), (iI ye), (iI yg), (iI yt), (iI xf)]) ([(⟨xi, ye, yg, yt, xf⟩ : BlkT)] : List BlkT) c4 rfl rfl rfl (by kernel_rfl) ⟨[(.slice z xi.length A), (iI ye), (iI yg), (iI yt), (iI xf)], [], rfl, ⟨z, A, rfl, by (dsimp only; omega), by (dsimp only; omega), by (dsimp only; omega), by (dsimp only; omega), kk⟩, rfl⟩ rfl) rfl rfl ?_
  rintro _ mB lh ⟨mJ, mT, rfl, ki, (hh : HS _ _ _ [_, _, _, _, _, _, _, _, _, lh] _), _⟩
  refine aC (aW (α := BlkT) (q := 5) V hh rfl rfl rfl (OS.sv ki hh (i := 9) rfl) rfl rfl rfl rfl rfl rfl rfl (by (simp only [List.length_append, List.length_cons, List.length_nil]; omega))) rfl rfl ?_
  rintro _ mC i2 ⟨hu, it, rfl, kj, (kx : HS _ _ _ [_, _, _, _, _, i2, _, _, _, _] _), _⟩
  refine wRo 1 5 [] 167 167 [] [(167, (.pointer (some ⟨b4, 2, none⟩)))] trivial rfl fun _ => ?_
  refine aF (aw (q := 1) kx rfl rfl rfl rfl rfl rfl rfl rfl rfl) rfl ?_
  rintro _ mD _ ⟨(ky : HS _ _ _ [_, [(b4, .cells [(iI params), (iI (9 + (i : Int))), (.slice hu (bl ++ ([(⟨xi, ye, yg, yt, xf⟩ : BlkT)] : List BlkT)).length it)] none false)], _, _, _, _, _, _, _, _] _), _⟩
  refine ab 2 rfl ?_
  refine wR 1 [] 65 66 [11] [(11, (iI ((b : Int) + 1)))] (vA (vi (n := (b : Int) + 1) (by omega)) trivial) rfl fun _ => ?_
  refine k9 _ _ _ ?_ ⟨bl ++ ([(⟨xi, ye, yg, yt, xf⟩ : BlkT)] : List BlkT), b + 1, i2, hu, it, _, (fT (fT (fT (fT (fT (ch) b0) ci) ez) b9) he), (HS.sub ky (List.sublist_append_left _ _)), kj, ⟨rfl, rfl, rfl, rfl, rfl, trivial⟩, rfl, (by simp; omega), (by exact dV e2 (blk_mk z2 (by omega))), (by exact ins_snoc e3 (by (dsimp only; omega))), (by exact dV e5 z4), (by exact first_snoc e6 (by omega)), (by omega)⟩
  omega
 have hE := d2
 try simp only [BS] at hE
 refine aa ?_
 let jc : Value := (.agg ⟨[(iI params), (iI (9 + (i : Int))), (.slice T bl.length U)]⟩)
 refine wRo 1 0 [(0, .o jc)] 168 168 [] [(168, jc)] (vA (qn 24 0 3 (HS.hc f4 (i := 1) rfl) rfl rfl rfl rfl) trivial) rfl fun _ => ?_
 refine aF (aw (q := 0) f4 rfl rfl rfl rfl rfl rfl rfl rfl rfl) rfl ?_
 rintro _ mE _ ⟨(hj : HS _ _ _ [[(b1, .cells [(iI params), (iI (9 + (i : Int))), (.slice T bl.length U)] none false)], [(b4, .cells [(iI params), (iI (9 + (i : Int))), (.slice T bl.length U)] none false)], _, _, _, ag] _), _⟩
 refine ab 1 rfl ?_
 obtain ⟨l7, j1, c5, kl, l0⟩ := OS.frz V hj (i := 5) rfl
 have c5 : HS _ _ _ [_, _, _, _, _, []] _ := c5
 refine ah ⟨.inr rfl, _, (rC rfl (ldVN rfl rfl (HS.hc hj (i := 0) rfl) rfl) rN), (⟨params, 9 + (i : Int), bl⟩ : VFnT), T, U, _, (fT (fT (fT (fT (hf) cc) et) ch) j1), (HS.forget c5), rfl, (by (dsimp only; omega)), (by (dsimp only; omega)), kl, (by exact ⟨val_mk (by omega) (by omega) e2, rfl, by (dsimp only; omega), ⟨by (dsimp only; omega), by (dsimp only; omega)⟩, ins_at e3, e5, fi, e6, by (dsimp only; omega), w5⟩)⟩
end Go.Proofs.YtknafdcgpaejlaaDoor.m5
