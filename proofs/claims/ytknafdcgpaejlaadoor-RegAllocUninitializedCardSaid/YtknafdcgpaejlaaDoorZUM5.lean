/-
 The generator of virtual code, whole, by a symbolic run: what it makes is valid. No condition but that the table lies as laid.
-/
import Derived.Test.YtknafdcgpaejlaaDoorZUM4
import Derived.Test.YtknafdcgpaejlaaDoorZURC
noncomputable section
namespace Go.Proofs.YtknafdcgpaejlaaDoor.m5
open Go.R
set_option maxRecDepth 10000
set_option linter.unusedVariables false
set_option linter.unusedSimpArgs false
variable (ex : FuncId) {F : Fz} {H : Heap} {R : List Fp}
open m1 m2 m3 m4
theorem vin_ldi {params regs r op : Int} (hr : 0 ≤ r ∧ r < regs) (ho : op = 13 ∨ op = 38 ∧ r < params) : eJ params regs ⟨⟨op, r, 0, 0, r⟩, []⟩ = true := by
 rcases ho with rfl | ⟨rfl, hp⟩
 ·
  exact vin_mk (by decide) (.inr rfl) (by simp) rfl (opOK_t (by decide) hr) (iO (by decide) rfl) (iO (by decide) rfl) rfl
 exact vin_mk (by decide) (.inr rfl) (by simp) rfl (opOK_t (by decide) hr) (iO (by decide) rfl) (iO (by decide) rfl) (decide_eq_true ⟨hr.1, hp⟩)
theorem d9 {α : Type} {p : α → Bool} {l : List α} {x : α} (h : l.all p = true) (hx : p x = true) : (l ++ [x]).all p = true := by rw [a24, h]; simp [hx]
theorem blk_mk {params regs nb e g t f : Int} {l : List VInT} (h : l.all (eJ params regs) = true) (A : e = 1 ∧ 0 ≤ t ∧ t < nb ∧ f = 0 ∧ g = 0 ∨ e = 2 ∧ 0 ≤ t ∧ t < nb ∧ 0 ≤ f ∧ f < nb ∧ 0 ≤ g ∧ g < regs ∨ e = 3 ∧ 0 ≤ g ∧ g < regs ∧ t = 0 ∧ f = 0 ∨ e = 4 ∧ 1 ≤ t ∧ t < 33554432 ∧ f = 0 ∧ g = 0) : jN params regs nb ⟨l, e, g, t, f⟩ = true := gD h (bN.2 A)
theorem ins_snoc {l : List BlkT} {x : BlkT} (h : ∀ y ∈ l, y.ins.length ≤ 11) (hx : x.ins.length ≤ 11) : ∀ y ∈ l ++ [x], y.ins.length ≤ 11 := fun y hy => by
 rcases a04.1 hy with hy | hy
 ·
  exact h y hy
 rw [a0d] at hy; rw [hy]; exact hx
theorem ins_at {l : List BlkT} (h : ∀ y ∈ l, y.ins.length ≤ 11) (j : Nat) : (l.getD j default).ins.length ≤ 11 := by
 rw [a01]
 rcases hj : l[j]? with _ | y
 ·
  exact a0S _
 exact h y (a0n hj)
def fstOK (fi : List VInT) : Prop := ∀ q : Nat, q < fi.length → (fi.getD q default).i.a = q ∧ ((fi.getD q default).i.op = 13 ∨ (fi.getD q default).i.op = 38)
theorem fst_snoc {fi : List VInT} {x : VInT} (h : fstOK fi) (hx : x.i.a = (fi.length : Int) ∧ (x.i.op = 13 ∨ x.i.op = 38)) : fstOK (fi ++ [x]) := fun q hq => by
 rw [a05] at hq
 simp only [a0a, a0e] at hq
 rcases a0j q fi.length with A | A
 ·
  rw [a01, a0M A, ← a01]; exact h q A
 have : q = fi.length := by omega
 subst this
 rw [a01, a11 (a09 _), a1v]; exact hx
theorem first_snoc {l : List BlkT} {x y : BlkT} (h : l.getD 0 default = x) (hl : 0 < l.length) : (l ++ [y]).getD 0 default = x := by
 rw [a01, a0M hl, ← a01]; exact h
theorem ck_ldi {v : VInT} (ho : v.i.op = 13 ∨ v.i.op = 38) : ckI v = true := decide_eq_true ⟨fun h => by omega, fun h => by omega⟩
structure vfG (x : VFnT) (params : Int) : Prop where
 val : d6 x = true
 par : x.params = params
 reg : x.regs = 9 + params
 nb : 2 ≤ x.blocks.length ∧ x.blocks.length ≤ 7
 ins : ∀ j, (x.blocks.getD j default).ins.length ≤ 11
 ck : x.blocks.all (fun y => y.ins.all ckI) = true
 fst : ∃ fi, x.blocks.getD 0 default = ⟨fi, 1, 0, 1, 0⟩ ∧ (fi.length : Int) = x.regs ∧ fstOK fi
theorem val_mk {p r : Int} {l : List BlkT} {n : Int} (h : 0 ≤ p ∧ p ≤ 6 ∧ 0 ≤ r ∧ r ≤ 3000 ∧ 1 ≤ l.length ∧ l.length ≤ 1000) (hn : (l.length : Int) = n) (A : l.all (jN p r n) = true) : d6 ⟨p, r, l⟩ = true := by subst hn; exact (val_yes (c := ⟨p, r, l⟩) h A).symm
set_option maxHeartbeats 2000000 in
theorem vf_c {a_l : Option Addr} {k_l : Nat} (l : List Int) (params : Int) (hs : HS (.of H []) F H [] R) (hl : SR F (.slice a_l l.length k_l) l) (hT : TB 37 tabC F) (hp : 0 ≤ params ∧ params ≤ 2) (hbl : l.length ≤ 1000) : kKt ex 16 [(.slice a_l l.length k_l), (iI params)] H fun v H' => ∃ (x : VFnT) (hv : Option Addr) (ik : Nat) (F' : Fz), Fz.le F F' ∧ HS (.of H []) F' H' [] R ∧ v = .agg ⟨[.int .i64 x.params, .int .i64 x.regs, .slice hv x.blocks.length ik]⟩ ∧ in64 x.params ∧ in64 x.regs ∧ SR F' (.slice hv x.blocks.length ik) x.blocks ∧ (vfG x params) := by
 refine aH Tryd.func16 rfl rfl (ah 1 rfl (aa (aG (bp hs rfl) rfl rfl ?_)))
 rintro _ H2 _ ⟨b1, rfl, (l5 : HS _ _ _ [[(b1, .cells [(iI 0), (iI 0), (.slice none 0 0)] none false)]] _), _⟩
 refine ae 2 rfl (aa (wTo 2 0 [] 16 17 [] [(17, (.agg ⟨[(iI params), (iI 9), (.slice none 0 0)]⟩))] rfl fun _ => aG (bp l5 rfl) rfl rfl ?_))
 rintro _ H5 _ ⟨b4, rfl, (l6 : HS _ _ _ [_, [(b4, .cells [(iI 0), (iI 0), (.slice none 0 0)] none false)]] _), _⟩
 refine aN (aI (q := 1) l6 rfl rfl rfl rfl rfl rfl rfl rfl rfl) rfl ?_
 rintro _ H6 _ ⟨(l7 : HS _ _ _ [_, [(b4, .cells [(iI params), (iI 9), (.slice none 0 0)] none false)]] _), _⟩
 refine ae 2 rfl (wR 3 [] 18 22 [6] [(6, (iI (1 + (if (5 : Int) < ((l.length / 6 : Nat) : Int) then (5 : Int) else ((l.length / 6 : Nat) : Int)))))] (vA (vA (show (6 : Int) ≠ 0 from by decide) (vi (n := ((l.length / 6 : Nat) : Int)) (by omega))) (vA (vi (n := 1 + (if (5 : Int) < ((l.length / 6 : Nat) : Int) then (5 : Int) else ((l.length / 6 : Nat) : Int))) (by omega)) trivial)) rfl fun _ => ?_)
 have hM : 1 ≤ (1 + (if (5 : Int) < ((l.length / 6 : Nat) : Int) then (5 : Int) else ((l.length / 6 : Nat) : Int))) ∧ (1 + (if (5 : Int) < ((l.length / 6 : Nat) : Int) then (5 : Int) else ((l.length / 6 : Nat) : Int))) ≤ 6 := by omega
 let b0 : Fp := [(b1, .cells [(iI 0), (iI 0), (.slice none 0 0)] none false)]
 refine wT 2 [] 1 0 [7] [(7, (iI 0))] rfl fun _ => aj (fun (mm : Nat) f H' => ∃ (i : Nat) (F' : Fz), Fz.le F F' ∧ HS (Base.of H []) F' H' [b0, [(b4, .cells [(iI params), (iI (9 + (i : Int))), (.slice none 0 0)] none false)]] R ∧ aD f [(0, (.slice a_l l.length k_l)), (1, (iI params)), (4, (.pointer (some ⟨b1, 0, none⟩))), (5, (.pointer (some ⟨b4, 0, none⟩))), (6, (iI (1 + (if (5 : Int) < ((l.length / 6 : Nat) : Int) then (5 : Int) else ((l.length / 6 : Nat) : Int))))), (7, (iI (i : Int)))] ∧ mm = (params - (i : Int)).toNat ∧ ((i : Int) ≤ params)) _ ⟨0, _, fR, l7, ⟨rfl, rfl, rfl, rfl, rfl, rfl, trivial⟩, rfl, (by omega)⟩ ?_
 rintro oj f9 H9 ⟨i, F9, ha, h5, kV, rfl, q1⟩ l8
 refine ap _ kV (fun _ => ?_)
 clear kV
 replace hT := hT.mono ha
 replace hl := hl.mono ha
 refine ah 2 rfl (wT 1 [] 23 25 [] [(25, (.bool (decide ((i : Int) < params))))] rfl fun _ => am 3 5 (v := (decide ((i : Int) < params))) rfl rfl rfl rfl (fun dn => ?_) (fun dn => ?_))
 ·
  have hw := dn
  try simp only [BS] at hw
  refine aa (wRo 4 0 [(1, .o (iI (9 + (i : Int))))] 28 31 [] [(30, (iI ((9 + (i : Int)) + 1))), (31, (.pointer (some ⟨b4, 1, none⟩)))] (vA (ql 3 1 (HS.hc h5 (i := 1) rfl) rfl rfl) (vA (vi (n := (9 + (i : Int)) + 1) (by omega)) trivial)) rfl fun _ => aN (aI (q := 1) h5 rfl rfl rfl rfl rfl rfl rfl rfl rfl) rfl ?_)
  rintro _ nA _ ⟨(lb : HS _ _ _ [_, [(b4, .cells [(iI params), (iI ((9 + (i : Int)) + 1)), (.slice none 0 0)] none false)]] _), _⟩
  refine ae 2 rfl (wU 1 [] 26 27 [7] [(7, (iI ((i : Int) + 1)))] (vi (n := (i : Int) + 1) (by omega)) rfl fun _ => l8 _ _ _ ?_ ⟨i + 1, _, (ha), lb, ⟨rfl, rfl, rfl, rfl, rfl, rfl, trivial⟩, rfl, (by omega)⟩)
  omega
 have hw := dn
 try simp only [BS] at hw
 refine aa (aG (bp h5 rfl) rfl rfl ?_)
 rintro _ nB _ ⟨a2, rfl, (lc : HS _ _ _ [_, [(b4, .cells [(iI params), (iI (9 + (i : Int))), (.slice none 0 0)] none false)], [(a2, .cells [(.slice none 0 0), (iI 0), (iI 0), (iI 0), (iI 0)] none false)]] _), _⟩
 refine ae 3 rfl (wT 2 [] 1 0 [9] [(9, (iI 0))] rfl fun _ => ?_)
 have fd := HS.snoc lc
 have fd : HS _ _ _ [_, _, _, []] _ := fd
 let kY : Fp := [(b4, .cells [(iI params), (iI (9 + (i : Int))), (.slice none 0 0)] none false)]
 refine aj (fun (mm : Nat) f H' => ∃ (fi : List VInT) (r : Nat) (av : Fp) (J : Option Addr) (N : Nat) (F' : Fz), Fz.le F9 F' ∧ HS (Base.of H []) F' H' [b0, kY, [(a2, .cells [(.slice J fi.length N), (iI 0), (iI 0), (iI 0), (iI 0)] none false)], av] R ∧ OS F' (.slice J fi.length N) fi av ∧ aD f [(0, (.slice a_l l.length k_l)), (1, (iI params)), (4, (.pointer (some ⟨b1, 0, none⟩))), (5, (.pointer (some ⟨b4, 0, none⟩))), (6, (iI (1 + (if (5 : Int) < ((l.length / 6 : Nat) : Int) then (5 : Int) else ((l.length / 6 : Nat) : Int))))), (8, (.pointer (some ⟨a2, 0, none⟩))), (9, (iI (r : Int)))] ∧ mm = (9 + (i : Int) - (r : Int)).toNat ∧ (fi.length = r) ∧ (fi.all (eJ params (9 + (i : Int))) = true) ∧ (fi.all ckI = true) ∧ (fstOK fi) ∧ ((r : Int) ≤ 9 + (i : Int))) _ ⟨([] : List VInT), 0, [], none, 0, _, fR, fd, (OS.nil : OS _ (.slice none 0 0) ([] : List VInT) []), ⟨rfl, rfl, rfl, rfl, rfl, rfl, rfl, trivial⟩, rfl, (by rfl), (by rfl), (by rfl), (by intro q hq; cases hq), (by omega)⟩ ?_
 rintro nq n4 nC ⟨fi, r, av, J, N, lQ, b9, e9, ay, hR, rfl, w1, w2, w4, w5, w3⟩ lz
 refine ap _ hR (fun _ => ?_)
 clear hR
 replace hT := hT.mono b9
 replace hl := hl.mono b9
 refine ah 2 rfl (wU 1 [(2, .o (iI (9 + (i : Int))))] 32 35 [] [(35, (.bool (decide ((r : Int) < 9 + (i : Int)))))] (ql 3 1 (HS.hc e9 (i := 1) rfl) rfl rfl) rfl fun _ => am 4 5 (v := (decide ((r : Int) < 9 + (i : Int)))) rfl rfl rfl rfl (fun dt => ?_) (fun dt => ?_))
 ·
  have hz := dt
  try simp only [BS] at hz
  refine aa (wTo 3 0 [] 38 40 [] [(40, (.agg ⟨[(iI 13), (iI (r : Int)), (iI 0), (iI 0), (iI (r : Int))]⟩))] rfl fun _ => aG (bp e9 rfl) rfl rfl ?_)
  rintro _ nD _ ⟨b2, rfl, (ld : HS _ _ _ [_, _, [(a2, .cells [(.slice J fi.length N), (iI 0), (iI 0), (iI 0), (iI 0)] none false)], av, [(b2, .cells [(iI 0), (iI 0), (iI 0), (iI 0), (iI 0)] none false)]] _), _⟩
  refine aN (aI (q := 4) ld rfl rfl rfl rfl rfl rfl rfl rfl rfl) rfl ?_
  rintro _ nE _ ⟨(h2 : HS _ _ _ [_, _, _, _, [(b2, .cells [(iI 13), (iI (r : Int)), (iI 0), (iI 0), (iI (r : Int))] none false)]] _), _⟩
  refine ae 3 rfl (wT 1 [] 41 43 [] [(43, (.bool (decide ((r : Int) < params))))] rfl fun _ => bU (fun f H' => ∃ (vo : Int) (F' : Fz), Fz.le lQ F' ∧ HS (Base.of H []) F' H' [b0, kY, [(a2, .cells [(.slice J fi.length N), (iI 0), (iI 0), (iI 0), (iI 0)] none false)], av, [(b2, .cells [(iI vo), (iI (r : Int)), (iI 0), (iI 0), (iI (r : Int))] none false)]] R ∧ aD f [(0, (.slice a_l l.length k_l)), (1, (iI params)), (4, (.pointer (some ⟨b1, 0, none⟩))), (5, (.pointer (some ⟨b4, 0, none⟩))), (6, (iI (1 + (if (5 : Int) < ((l.length / 6 : Nat) : Int) then (5 : Int) else ((l.length / 6 : Nat) : Int))))), (8, (.pointer (some ⟨a2, 0, none⟩))), (9, (iI (r : Int))), (10, (.pointer (some ⟨b2, 0, none⟩)))] ∧ (vo = 13 ∨ vo = 38 ∧ (r : Int) < params)) (fun h7 => ?_) ?_)
  ·
   refine am 0 0 (v := (decide ((r : Int) < params))) rfl rfl rfl rfl (fun dv => ?_) (fun dv => ?_)
   ·
    have hA := dv
    try simp only [BS] at hA
    refine aa (wTo 3 0 [] 44 46 [] [(46, (.agg ⟨[(iI 38), (iI (r : Int)), (iI 0), (iI 0), (iI (r : Int))]⟩))] rfl fun _ => aN (aI (q := 4) h2 rfl rfl rfl rfl rfl rfl rfl rfl rfl) rfl ?_)
    rintro _ nG _ ⟨(lf : HS _ _ _ [_, _, _, _, [(b2, .cells [(iI 38), (iI (r : Int)), (iI 0), (iI 0), (iI (r : Int))] none false)]] _), _⟩
    refine ae 0 rfl ?_
    exact h7 _ _ ⟨38, _, fR, lf, ⟨rfl, rfl, rfl, rfl, rfl, rfl, rfl, rfl, trivial⟩, (by omega)⟩
   have hA := dv
   try simp only [BS] at hA
   exact h7 _ _ ⟨13, _, fR, h2, ⟨rfl, rfl, rfl, rfl, rfl, rfl, rfl, rfl, trivial⟩, (by omega)⟩
  skip
  rintro n5 nF ⟨vo, nv, hK, f0, hS, hvo⟩
  refine ap _ hS (fun _ => ?_)
  clear hS
  replace ay := ay.mono hK
  let kZ : Value := (.agg ⟨[(iI vo), (iI (r : Int)), (iI 0), (iI 0), (iI (r : Int)), (.slice none 0 0)]⟩)
  refine ah 1 rfl (aa (wRo 4 0 [(1, .o (.slice J fi.length N)), (2, .o (.agg ⟨[(iI vo), (iI (r : Int)), (iI 0), (iI 0), (iI (r : Int))]⟩))] 47 50 [] [(48, (.slice J fi.length N)), (50, kZ)] (vA (ql 46 0 (HS.hc f0 (i := 2) rfl) rfl rfl) (vA (qn 50 0 5 (HS.hc f0 (i := 4) rfl) rfl rfl rfl rfl) trivial)) rfl fun _ => aG (bt (α := VInT) (ps := [(0, kZ)]) (cells := [(iI vo), (iI (r : Int)), (iI 0), (iI 0), (iI (r : Int)), (.slice none 0 0)]) ([(⟨(⟨vo, (r : Int), 0, 0, (r : Int)⟩ : InsT), ([] : List Int)⟩ : VInT)] : List VInT) f0 rfl rfl rfl (by kernel_rfl) ⟨[(iI vo), (iI (r : Int)), (iI 0), (iI 0), (iI (r : Int)), (.slice none 0 0)], [], rfl, ⟨none, 0, rfl, by (dsimp only; omega), by (dsimp only; omega), by (dsimp only; omega), by (dsimp only; omega), by (dsimp only; omega), SR.nil⟩, rfl⟩ rfl) rfl rfl ?_))
  rintro _ nH l9 ⟨n1, og, rfl, k5, (h3 : HS _ _ _ [_, _, _, _, [(b2, .cells [(iI vo), (iI (r : Int)), (iI 0), (iI 0), (iI (r : Int))] none false)], l9] _), _⟩
  refine aG (bw (α := VInT) (q := 3) ay h3 rfl rfl rfl (OS.sv k5 h3 (i := 5) rfl) rfl rfl rfl rfl rfl rfl rfl (by (simp only [a05, a0a, a0e]; omega))) rfl rfl ?_
  rintro _ nI kX ⟨kU, kW, rfl, k6, (lh : HS _ _ _ [_, _, _, kX, _, _] _), _⟩
  refine wTo 1 6 [] 53 53 [] [(53, (.pointer (some ⟨a2, 0, none⟩)))] rfl fun _ => aN (aI (q := 2) lh rfl rfl rfl rfl rfl rfl rfl rfl rfl) rfl ?_
  rintro _ nJ _ ⟨(lj : HS _ _ _ [_, _, [(a2, .cells [(.slice kU (fi ++ ([(⟨(⟨vo, (r : Int), 0, 0, (r : Int)⟩ : InsT), ([] : List Int)⟩ : VInT)] : List VInT)).length kW), (iI 0), (iI 0), (iI 0), (iI 0)] none false)], _, _, _] _), _⟩
  refine ae 2 rfl (wU 1 [] 36 37 [9] [(9, (iI ((r : Int) + 1)))] (vi (n := (r : Int) + 1) (by omega)) rfl fun _ => lz _ _ _ ?_ ⟨fi ++ ([(⟨(⟨vo, (r : Int), 0, 0, (r : Int)⟩ : InsT), ([] : List Int)⟩ : VInT)] : List VInT), r + 1, kX, kU, kW, _, (fT (b9) hK), (HS.sub lj (a03 _ _)), k6, ⟨rfl, rfl, rfl, rfl, rfl, rfl, rfl, trivial⟩, rfl, (by simp; omega), (by exact d9 w2 (vin_ldi (by omega) (by omega))), (by exact d9 w4 (ck_ldi (by (dsimp only; omega)))), (by exact fst_snoc w5 ⟨by rw [w1], by (dsimp only; omega)⟩), (by omega)⟩)
  omega
 have hz := dt
 try simp only [BS] at hz
 refine aa (wTo 1 0 [] 54 54 [] [(54, (.pointer (some ⟨a2, 1, none⟩)))] rfl fun _ => aN (aI (q := 2) e9 rfl rfl rfl rfl rfl rfl rfl rfl rfl) rfl ?_)
 rintro _ nK _ ⟨(ll : HS _ _ _ [_, _, [(a2, .cells [(.slice J fi.length N), (iI 1), (iI 0), (iI 0), (iI 0)] none false)], av] _), _⟩
 refine wTo 1 2 [] 55 55 [] [(55, (.pointer (some ⟨a2, 3, none⟩)))] rfl fun _ => aN (aI (q := 2) ll rfl rfl rfl rfl rfl rfl rfl rfl rfl) rfl ?_
 rintro _ nL _ ⟨(f1 : HS _ _ _ [_, _, [(a2, .cells [(.slice J fi.length N), (iI 1), (iI 0), (iI 1), (iI 0)] none false)], _] _), _⟩
 let f8 : Value := (.agg ⟨[(.slice J fi.length N), (iI 1), (iI 0), (iI 1), (iI 0)]⟩)
 refine ae 2 rfl (aa (wRo 3 0 [(1, .o (.slice none 0 0)), (2, .o f8)] 56 58 [] [(57, (.slice none 0 0)), (58, f8)] (vA (ql 22 2 (HS.hc f1 (i := 1) rfl) rfl rfl) (vA (qn 48 0 5 (HS.hc f1 (i := 2) rfl) rfl rfl rfl rfl) trivial)) rfl fun _ => ?_))
 obtain ⟨hn, et, f2, k9, nm⟩ := OS.frz ay f1 (i := 3) rfl
 have f2 : HS _ _ _ [_, _, _, []] _ := f2
 refine aG (bt (α := BlkT) (ps := [(0, f8)]) (cells := [(.slice J fi.length N), (iI 1), (iI 0), (iI 1), (iI 0)]) ([(⟨fi, 1, 0, 1, 0⟩ : BlkT)] : List BlkT) f2 rfl rfl rfl (by kernel_rfl) ⟨[(.slice J fi.length N), (iI 1), (iI 0), (iI 1), (iI 0)], [], rfl, ⟨J, N, rfl, by (dsimp only; omega), by (dsimp only; omega), by (dsimp only; omega), by (dsimp only; omega), k9⟩, rfl⟩ rfl) rfl rfl ?_
 rintro _ nM dk ⟨n2, oh, rfl, k7, (lm : HS _ _ _ [_, _, _, _, dk] _), _⟩
 have c5 := HS.snoc lm
 have c5 : HS _ _ _ [_, _, _, _, _, []] _ := c5
 refine aG (bw (α := BlkT) (q := 5) (OS.nil : OS hn (.slice none 0 0) ([] : List BlkT) []) c5 rfl rfl rfl (OS.sv k7 c5 (i := 4) rfl) rfl rfl rfl rfl rfl rfl rfl (by (simp only [a05, a0a, a0e]; omega))) rfl rfl ?_
 rintro _ nN it ⟨ht, ib, rfl, e0, (ln : HS _ _ _ [_, _, _, _, _, it] _), _⟩
 have e0 : OS hn (.slice ht ([(⟨fi, 1, 0, 1, 0⟩ : BlkT)] : List BlkT).length ib) ([(⟨fi, 1, 0, 1, 0⟩ : BlkT)] : List BlkT) it := e0
 refine wTo 1 5 [] 61 61 [] [(61, (.pointer (some ⟨b4, 2, none⟩)))] rfl fun _ => aN (aI (q := 1) ln rfl rfl rfl rfl rfl rfl rfl rfl rfl) rfl ?_
 rintro _ nO _ ⟨(lp : HS _ _ _ [_, [(b4, .cells [(iI params), (iI (9 + (i : Int))), (.slice ht ([(⟨fi, 1, 0, 1, 0⟩ : BlkT)] : List BlkT).length ib)] none false)], _, _, _, _] _), _⟩
 let c9 : Fp := [(a2, .cells [(.slice J fi.length N), (iI 1), (iI 0), (iI 1), (iI 0)] none false)]
 refine ae 3 rfl (wT 2 [] 1 0 [11] [(11, (iI 0))] rfl fun _ => aj (fun (mm : Nat) f H' => ∃ (bl : List BlkT) (b : Nat) (ag : Fp) (U : Option Addr) (V : Nat) (F' : Fz), Fz.le hn F' ∧ HS (Base.of H []) F' H' [b0, [(b4, .cells [(iI params), (iI (9 + (i : Int))), (.slice U bl.length V)] none false)], c9, [], dk, ag] R ∧ OS F' (.slice U bl.length V) bl ag ∧ aD f [(0, (.slice a_l l.length k_l)), (4, (.pointer (some ⟨b1, 0, none⟩))), (5, (.pointer (some ⟨b4, 0, none⟩))), (6, (iI (1 + (if (5 : Int) < ((l.length / 6 : Nat) : Int) then (5 : Int) else ((l.length / 6 : Nat) : Int))))), (11, (iI (b : Int)))] ∧ mm = ((1 + (if (5 : Int) < ((l.length / 6 : Nat) : Int) then (5 : Int) else ((l.length / 6 : Nat) : Int))) - (b : Int)).toNat ∧ (bl.length = b + 1) ∧ (bl.all (jN params (9 + (i : Int)) ((1 + (if (5 : Int) < ((l.length / 6 : Nat) : Int) then (5 : Int) else ((l.length / 6 : Nat) : Int))) + 1)) = true) ∧ (∀ y ∈ bl, y.ins.length ≤ 11) ∧ (bl.all (fun y => y.ins.all ckI) = true) ∧ (bl.getD 0 default = ⟨fi, 1, 0, 1, 0⟩) ∧ ((b : Int) ≤ (1 + (if (5 : Int) < ((l.length / 6 : Nat) : Int) then (5 : Int) else ((l.length / 6 : Nat) : Int))))) _ ⟨([(⟨fi, 1, 0, 1, 0⟩ : BlkT)] : List BlkT), 0, it, ht, ib, _, fR, lp, e0, ⟨rfl, rfl, rfl, rfl, rfl, trivial⟩, rfl, (by rfl), (by exact d9 (l := []) rfl (blk_mk w2 (by omega))), (by exact ins_snoc (l := []) (by simp) (by (dsimp only; omega))), (by exact d9 (l := []) rfl w4), (by rfl), (by omega)⟩ ?_)
 rintro nr n6 nP ⟨bl, b, ag, U, V, lR, cc, f3, Z, hV, rfl, e1, e2, e3, e5, e6, e4⟩ lA
 refine ap _ hV (fun _ => ?_)
 clear hV
 replace hT := (hT.mono et).mono cc
 replace hl := (hl.mono et).mono cc
 refine ah 2 rfl (wT 1 [] 62 64 [] [(64, (.bool (decide ((b : Int) < 1 + (if (5 : Int) < ((l.length / 6 : Nat) : Int) then (5 : Int) else ((l.length / 6 : Nat) : Int))))))] rfl fun _ => am 4 5 (v := (decide ((b : Int) < 1 + (if (5 : Int) < ((l.length / 6 : Nat) : Int) then (5 : Int) else ((l.length / 6 : Nat) : Int))))) rfl rfl rfl rfl (fun d1 => ?_) (fun d1 => ?_))
 ·
  have hB := d1
  try simp only [BS] at hB
  refine aa (aG (bp f3 rfl) rfl rfl ?_)
  rintro _ nQ _ ⟨T, rfl, (lq : HS _ _ _ [_, [(b4, .cells [(iI params), (iI (9 + (i : Int))), (.slice U bl.length V)] none false)], _, _, _, ag, [(T, .cells [(.slice none 0 0), (iI 0), (iI 0), (iI 0), (iI 0)] none false)]] _), _⟩
  refine ae 3 rfl (wT 2 [] 1 0 [13] [(13, (iI 0))] rfl fun _ => ?_)
  have f4 := HS.snoc lq
  have f4 : HS _ _ _ [_, _, _, _, _, _, _, []] _ := f4
  let go : Fp := [(b4, .cells [(iI params), (iI (9 + (i : Int))), (.slice U bl.length V)] none false)]
  refine aj (fun (mm : Nat) f H' => ∃ (xi : List VInT) (k : Nat) (al : Fp) (A : Option Addr) (E : Nat) (F' : Fz), Fz.le lR F' ∧ HS (Base.of H []) F' H' [b0, go, c9, [], dk, ag, [(T, .cells [(.slice A xi.length E), (iI 0), (iI 0), (iI 0), (iI 0)] none false)], al] R ∧ OS F' (.slice A xi.length E) xi al ∧ aD f [(0, (.slice a_l l.length k_l)), (4, (.pointer (some ⟨b1, 0, none⟩))), (5, (.pointer (some ⟨b4, 0, none⟩))), (6, (iI (1 + (if (5 : Int) < ((l.length / 6 : Nat) : Int) then (5 : Int) else ((l.length / 6 : Nat) : Int))))), (11, (iI (b : Int))), (12, (.pointer (some ⟨T, 0, none⟩))), (13, (iI (k : Int)))] ∧ mm = 5 - k ∧ (xi.length = k) ∧ (xi.all (eJ params (9 + (i : Int))) = true) ∧ (xi.all ckI = true) ∧ (k ≤ 5)) _ ⟨([] : List VInT), 0, [], none, 0, _, fR, f4, (OS.nil : OS _ (.slice none 0 0) ([] : List VInT) []), ⟨rfl, rfl, rfl, rfl, rfl, rfl, rfl, trivial⟩, rfl, (by rfl), (by rfl), (by rfl), (by omega)⟩ ?_
  rintro ns n7 kT ⟨xi, k, al, A, E, nw, bk, a0, ad, hW, rfl, z1, z2, z4, z3⟩ lB
  refine ap _ hW (fun _ => ?_)
  clear hW
  replace hT := hT.mono bk
  replace hl := hl.mono bk
  replace Z := Z.mono bk
  refine ah 2 rfl (wR 1 [] 67 77 [] [(77, (.bool ((decide ((k : Int) < 5)) && (decide ((6 * (b : Int)) + (k : Int) < (l.length : Int))))))] (vA (fun (g1 : (decide ((k : Int) < 5)) = true) => (vi (n := 6 * (b : Int)) (by (try simp only [BS] at g1); (first | omega | (dsimp only; omega))))) (vA (fun (g1 : (decide ((k : Int) < 5)) = true) => (vi (n := (6 * (b : Int)) + (k : Int)) (by (try simp only [BS] at g1); (first | omega | (dsimp only; omega))))) trivial)) rfl fun _ => am 3 5 (v := ((decide ((k : Int) < 5)) && (decide ((6 * (b : Int)) + (k : Int) < (l.length : Int))))) rfl rfl rfl rfl (fun d2 => ?_) (fun d2 => ?_))
  ·
   have hC := d2
   try simp only [BS] at hC
   refine aS rfl (wfv (v := (.pointer (some ⟨T, 0, none⟩))) (bn rfl rfl) (aF (v := (.slice A xi.length E)) (id := .l T) (aU (i := 0) rfl rfl (HS.hc a0.log0 (i := 6) rfl) rfl rfl) rfl rfl (bx rfl) (kb rfl) (fm (.slice a_l l.length k_l) rfl rfl rfl (fm (iI (b : Int)) rfl rfl rfl (wfv (v := (iI (6 * (b : Int)))) (ap_mul rfl rfl (jT (n := 6 * (b : Int)) (by omega))) ?_)))))
   refine fm (iI (k : Int)) rfl rfl rfl (wfv (v := (iI ((6 * (b : Int)) + (k : Int)))) (jQ rfl rfl (jT (n := (6 * (b : Int)) + (k : Int)) (by omega))) (wfv (v := (.pointer (some ⟨sB (.slice a_l l.length k_l), sO (.slice a_l l.length k_l) + ((6 * b) + k) * Rp.sz Int, none⟩))) (bh (α := Int) (j := (6 * (b : Int)) + (k : Int)) rfl rfl rfl rfl (SR.sv hl a0.log0) (by omega) (by omega)) ?_))
   obtain ⟨m9, la, k4⟩ := Sv.at (SR.sv hl a0.log0) (aM (x := (0 : Int)) (show (6 * b) + k < l.length from by omega))
   obtain ⟨rfl, ms⟩ := la
   refine aF (v := (iI (l.getD ((6 * b) + k) 0))) (id := .l (sB (.slice a_l l.length k_l))) (aU (i := 0) rfl rfl k4 rfl rfl) rfl rfl (bx rfl) (kb rfl) (aF (v := (.agg ⟨[(iI params), (iI (9 + (i : Int))), (.slice U bl.length V)]⟩)) (id := .l b4) (eL (i := 0) rfl rfl rfl (HS.hc a0.log0 (i := 1) rfl) rfl rfl rfl) rfl rfl (bx rfl) (kb rfl) (bY (W := []) (aq rfl rfl rfl) rfl rfl rfl (m4.vi_c ex (l.getD ((6 * b) + k) 0) (⟨params, 9 + (i : Int), bl⟩ : VFnT) (HS.call a0.log0) (by omega) (by (dsimp only; omega)) (by (dsimp only; omega)) hT (by (dsimp only; omega))) (⟨.inl rfl, ⟨.inl rfl, ⟨.inl rfl, ⟨.inl rfl, ⟨.inl rfl, ⟨.inl rfl, ⟨.inl rfl, ⟨.inl rfl, ⟨.inr a0i, ⟨.inr trivial, trivial⟩⟩⟩⟩⟩⟩⟩⟩⟩⟩) ?_))
   rintro _ lU ⟨an, a5, a6, nx, hQ, a1, rfl, lL, lM, lN, lO, lP, hm, ob, nl⟩
   refine ⟨Wr.did a1.log, fun lC jc => ?_⟩
   replace a1 := HS.back a0.log0 rfl a1
   replace a1 := HS.lg a1 a0 jc
   generalize ({ lU with log := lC } : Heap) = mX at a1 ⊢
   have a1 : HS _ _ _ [_, _, _, _, _, _, [(T, .cells [(.slice A xi.length E), (iI 0), (iI 0), (iI 0), (iI 0)] none false)], al] _ := a1
   replace ad := ad.mono hQ
   refine bM (id := .a) (bt (α := VInT) (ps := [(0, (.agg ⟨[(iI an.i.op), (iI an.i.a), (iI an.i.b), (iI an.i.c), (iI an.i.n), (.slice a5 an.args.length a6)]⟩))]) (cells := [(iI an.i.op), (iI an.i.a), (iI an.i.b), (iI an.i.c), (iI an.i.n), (.slice a5 an.args.length a6)]) ([an] : List VInT) a1.log0 rfl rfl rfl (by kernel_rfl) ⟨[(iI an.i.op), (iI an.i.a), (iI an.i.b), (iI an.i.c), (iI an.i.n), (.slice a5 an.args.length a6)], [], rfl, ⟨a5, a6, rfl, by omega, by omega, by omega, by omega, by omega, hm⟩, rfl⟩ rfl) rfl rfl (fun _ _ _ _ => gZ rfl rfl rfl) (kb rfl) ?_
   rintro _ lV me ⟨n3, oi, rfl, k8, a3, _⟩ lD jq
   replace a3 := HS.lg a3 a1 jq
   generalize ({ lV with log := lD } : Heap) = mY at a3 ⊢
   have a3 : HS _ _ _ [_, _, _, _, _, _, _, _, me] _ := a3
   refine bM (id := .x (al.map Prod.fst)) (bw (α := VInT) (q := 7) ad a3.log0 rfl rfl rfl (OS.sv k8 a3.log0 (i := 8) rfl) rfl rfl rfl rfl rfl rfl rfl (by (simp only [a05, a0a, a0e]; omega))) rfl rfl (by rintro _ _ iv ⟨hu, ih, rfl, h1, _, hwr⟩; exact bQ rfl rfl (Wr.did hwr)) (kb rfl) ?_
   rintro _ lW iv ⟨hu, ih, rfl, h1, a4, _⟩ lE jw
   replace a4 := HS.lg a4 a3 jw
   generalize ({ lW with log := lE } : Heap) = mZ at a4 ⊢
   have a4 : HS _ _ _ [_, _, _, _, _, _, _, iv, _] _ := a4
   refine wfv (v := (.pointer (some ⟨T, 0, none⟩))) (bn rfl rfl) (eN (id := .x [T]) (aI (q := 6) a4.log0 rfl rfl rfl rfl rfl rfl rfl rfl rfl) rfl (by rintro _ _ _ ⟨_, hwr⟩; exact bQ rfl rfl (Wr.did hwr)) (kb rfl) ?_)
   rintro _ lX _ ⟨a7, _⟩ lF kc
   replace a7 := HS.lg a7 a4 kc
   generalize ({ lX with log := lF } : Heap) = m0 at a7 ⊢
   have a7 : HS _ _ _ [_, _, _, _, _, _, [(T, .cells [(.slice hu (xi ++ ([an] : List VInT)).length ih), (iI 0), (iI 0), (iI 0), (iI 0)] none false)], _, _] _ := a7
   refine bT (ah 2 rfl (wU 1 [] 78 79 [13] [(13, (iI ((k : Int) + 1)))] (vi (n := (k : Int) + 1) (by omega)) rfl fun _ => lB _ _ _ ?_ ⟨xi ++ ([an] : List VInT), k + 1, iv, hu, ih, _, (fT (bk) hQ), (HS.sub a7 (a03 _ _)), h1, ⟨rfl, rfl, rfl, rfl, rfl, rfl, rfl, trivial⟩, rfl, (by simp; omega), (by exact d9 z2 (by assumption)), (by exact d9 z4 (by assumption)), (by omega)⟩))
   omega
  have hC := d2
  try simp only [BS] at hC
  refine wT 3 [] 1 0 [14] [(14, (iI 0))] rfl fun _ => wR 1 [] 94 99 [] [(99, (.bool (decide ((6 * (b : Int)) + 5 < (l.length : Int)))))] (vA (vi (n := 6 * (b : Int)) (by omega)) (vA (vi (n := (6 * (b : Int)) + 5) (by omega)) trivial)) rfl fun _ => bU (fun f H' => ∃ (nn : Int), H' = kT ∧ aD f [(0, (.slice a_l l.length k_l)), (4, (.pointer (some ⟨b1, 0, none⟩))), (5, (.pointer (some ⟨b4, 0, none⟩))), (6, (iI (1 + (if (5 : Int) < ((l.length / 6 : Nat) : Int) then (5 : Int) else ((l.length / 6 : Nat) : Int))))), (11, (iI (b : Int))), (12, (.pointer (some ⟨T, 0, none⟩))), (14, (iI nn))] ∧ (in64 nn)) (fun h8 => ?_) ?_
  ·
   refine am 0 0 (v := (decide ((6 * (b : Int)) + 5 < (l.length : Int)))) rfl rfl rfl rfl (fun ea => ?_) (fun ea => ?_)
   ·
    have hE := ea
    try simp only [BS] at hE
    obtain ⟨m8, h6⟩ := Sv.view (SR.sv hl a0)
    have oa := fI (h6 ((6 * b) + 5))
    refine wR 0 [(5, .o (iI (l.getD ((6 * b) + 5) 0)))] 100 105 [14] [(14, (iI (l.getD ((6 * b) + 5) 0)))] (vA (vi (n := 6 * (b : Int)) (by omega)) (vA (vi (n := (6 * (b : Int)) + 5) (by omega)) (vA (Sv.ix (j := (6 * (b : Int)) + 5) (SR.sv hl a0) (by omega) (by omega)) (vA (ql 3 0 (vI (h6 ((6 * b) + 5)) (by omega)) rfl rfl) trivial)))) rfl fun _ => ?_
    exact h8 _ _ ⟨(l.getD ((6 * b) + 5) 0), rfl, ⟨rfl, rfl, rfl, rfl, rfl, rfl, rfl, trivial⟩, (by omega)⟩
   have hE := ea
   try simp only [BS] at hE
   exact h8 _ _ ⟨0, rfl, ⟨rfl, rfl, rfl, rfl, rfl, rfl, rfl, trivial⟩, (by omega)⟩
  skip
  rintro n8 kT ⟨nn, rfl, hX, hnn⟩
  refine ap _ hX (fun _ => ?_)
  clear hX
  refine ah 2 rfl (aa (wTo 2 0 [] 106 107 [] [(107, (.agg ⟨[(iI nn)]⟩))] rfl fun _ => aG (bG a0 rfl rfl) rfl rfl ?_))
  rintro _ nR _ ⟨ar, rfl, (h4 : HS _ _ _ [_, _, _, _, _, _, [(T, .cells [(.slice A xi.length E), (iI 0), (iI 0), (iI 0), (iI 0)] none false)], al, [(ar, .cells [(iI nn)] none false)]] _), _⟩
  refine wa (.pointer (some ⟨ar, 0, none⟩)) rfl rfl rfl (ae 3 rfl (aa (wm (.pointer (some ⟨ar, 0, none⟩)) rfl rfl rfl (aA (aq rfl rfl rfl) rfl rfl (m4.de ex (⟨nn⟩ : DigT) (6) (HS.callOwn h4 (i := 8) rfl) (by omega) (by omega) hT (by omega)) ?_))))
  rintro _ nS ⟨b3, be, lS, ch, aw, rfl, l2, oc⟩
  replace aw : HS _ _ _ [_, _, _, _, _, _, _, _, [(ar, .cells [(iI be.n)] none false)]] _ := HS.backOwn h4 (i := 8) rfl rfl (fun _ hb => hb) aw
  replace hT := hT.mono ch
  replace Z := Z.mono ch
  replace ad := ad.mono ch
  refine ae 3 rfl (wT 1 [] 127 128 [] [(127, (.bool (b3 == 0)))] rfl fun _ => bU (fun f H' => ∃ (xe : Int) (xg : Int) (xt : Int) (xf : Int) (dd : DigT) (F' : Fz), Fz.le lS F' ∧ HS (Base.of H []) F' H' [b0, go, c9, [], dk, ag, [(T, .cells [(.slice A xi.length E), (iI xe), (iI xg), (iI xt), (iI xf)] none false)], al, [(ar, .cells [(iI dd.n)] none false)]] R ∧ aD f [(0, (.slice a_l l.length k_l)), (4, (.pointer (some ⟨b1, 0, none⟩))), (5, (.pointer (some ⟨b4, 0, none⟩))), (6, (iI (1 + (if (5 : Int) < ((l.length / 6 : Nat) : Int) then (5 : Int) else ((l.length / 6 : Nat) : Int))))), (11, (iI (b : Int))), (12, (.pointer (some ⟨T, 0, none⟩)))] ∧ ((xe = 1 ∧ 0 ≤ xt ∧ xt < ((1 + (if (5 : Int) < ((l.length / 6 : Nat) : Int) then (5 : Int) else ((l.length / 6 : Nat) : Int)))) + 1 ∧ xf = 0 ∧ xg = 0 ∨ xe = 2 ∧ 0 ≤ xt ∧ xt < ((1 + (if (5 : Int) < ((l.length / 6 : Nat) : Int) then (5 : Int) else ((l.length / 6 : Nat) : Int)))) + 1 ∧ 0 ≤ xf ∧ xf < ((1 + (if (5 : Int) < ((l.length / 6 : Nat) : Int) then (5 : Int) else ((l.length / 6 : Nat) : Int)))) + 1 ∧ 0 ≤ xg ∧ xg < 9 + (i : Int) ∨ xe = 3 ∧ 0 ≤ xg ∧ xg < 9 + (i : Int) ∧ xt = 0 ∧ xf = 0 ∨ xe = 4 ∧ 1 ≤ xt ∧ xt < 33554432 ∧ xf = 0 ∧ xg = 0)) ∧ (in64 dd.n)) (fun c6 => ?_) ?_)
  ·
   refine am 0 1 (v := (b3 == 0)) rfl rfl rfl rfl (fun em => ?_) (fun em => ?_)
   ·
    have hF := em
    try simp only [BS] at hF
    refine aa (wTo 2 0 [] 129 130 [] [(129, (.pointer (some ⟨ar, 0, none⟩))), (130, (iI (1 + (if (5 : Int) < ((l.length / 6 : Nat) : Int) then (5 : Int) else ((l.length / 6 : Nat) : Int)))))] rfl fun _ => aA (aq rfl rfl rfl) rfl rfl (m4.de ex (⟨be.n⟩ : DigT) (1 + (if (5 : Int) < ((l.length / 6 : Nat) : Int) then (5 : Int) else ((l.length / 6 : Nat) : Int))) (HS.callOwn aw (i := 8) rfl) (by omega) (by omega) hT (by omega)) ?_)
    rintro _ nU ⟨hj, hH, ny, k0, f6, rfl, l3, od⟩
    replace f6 : HS _ _ _ [_, _, _, _, _, _, _, _, [(ar, .cells [(iI hH.n)] none false)]] _ := HS.backOwn aw (i := 8) rfl rfl (fun _ hb => hb) f6
    refine wUo 2 3 [] 132 133 [] [(132, (iI (1 + hj))), (133, (.pointer (some ⟨T, 1, none⟩)))] (vi (n := 1 + hj) (by omega)) rfl fun _ => aN (aI (q := 6) f6 rfl rfl rfl rfl rfl rfl rfl rfl rfl) rfl ?_
    rintro _ nV _ ⟨(lr : HS _ _ _ [_, _, _, _, _, _, [(T, .cells [(.slice A xi.length E), (iI 1), (iI 0), (iI 0), (iI 0)] none false)], _, _] _), _⟩
    refine wTo 1 6 [] 134 134 [] [(134, (.pointer (some ⟨T, 3, none⟩)))] rfl fun _ => aN (aI (q := 6) lr rfl rfl rfl rfl rfl rfl rfl rfl rfl) rfl ?_
    rintro _ nW _ ⟨(lu : HS _ _ _ [_, _, _, _, _, _, [(T, .cells [(.slice A xi.length E), (iI 1), (iI 0), (iI (1 + hj)), (iI 0)] none false)], _, _] _), _⟩
    refine ae 0 rfl ?_
    exact c6 _ _ ⟨1, 0, 1 + hj, 0, (⟨hH.n⟩ : DigT), _, (k0), lu, ⟨rfl, rfl, rfl, rfl, rfl, rfl, trivial⟩, (by omega), (by omega)⟩
   have hF := em
   try simp only [BS] at hF
   refine wT 1 [] 135 136 [] [(135, (.bool (b3 == 1)))] rfl fun _ => am 0 1 (v := (b3 == 1)) rfl rfl rfl rfl (fun es => ?_) (fun es => ?_)
   ·
    have hG := es
    try simp only [BS] at hG
    refine aa (wm (.pointer (some ⟨ar, 0, none⟩)) rfl rfl rfl (aA (aq rfl rfl rfl) rfl rfl (m4.de ex (⟨be.n⟩ : DigT) (9) (HS.callOwn aw (i := 8) rfl) (by omega) (by omega) hT (by omega)) ?_))
    rintro _ nX ⟨hk, hI, nz, k3, f7, rfl, l4, oe⟩
    replace f7 : HS _ _ _ [_, _, _, _, _, _, _, _, [(ar, .cells [(iI hI.n)] none false)]] _ := HS.backOwn aw (i := 8) rfl rfl (fun _ hb => hb) f7
    refine wUo 2 2 [] 139 140 [] [(139, (iI (1 + hk))), (140, (.pointer (some ⟨T, 1, none⟩)))] (vi (n := 1 + hk) (by omega)) rfl fun _ => aN (aI (q := 6) f7 rfl rfl rfl rfl rfl rfl rfl rfl rfl) rfl ?_
    rintro _ nY _ ⟨(lv : HS _ _ _ [_, _, _, _, _, _, [(T, .cells [(.slice A xi.length E), (iI 4), (iI 0), (iI 0), (iI 0)] none false)], _, _] _), _⟩
    refine wTo 1 5 [] 141 141 [] [(141, (.pointer (some ⟨T, 3, none⟩)))] rfl fun _ => aN (aI (q := 6) lv rfl rfl rfl rfl rfl rfl rfl rfl rfl) rfl ?_
    rintro _ nZ _ ⟨(lw : HS _ _ _ [_, _, _, _, _, _, [(T, .cells [(.slice A xi.length E), (iI 4), (iI 0), (iI (1 + hk)), (iI 0)] none false)], _, _] _), _⟩
    refine ae 0 rfl ?_
    exact c6 _ _ ⟨4, 0, 1 + hk, 0, (⟨hI.n⟩ : DigT), _, (k3), lw, ⟨rfl, rfl, rfl, rfl, rfl, rfl, trivial⟩, (by omega), (by omega)⟩
   have hG := es
   try simp only [BS] at hG
   refine wT 1 [] 142 143 [] [(142, (.bool (b3 == 2)))] rfl fun _ => am 0 0 (v := (b3 == 2)) rfl rfl rfl rfl (fun b5 => ?_) (fun b5 => ?_)
   ·
    have dl := b5
    try simp only [BS] at dl
    refine aa (wUo 3 0 [(2, .o (iI (9 + (i : Int))))] 144 146 [] [(144, (.pointer (some ⟨ar, 0, none⟩))), (146, (iI (9 + (i : Int))))] (ql 3 1 (HS.hc aw (i := 1) rfl) rfl rfl) rfl fun _ => aA (aq rfl rfl rfl) rfl rfl (m4.de ex (⟨be.n⟩ : DigT) (9 + (i : Int)) (HS.callOwn aw (i := 8) rfl) (by omega) (by omega) hT (by omega)) ?_)
    rintro _ mF ⟨iz, g3, mx, i3, ci, rfl, lH, nh⟩
    replace ci : HS _ _ _ [_, _, _, _, _, _, _, _, [(ar, .cells [(iI g3.n)] none false)]] _ := HS.backOwn aw (i := 8) rfl rfl (fun _ hb => hb) ci
    refine wTo 1 4 [] 148 148 [] [(148, (.pointer (some ⟨T, 1, none⟩)))] rfl fun _ => aN (aI (q := 6) ci rfl rfl rfl rfl rfl rfl rfl rfl rfl) rfl ?_
    rintro _ mG _ ⟨(kl : HS _ _ _ [_, _, _, _, _, _, [(T, .cells [(.slice A xi.length E), (iI 3), (iI 0), (iI 0), (iI 0)] none false)], _, _] _), _⟩
    refine wTo 1 6 [] 149 149 [] [(149, (.pointer (some ⟨T, 2, none⟩)))] rfl fun _ => aN (aI (q := 6) kl rfl rfl rfl rfl rfl rfl rfl rfl rfl) rfl ?_
    rintro _ mH _ ⟨(kn : HS _ _ _ [_, _, _, _, _, _, [(T, .cells [(.slice A xi.length E), (iI 3), (iI iz), (iI 0), (iI 0)] none false)], _, _] _), _⟩
    refine ae 0 rfl ?_
    exact c6 _ _ ⟨3, iz, 0, 0, (⟨g3.n⟩ : DigT), _, (i3), kn, ⟨rfl, rfl, rfl, rfl, rfl, rfl, trivial⟩, (by omega), (by omega)⟩
   have dl := b5
   try simp only [BS] at dl
   refine aa (wUo 3 0 [(2, .o (iI (9 + (i : Int))))] 111 113 [] [(111, (.pointer (some ⟨ar, 0, none⟩))), (113, (iI (9 + (i : Int))))] (ql 3 1 (HS.hc aw (i := 1) rfl) rfl rfl) rfl fun _ => aA (aq rfl rfl rfl) rfl rfl (m4.de ex (⟨be.n⟩ : DigT) (9 + (i : Int)) (HS.callOwn aw (i := 8) rfl) (by omega) (by omega) hT (by omega)) ?_)
   rintro _ mI ⟨c7, g4, my, g7, a8, rfl, lI, ni⟩
   replace a8 : HS _ _ _ [_, _, _, _, _, _, _, _, [(ar, .cells [(iI g4.n)] none false)]] _ := HS.backOwn aw (i := 8) rfl rfl (fun _ hb => hb) a8
   replace hT := hT.mono g7
   refine wTo 2 4 [] 115 116 [] [(115, (.pointer (some ⟨ar, 0, none⟩))), (116, (iI (1 + (if (5 : Int) < ((l.length / 6 : Nat) : Int) then (5 : Int) else ((l.length / 6 : Nat) : Int)))))] rfl fun _ => aA (aq rfl rfl rfl) rfl rfl (m4.de ex (⟨g4.n⟩ : DigT) (1 + (if (5 : Int) < ((l.length / 6 : Nat) : Int) then (5 : Int) else ((l.length / 6 : Nat) : Int))) (HS.callOwn a8 (i := 8) rfl) (by omega) (by omega) hT (by omega)) ?_
   rintro _ mJ ⟨bz, g5, mz, g8, a9, rfl, lJ, nj⟩
   replace a9 : HS _ _ _ [_, _, _, _, _, _, _, _, [(ar, .cells [(iI g5.n)] none false)]] _ := HS.backOwn a8 (i := 8) rfl rfl (fun _ hb => hb) a9
   replace hT := hT.mono g8
   refine wUo 3 7 [] 118 120 [] [(118, (iI (1 + bz))), (119, (.pointer (some ⟨ar, 0, none⟩))), (120, (iI (1 + (if (5 : Int) < ((l.length / 6 : Nat) : Int) then (5 : Int) else ((l.length / 6 : Nat) : Int)))))] (vi (n := 1 + bz) (by omega)) rfl fun _ => aA (aq rfl rfl rfl) rfl rfl (m4.de ex (⟨g5.n⟩ : DigT) (1 + (if (5 : Int) < ((l.length / 6 : Nat) : Int) then (5 : Int) else ((l.length / 6 : Nat) : Int))) (HS.callOwn a9 (i := 8) rfl) (by omega) (by omega) hT (by omega)) ?_
   rintro _ mK ⟨c8, g6, mA, ja, co, rfl, lK, nk⟩
   replace co : HS _ _ _ [_, _, _, _, _, _, _, _, [(ar, .cells [(iI g6.n)] none false)]] _ := HS.backOwn a9 (i := 8) rfl rfl (fun _ hb => hb) co
   refine wUo 2 11 [] 122 123 [] [(122, (iI (1 + c8))), (123, (.pointer (some ⟨T, 1, none⟩)))] (vi (n := 1 + c8) (by omega)) rfl fun _ => aN (aI (q := 6) co rfl rfl rfl rfl rfl rfl rfl rfl rfl) rfl ?_
   rintro _ mL _ ⟨(ko : HS _ _ _ [_, _, _, _, _, _, [(T, .cells [(.slice A xi.length E), (iI 2), (iI 0), (iI 0), (iI 0)] none false)], _, _] _), _⟩
   refine wTo 1 14 [] 124 124 [] [(124, (.pointer (some ⟨T, 2, none⟩)))] rfl fun _ => aN (aI (q := 6) ko rfl rfl rfl rfl rfl rfl rfl rfl rfl) rfl ?_
   rintro _ mM _ ⟨(kr : HS _ _ _ [_, _, _, _, _, _, [(T, .cells [(.slice A xi.length E), (iI 2), (iI c7), (iI 0), (iI 0)] none false)], _, _] _), _⟩
   refine wTo 1 16 [] 125 125 [] [(125, (.pointer (some ⟨T, 3, none⟩)))] rfl fun _ => aN (aI (q := 6) kr rfl rfl rfl rfl rfl rfl rfl rfl rfl) rfl ?_
   rintro _ mN _ ⟨(kx : HS _ _ _ [_, _, _, _, _, _, [(T, .cells [(.slice A xi.length E), (iI 2), (iI c7), (iI (1 + bz)), (iI 0)] none false)], _, _] _), _⟩
   refine wTo 1 18 [] 126 126 [] [(126, (.pointer (some ⟨T, 4, none⟩)))] rfl fun _ => aN (aI (q := 6) kx rfl rfl rfl rfl rfl rfl rfl rfl rfl) rfl ?_
   rintro _ mO _ ⟨(ky : HS _ _ _ [_, _, _, _, _, _, [(T, .cells [(.slice A xi.length E), (iI 2), (iI c7), (iI (1 + bz)), (iI (1 + c8))] none false)], _, _] _), _⟩
   refine ae 0 rfl ?_
   exact c6 _ _ ⟨2, c7, 1 + bz, 1 + c8, (⟨g6.n⟩ : DigT), _, (fT (fT (g7) g8) ja), ky, ⟨rfl, rfl, rfl, rfl, rfl, rfl, trivial⟩, (by omega), (by omega)⟩
  skip
  rintro n9 nT ⟨xe, xg, xt, xf, dd, lT, ez, f5, h0, hD, hdd⟩
  refine ap _ h0 (fun _ => ?_)
  clear h0
  replace Z := Z.mono ez
  replace ad := ad.mono ez
  refine ah 4 rfl (wR 1 [(6, .o (iI xe))] 150 158 [] [(158, (.bool (((b : Int) == (1 + (if (5 : Int) < ((l.length / 6 : Nat) : Int) then (5 : Int) else ((l.length / 6 : Nat) : Int))) - 1) && (xe == 1))))] (vA (vi (n := (1 + (if (5 : Int) < ((l.length / 6 : Nat) : Int) then (5 : Int) else ((l.length / 6 : Nat) : Int))) - 1) (by omega)) (vA (fun (g1 : ((b : Int) == (1 + (if (5 : Int) < ((l.length / 6 : Nat) : Int) then (5 : Int) else ((l.length / 6 : Nat) : Int))) - 1) = true) => (ql 3 1 (HS.hc f5 (i := 6) rfl) rfl rfl)) trivial)) rfl fun _ => bU (fun f H' => ∃ (ye : Int) (yg : Int) (yt : Int) (F' : Fz), Fz.le lT F' ∧ HS (Base.of H []) F' H' [b0, go, c9, [], dk, ag, [(T, .cells [(.slice A xi.length E), (iI ye), (iI yg), (iI yt), (iI xf)] none false)], al, [(ar, .cells [(iI dd.n)] none false)]] R ∧ aD f [(0, (.slice a_l l.length k_l)), (4, (.pointer (some ⟨b1, 0, none⟩))), (5, (.pointer (some ⟨b4, 0, none⟩))), (6, (iI (1 + (if (5 : Int) < ((l.length / 6 : Nat) : Int) then (5 : Int) else ((l.length / 6 : Nat) : Int))))), (11, (iI (b : Int))), (12, (.pointer (some ⟨T, 0, none⟩)))] ∧ ((ye = 1 ∧ 0 ≤ yt ∧ yt < ((1 + (if (5 : Int) < ((l.length / 6 : Nat) : Int) then (5 : Int) else ((l.length / 6 : Nat) : Int)))) + 1 ∧ xf = 0 ∧ yg = 0 ∨ ye = 2 ∧ 0 ≤ yt ∧ yt < ((1 + (if (5 : Int) < ((l.length / 6 : Nat) : Int) then (5 : Int) else ((l.length / 6 : Nat) : Int)))) + 1 ∧ 0 ≤ xf ∧ xf < ((1 + (if (5 : Int) < ((l.length / 6 : Nat) : Int) then (5 : Int) else ((l.length / 6 : Nat) : Int)))) + 1 ∧ 0 ≤ yg ∧ yg < 9 + (i : Int) ∨ ye = 3 ∧ 0 ≤ yg ∧ yg < 9 + (i : Int) ∧ yt = 0 ∧ xf = 0 ∨ ye = 4 ∧ 1 ≤ yt ∧ yt < 33554432 ∧ xf = 0 ∧ yg = 0))) (fun hh => ?_) ?_)
  ·
   refine am 0 0 (v := (((b : Int) == (1 + (if (5 : Int) < ((l.length / 6 : Nat) : Int) then (5 : Int) else ((l.length / 6 : Nat) : Int))) - 1) && (xe == 1))) rfl rfl rfl rfl (fun b6 => ?_) (fun b6 => ?_)
   ·
    have ds := b6
    try simp only [BS] at ds
    refine aa (wTo 1 0 [] 159 159 [] [(159, (.pointer (some ⟨T, 1, none⟩)))] rfl fun _ => aN (aI (q := 6) f5 rfl rfl rfl rfl rfl rfl rfl rfl rfl) rfl ?_)
    rintro _ mQ _ ⟨(kz : HS _ _ _ [_, _, _, _, _, _, [(T, .cells [(.slice A xi.length E), (iI 3), (iI xg), (iI xt), (iI xf)] none false)], _, [(ar, .cells [(iI dd.n)] none false)]] _), _⟩
    refine wTo 1 2 [] 160 160 [] [(160, (.pointer (some ⟨T, 3, none⟩)))] rfl fun _ => aN (aI (q := 6) kz rfl rfl rfl rfl rfl rfl rfl rfl rfl) rfl ?_
    rintro _ mR _ ⟨(kP : HS _ _ _ [_, _, _, _, _, _, [(T, .cells [(.slice A xi.length E), (iI 3), (iI xg), (iI 0), (iI xf)] none false)], _, _] _), _⟩
    refine wTo 1 4 [] 161 161 [] [(161, (.pointer (some ⟨T, 2, none⟩)))] rfl fun _ => aN (aI (q := 6) kP rfl rfl rfl rfl rfl rfl rfl rfl rfl) rfl ?_
    rintro _ mS _ ⟨(kQ : HS _ _ _ [_, _, _, _, _, _, [(T, .cells [(.slice A xi.length E), (iI 3), (iI 0), (iI 0), (iI xf)] none false)], _, _] _), _⟩
    refine ae 0 rfl ?_
    exact hh _ _ ⟨3, 0, 0, _, fR, kQ, ⟨rfl, rfl, rfl, rfl, rfl, rfl, trivial⟩, (by omega)⟩
   have ds := b6
   try simp only [BS] at ds
   exact hh _ _ ⟨xe, xg, xt, _, fR, f5, ⟨rfl, rfl, rfl, rfl, rfl, rfl, trivial⟩, (by omega)⟩
  skip
  rintro ne mP ⟨ye, yg, yt, mB, b7, c0, he, hY⟩
  refine ap _ he (fun _ => ?_)
  clear he
  replace ad := ad.mono b7
  let g2 : Value := (.agg ⟨[(.slice A xi.length E), (iI ye), (iI yg), (iI yt), (iI xf)]⟩)
  refine ah 1 rfl (aa (wRo 3 0 [(1, .o (.slice U bl.length V)), (2, .o g2)] 162 164 [] [(163, (.slice U bl.length V)), (164, g2)] (vA (ql 22 2 (HS.hc c0 (i := 1) rfl) rfl rfl) (vA (qn 48 0 5 (HS.hc c0 (i := 6) rfl) rfl rfl rfl rfl) trivial)) rfl fun _ => ?_))
  obtain ⟨mC, g9, c3, ki, mu⟩ := OS.frz ad c0 (i := 7) rfl
  have c3 : HS _ _ _ [_, _, _, _, _, _, [(T, .cells [(.slice A xi.length E), (iI ye), (iI yg), (iI yt), (iI xf)] none false)], [], [(ar, .cells [(iI dd.n)] none false)]] _ := c3
  replace Z := (Z.mono b7).mono g9
  refine aG (bt (α := BlkT) (ps := [(0, g2)]) (cells := [(.slice A xi.length E), (iI ye), (iI yg), (iI yt), (iI xf)]) ([(⟨xi, ye, yg, yt, xf⟩ : BlkT)] : List BlkT) c3 rfl rfl rfl (by kernel_rfl) ⟨[(.slice A xi.length E), (iI ye), (iI yg), (iI yt), (iI xf)], [], rfl, ⟨A, E, rfl, by (dsimp only; omega), by (dsimp only; omega), by (dsimp only; omega), by (dsimp only; omega), ki⟩, rfl⟩ rfl) rfl rfl ?_
  rintro _ mT lG ⟨m7, np, rfl, kd, (hf : HS _ _ _ [_, _, _, _, _, _, _, _, _, lG] _), _⟩
  refine aG (bw (α := BlkT) (q := 5) Z hf rfl rfl rfl (OS.sv kd hf (i := 9) rfl) rfl rfl rfl rfl rfl rfl rfl (by (simp only [a05, a0a, a0e]; omega))) rfl rfl ?_
  rintro _ mU il ⟨hr, h9, rfl, kg, (kR : HS _ _ _ [_, _, _, _, _, il, _, _, _, _] _), _⟩
  refine wTo 1 5 [] 167 167 [] [(167, (.pointer (some ⟨b4, 2, none⟩)))] rfl fun _ => aN (aI (q := 1) kR rfl rfl rfl rfl rfl rfl rfl rfl rfl) rfl ?_
  rintro _ mV _ ⟨(kS : HS _ _ _ [_, [(b4, .cells [(iI params), (iI (9 + (i : Int))), (.slice hr (bl ++ ([(⟨xi, ye, yg, yt, xf⟩ : BlkT)] : List BlkT)).length h9)] none false)], _, _, _, _, _, _, _, _] _), _⟩
  refine ae 2 rfl (wU 1 [] 65 66 [11] [(11, (iI ((b : Int) + 1)))] (vi (n := (b : Int) + 1) (by omega)) rfl fun _ => lA _ _ _ ?_ ⟨bl ++ ([(⟨xi, ye, yg, yt, xf⟩ : BlkT)] : List BlkT), b + 1, il, hr, h9, _, (fT (fT (fT (fT (fT (cc) bk) ch) ez) b7) g9), (HS.sub kS (a03 _ _)), kg, ⟨rfl, rfl, rfl, rfl, rfl, trivial⟩, rfl, (by simp; omega), (by exact d9 e2 (blk_mk z2 (by omega))), (by exact ins_snoc e3 (by (dsimp only; omega))), (by exact d9 e5 z4), (by exact first_snoc e6 (by omega)), (by omega)⟩)
  omega
 have hB := d1
 try simp only [BS] at hB
 let i1 : Value := (.agg ⟨[(iI params), (iI (9 + (i : Int))), (.slice U bl.length V)]⟩)
 refine aa (wUo 1 0 [(0, .o i1)] 168 168 [] [(168, i1)] (qn 24 0 3 (HS.hc f3 (i := 1) rfl) rfl rfl rfl rfl) rfl fun _ => aN (aI (q := 0) f3 rfl rfl rfl rfl rfl rfl rfl rfl rfl) rfl ?_)
 rintro _ mW _ ⟨(hg : HS _ _ _ [[(b1, .cells [(iI params), (iI (9 + (i : Int))), (.slice U bl.length V)] none false)], [(b4, .cells [(iI params), (iI (9 + (i : Int))), (.slice U bl.length V)] none false)], _, _, _, ag] _), _⟩
 refine ae 1 rfl ?_
 obtain ⟨mD, jb, c4, kk, mw⟩ := OS.frz Z hg (i := 5) rfl
 have c4 : HS _ _ _ [_, _, _, _, _, []] _ := c4
 refine ak ⟨.inr rfl, _, (rC rfl (ldVN rfl rfl (HS.hc hg (i := 0) rfl) rfl) rN), (⟨params, 9 + (i : Int), bl⟩ : VFnT), U, V, _, (fT (fT (fT (fT (ha) b9) et) cc) jb), (HS.forget c4), rfl, (by (dsimp only; omega)), (by (dsimp only; omega)), kk, (by exact ⟨val_mk (by omega) (by omega) e2, rfl, by (dsimp only; omega), ⟨by (dsimp only; omega), by (dsimp only; omega)⟩, ins_at e3, e5, fi, e6, by (dsimp only; omega), w5⟩)⟩
end Go.Proofs.YtknafdcgpaejlaaDoor.m5
