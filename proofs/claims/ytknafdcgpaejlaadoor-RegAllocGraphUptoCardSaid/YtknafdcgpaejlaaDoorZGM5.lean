/-
 The generator of virtual code, whole, by a symbolic run: what it makes is valid. No condition but that the table lies as laid.
-/
import Derived.Test.YtknafdcgpaejlaaDoorZGM4
noncomputable section
namespace Go.Proofs.YtknafdcgpaejlaaDoor.m5
open Go.R
set_option maxRecDepth 10000
set_option linter.unusedVariables false
set_option linter.unusedSimpArgs false
variable (ex : FuncId) {F : Fz} {H : Heap} {R : List Fp}
open m1 m2 m3 m4
theorem vin_ldi {params regs r op : Int} (hr : 0 ≤ r ∧ r < regs) (ho : op = 13 ∨ op = 38 ∧ r < params) : eI params regs ⟨⟨op, r, 0, 0, r⟩, []⟩ = true := by
 rcases ho with rfl | ⟨rfl, hp⟩
 ·
  exact vin_mk (by decide) (.inr rfl) (by simp) rfl (opOK_t (by decide) hr) (iM (by decide) rfl) (iM (by decide) rfl) rfl
 exact vin_mk (by decide) (.inr rfl) (by simp) rfl (opOK_t (by decide) hr) (iM (by decide) rfl) (iM (by decide) rfl) (decide_eq_true ⟨hr.1, hp⟩)
theorem ee {α : Type} {p : α → Bool} {l : List α} {x : α} (h : l.all p = true) (hx : p x = true) : (l ++ [x]).all p = true := by rw [a25, h]; simp [hx]
theorem blk_mk {params regs nb e g t f : Int} {l : List VInT} (h : l.all (eI params regs) = true) (z : e = 1 ∧ 0 ≤ t ∧ t < nb ∧ f = 0 ∧ g = 0 ∨ e = 2 ∧ 0 ≤ t ∧ t < nb ∧ 0 ≤ f ∧ f < nb ∧ 0 ≤ g ∧ g < regs ∨ e = 3 ∧ 0 ≤ g ∧ g < regs ∧ t = 0 ∧ f = 0 ∨ e = 4 ∧ 1 ≤ t ∧ t < 33554432 ∧ f = 0 ∧ g = 0) : kD params regs nb ⟨l, e, g, t, f⟩ = true := gF h (bL.2 z)
theorem ins_snoc {l : List BlkT} {x : BlkT} (h : ∀ y ∈ l, y.ins.length ≤ 11) (hx : x.ins.length ≤ 11) : ∀ y ∈ l ++ [x], y.ins.length ≤ 11 := fun y hy => by
 rcases a09.1 hy with hy | hy
 ·
  exact h y hy
 rw [a0e] at hy; rw [hy]; exact hx
theorem ins_at {l : List BlkT} (h : ∀ y ∈ l, y.ins.length ≤ 11) (j : Nat) : (l.getD j default).ins.length ≤ 11 := by
 rw [a01]
 rcases hj : l[j]? with _ | y
 ·
  exact a0B _
 exact h y (a0m hj)
def fstOK (fi : List VInT) : Prop := ∀ q : Nat, q < fi.length → (fi.getD q default).i.a = q ∧ ((fi.getD q default).i.op = 13 ∨ (fi.getD q default).i.op = 38)
theorem fst_snoc {fi : List VInT} {x : VInT} (h : fstOK fi) (hx : x.i.a = (fi.length : Int) ∧ (x.i.op = 13 ∨ x.i.op = 38)) : fstOK (fi ++ [x]) := fun q hq => by
 rw [a06] at hq
 simp only [a0a, a0g] at hq
 rcases a0k q fi.length with z | z
 ·
  rw [a01, a0I z, ← a01]; exact h q z
 have : q = fi.length := by omega
 subst this
 rw [a01, a0U (a08 _), a1G]; exact hx
theorem first_snoc {l : List BlkT} {x y : BlkT} (h : l.getD 0 default = x) (hl : 0 < l.length) : (l ++ [y]).getD 0 default = x := by
 rw [a01, a0I hl, ← a01]; exact h
theorem ck_ldi {v : VInT} (ho : v.i.op = 13 ∨ v.i.op = 38) : ckI v = true := decide_eq_true ⟨fun h => by omega, fun h => by omega⟩
structure vfG (x : VFnT) (params : Int) : Prop where
 val : cx x = true
 par : x.params = params
 reg : x.regs = 9 + params
 nb : 2 ≤ x.blocks.length ∧ x.blocks.length ≤ 7
 ins : ∀ j, (x.blocks.getD j default).ins.length ≤ 11
 ck : x.blocks.all (fun y => y.ins.all ckI) = true
 fst : ∃ fi, x.blocks.getD 0 default = ⟨fi, 1, 0, 1, 0⟩ ∧ (fi.length : Int) = x.regs ∧ fstOK fi
theorem val_mk {p r : Int} {l : List BlkT} {n : Int} (h : 0 ≤ p ∧ p ≤ 6 ∧ 0 ≤ r ∧ r ≤ 3000 ∧ 1 ≤ l.length ∧ l.length ≤ 1000) (hn : (l.length : Int) = n) (z : l.all (kD p r n) = true) : cx ⟨p, r, l⟩ = true := by subst hn; exact (val_yes (c := ⟨p, r, l⟩) h z).symm
set_option maxHeartbeats 2000000 in
theorem vf_c {a_l : Option Addr} {k_l : Nat} (l : List Int) (params : Int) (hs : HS (.of H []) F H [] R) (hl : SR F (.slice a_l l.length k_l) l) (hT : TB 37 tabC F) (hp : 0 ≤ params ∧ params ≤ 2) (hbl : l.length ≤ 1000) : kKt ex 16 [(.slice a_l l.length k_l), (iI params)] H fun v H' => ∃ (x : VFnT) (ht : Option Addr) (ih : Nat) (F' : Fz), Fz.le F F' ∧ HS (.of H []) F' H' [] R ∧ v = .agg ⟨[.int .i64 x.params, .int .i64 x.regs, .slice ht x.blocks.length ih]⟩ ∧ in64 x.params ∧ in64 x.regs ∧ SR F' (.slice ht x.blocks.length ih) x.blocks ∧ (vfG x params) := by
 refine aI Tryd.func16 rfl rfl (ah 1 rfl (aa (aH (bp hs rfl) rfl rfl ?_)))
 rintro _ H2 _ ⟨b1, rfl, (l3 : HS _ _ _ [[(b1, .cells [(iI 0), (iI 0), (.slice none 0 0)] none false)]] _), _⟩
 refine ae 2 rfl (aa (wTo 2 0 [] 16 17 [] [(17, (.agg ⟨[(iI params), (iI 9), (.slice none 0 0)]⟩))] rfl fun _ => aH (bp l3 rfl) rfl rfl ?_))
 rintro _ H5 _ ⟨b4, rfl, (l4 : HS _ _ _ [_, [(b4, .cells [(iI 0), (iI 0), (.slice none 0 0)] none false)]] _), _⟩
 refine aL (aE (q := 1) l4 rfl rfl rfl rfl rfl rfl rfl rfl rfl) rfl ?_
 rintro _ H6 _ ⟨(l5 : HS _ _ _ [_, [(b4, .cells [(iI params), (iI 9), (.slice none 0 0)] none false)]] _), _⟩
 refine ae 2 rfl (wR 3 [] 18 22 [6] [(6, (iI (1 + (if (5 : Int) < ((l.length / 6 : Nat) : Int) then (5 : Int) else ((l.length / 6 : Nat) : Int)))))] (vA (vA (show (6 : Int) ≠ 0 from by decide) (vi (n := ((l.length / 6 : Nat) : Int)) (by omega))) (vA (vi (n := 1 + (if (5 : Int) < ((l.length / 6 : Nat) : Int) then (5 : Int) else ((l.length / 6 : Nat) : Int))) (by omega)) trivial)) rfl fun _ => ?_)
 have hM : 1 ≤ (1 + (if (5 : Int) < ((l.length / 6 : Nat) : Int) then (5 : Int) else ((l.length / 6 : Nat) : Int))) ∧ (1 + (if (5 : Int) < ((l.length / 6 : Nat) : Int) then (5 : Int) else ((l.length / 6 : Nat) : Int))) ≤ 6 := by omega
 let b0 : Fp := [(b1, .cells [(iI 0), (iI 0), (.slice none 0 0)] none false)]
 refine wT 2 [] 1 0 [7] [(7, (iI 0))] rfl fun _ => aj (fun (mm : Nat) f H' => ∃ (i : Nat) (F' : Fz), Fz.le F F' ∧ HS (Base.of H []) F' H' [b0, [(b4, .cells [(iI params), (iI (9 + (i : Int))), (.slice none 0 0)] none false)]] R ∧ aD f [(0, (.slice a_l l.length k_l)), (1, (iI params)), (4, (.pointer (some ⟨b1, 0, none⟩))), (5, (.pointer (some ⟨b4, 0, none⟩))), (6, (iI (1 + (if (5 : Int) < ((l.length / 6 : Nat) : Int) then (5 : Int) else ((l.length / 6 : Nat) : Int))))), (7, (iI (i : Int)))] ∧ mm = (params - (i : Int)).toNat ∧ ((i : Int) ≤ params)) _ ⟨0, _, fR, l5, ⟨rfl, rfl, rfl, rfl, rfl, rfl, trivial⟩, rfl, (by omega)⟩ ?_
 rintro oj f9 H9 ⟨i, F9, g8, h4, kT, rfl, q1⟩ l6
 refine au _ kT (fun _ => ?_)
 clear kT
 replace hT := hT.mono g8
 replace hl := hl.mono g8
 refine ah 2 rfl (wT 1 [] 23 25 [] [(25, (.bool (decide ((i : Int) < params))))] rfl fun _ => am 3 5 (v := (decide ((i : Int) < params))) rfl rfl rfl rfl (fun dn => ?_) (fun dn => ?_))
 ·
  have hu := dn
  try simp only [BS] at hu
  refine aa (wRo 4 0 [(1, .o (iI (9 + (i : Int))))] 28 31 [] [(30, (iI ((9 + (i : Int)) + 1))), (31, (.pointer (some ⟨b4, 1, none⟩)))] (vA (ql 3 1 (HS.hc h4 (i := 1) rfl) rfl rfl) (vA (vi (n := (9 + (i : Int)) + 1) (by omega)) trivial)) rfl fun _ => aL (aE (q := 1) h4 rfl rfl rfl rfl rfl rfl rfl rfl rfl) rfl ?_)
  rintro _ nA _ ⟨(k9 : HS _ _ _ [_, [(b4, .cells [(iI params), (iI ((9 + (i : Int)) + 1)), (.slice none 0 0)] none false)]] _), _⟩
  refine ae 2 rfl (wU 1 [] 26 27 [7] [(7, (iI ((i : Int) + 1)))] (vi (n := (i : Int) + 1) (by omega)) rfl fun _ => l6 _ _ _ ?_ ⟨i + 1, _, (g8), k9, ⟨rfl, rfl, rfl, rfl, rfl, rfl, trivial⟩, rfl, (by omega)⟩)
  omega
 have hu := dn
 try simp only [BS] at hu
 refine aa (aH (bp h4 rfl) rfl rfl ?_)
 rintro _ nB _ ⟨a1, rfl, (la : HS _ _ _ [_, [(b4, .cells [(iI params), (iI (9 + (i : Int))), (.slice none 0 0)] none false)], [(a1, .cells [(.slice none 0 0), (iI 0), (iI 0), (iI 0), (iI 0)] none false)]] _), _⟩
 refine ae 3 rfl (wT 2 [] 1 0 [9] [(9, (iI 0))] rfl fun _ => ?_)
 have e0 := HS.snoc la
 have e0 : HS _ _ _ [_, _, _, []] _ := e0
 let kW : Fp := [(b4, .cells [(iI params), (iI (9 + (i : Int))), (.slice none 0 0)] none false)]
 refine aj (fun (mm : Nat) f H' => ∃ (fi : List VInT) (r : Nat) (an : Fp) (E : Option Addr) (J : Nat) (F' : Fz), Fz.le F9 F' ∧ HS (Base.of H []) F' H' [b0, kW, [(a1, .cells [(.slice E fi.length J), (iI 0), (iI 0), (iI 0), (iI 0)] none false)], an] R ∧ OS F' (.slice E fi.length J) fi an ∧ aD f [(0, (.slice a_l l.length k_l)), (1, (iI params)), (4, (.pointer (some ⟨b1, 0, none⟩))), (5, (.pointer (some ⟨b4, 0, none⟩))), (6, (iI (1 + (if (5 : Int) < ((l.length / 6 : Nat) : Int) then (5 : Int) else ((l.length / 6 : Nat) : Int))))), (8, (.pointer (some ⟨a1, 0, none⟩))), (9, (iI (r : Int)))] ∧ mm = (9 + (i : Int) - (r : Int)).toNat ∧ (fi.length = r) ∧ (fi.all (eI params (9 + (i : Int))) = true) ∧ (fi.all ckI = true) ∧ (fstOK fi) ∧ ((r : Int) ≤ 9 + (i : Int))) _ ⟨([] : List VInT), 0, [], none, 0, _, fR, e0, (OS.nil : OS _ (.slice none 0 0) ([] : List VInT) []), ⟨rfl, rfl, rfl, rfl, rfl, rfl, rfl, trivial⟩, rfl, (by rfl), (by rfl), (by rfl), (by intro q hq; cases hq), (by omega)⟩ ?_
 rintro nr n4 nC ⟨fi, r, an, E, J, lO, cc, ez, ax, hK, rfl, w1, w2, w4, w5, w3⟩ lv
 refine au _ hK (fun _ => ?_)
 clear hK
 replace hT := hT.mono cc
 replace hl := hl.mono cc
 refine ah 2 rfl (wU 1 [(2, .o (iI (9 + (i : Int))))] 32 35 [] [(35, (.bool (decide ((r : Int) < 9 + (i : Int)))))] (ql 3 1 (HS.hc ez (i := 1) rfl) rfl rfl) rfl fun _ => am 4 5 (v := (decide ((r : Int) < 9 + (i : Int)))) rfl rfl rfl rfl (fun dt => ?_) (fun dt => ?_))
 ·
  have hv := dt
  try simp only [BS] at hv
  refine aa (wTo 3 0 [] 38 40 [] [(40, (.agg ⟨[(iI 13), (iI (r : Int)), (iI 0), (iI 0), (iI (r : Int))]⟩))] rfl fun _ => aH (bp ez rfl) rfl rfl ?_)
  rintro _ nD _ ⟨b2, rfl, (lb : HS _ _ _ [_, _, [(a1, .cells [(.slice E fi.length J), (iI 0), (iI 0), (iI 0), (iI 0)] none false)], an, [(b2, .cells [(iI 0), (iI 0), (iI 0), (iI 0), (iI 0)] none false)]] _), _⟩
  refine aL (aE (q := 4) lb rfl rfl rfl rfl rfl rfl rfl rfl rfl) rfl ?_
  rintro _ nE _ ⟨(h1 : HS _ _ _ [_, _, _, _, [(b2, .cells [(iI 13), (iI (r : Int)), (iI 0), (iI 0), (iI (r : Int))] none false)]] _), _⟩
  refine ae 3 rfl (wT 1 [] 41 43 [] [(43, (.bool (decide ((r : Int) < params))))] rfl fun _ => bN (fun f H' => ∃ (vo : Int) (F' : Fz), Fz.le lO F' ∧ HS (Base.of H []) F' H' [b0, kW, [(a1, .cells [(.slice E fi.length J), (iI 0), (iI 0), (iI 0), (iI 0)] none false)], an, [(b2, .cells [(iI vo), (iI (r : Int)), (iI 0), (iI 0), (iI (r : Int))] none false)]] R ∧ aD f [(0, (.slice a_l l.length k_l)), (1, (iI params)), (4, (.pointer (some ⟨b1, 0, none⟩))), (5, (.pointer (some ⟨b4, 0, none⟩))), (6, (iI (1 + (if (5 : Int) < ((l.length / 6 : Nat) : Int) then (5 : Int) else ((l.length / 6 : Nat) : Int))))), (8, (.pointer (some ⟨a1, 0, none⟩))), (9, (iI (r : Int))), (10, (.pointer (some ⟨b2, 0, none⟩)))] ∧ (vo = 13 ∨ vo = 38 ∧ (r : Int) < params)) (fun h6 => ?_) ?_)
  ·
   refine am 0 0 (v := (decide ((r : Int) < params))) rfl rfl rfl rfl (fun dv => ?_) (fun dv => ?_)
   ·
    have hw := dv
    try simp only [BS] at hw
    refine aa (wTo 3 0 [] 44 46 [] [(46, (.agg ⟨[(iI 38), (iI (r : Int)), (iI 0), (iI 0), (iI (r : Int))]⟩))] rfl fun _ => aL (aE (q := 4) h1 rfl rfl rfl rfl rfl rfl rfl rfl rfl) rfl ?_)
    rintro _ nG _ ⟨(lc : HS _ _ _ [_, _, _, _, [(b2, .cells [(iI 38), (iI (r : Int)), (iI 0), (iI 0), (iI (r : Int))] none false)]] _), _⟩
    refine ae 0 rfl ?_
    exact h6 _ _ ⟨38, _, fR, lc, ⟨rfl, rfl, rfl, rfl, rfl, rfl, rfl, rfl, trivial⟩, (by omega)⟩
   have hw := dv
   try simp only [BS] at hw
   exact h6 _ _ ⟨13, _, fR, h1, ⟨rfl, rfl, rfl, rfl, rfl, rfl, rfl, rfl, trivial⟩, (by omega)⟩
  skip
  rintro n5 nF ⟨vo, nv, hH, fd, hQ, hvo⟩
  refine au _ hQ (fun _ => ?_)
  clear hQ
  replace ax := ax.mono hH
  let kX : Value := (.agg ⟨[(iI vo), (iI (r : Int)), (iI 0), (iI 0), (iI (r : Int)), (.slice none 0 0)]⟩)
  refine ah 1 rfl (aa (wRo 4 0 [(1, .o (.slice E fi.length J)), (2, .o (.agg ⟨[(iI vo), (iI (r : Int)), (iI 0), (iI 0), (iI (r : Int))]⟩))] 47 50 [] [(48, (.slice E fi.length J)), (50, kX)] (vA (ql 46 0 (HS.hc fd (i := 2) rfl) rfl rfl) (vA (qn 50 0 5 (HS.hc fd (i := 4) rfl) rfl rfl rfl rfl) trivial)) rfl fun _ => aH (bu (α := VInT) (ps := [(0, kX)]) (cells := [(iI vo), (iI (r : Int)), (iI 0), (iI 0), (iI (r : Int)), (.slice none 0 0)]) ([(⟨(⟨vo, (r : Int), 0, 0, (r : Int)⟩ : InsT), ([] : List Int)⟩ : VInT)] : List VInT) fd rfl rfl rfl (by kernel_rfl) ⟨[(iI vo), (iI (r : Int)), (iI 0), (iI 0), (iI (r : Int)), (.slice none 0 0)], [], rfl, ⟨none, 0, rfl, by (dsimp only; omega), by (dsimp only; omega), by (dsimp only; omega), by (dsimp only; omega), by (dsimp only; omega), SR.nil⟩, rfl⟩ rfl) rfl rfl ?_))
  rintro _ nH l7 ⟨n1, og, rfl, k3, (h2 : HS _ _ _ [_, _, _, _, [(b2, .cells [(iI vo), (iI (r : Int)), (iI 0), (iI 0), (iI (r : Int))] none false)], l7] _), _⟩
  refine aH (bC (α := VInT) (q := 3) ax h2 rfl rfl rfl (OS.sv k3 h2 (i := 5) rfl) rfl rfl rfl rfl rfl rfl rfl (by (simp only [a06, a0a, a0g]; omega))) rfl rfl ?_
  rintro _ nI kV ⟨kS, kU, rfl, k4, (ld : HS _ _ _ [_, _, _, kV, _, _] _), _⟩
  refine wTo 1 6 [] 53 53 [] [(53, (.pointer (some ⟨a1, 0, none⟩)))] rfl fun _ => aL (aE (q := 2) ld rfl rfl rfl rfl rfl rfl rfl rfl rfl) rfl ?_
  rintro _ nJ _ ⟨(lf : HS _ _ _ [_, _, [(a1, .cells [(.slice kS (fi ++ ([(⟨(⟨vo, (r : Int), 0, 0, (r : Int)⟩ : InsT), ([] : List Int)⟩ : VInT)] : List VInT)).length kU), (iI 0), (iI 0), (iI 0), (iI 0)] none false)], _, _, _] _), _⟩
  refine ae 2 rfl (wU 1 [] 36 37 [9] [(9, (iI ((r : Int) + 1)))] (vi (n := (r : Int) + 1) (by omega)) rfl fun _ => lv _ _ _ ?_ ⟨fi ++ ([(⟨(⟨vo, (r : Int), 0, 0, (r : Int)⟩ : InsT), ([] : List Int)⟩ : VInT)] : List VInT), r + 1, kV, kS, kU, _, (fT (cc) hH), (HS.sub lf (a05 _ _)), k4, ⟨rfl, rfl, rfl, rfl, rfl, rfl, rfl, trivial⟩, rfl, (by simp; omega), (ee w2 (vin_ldi (by omega) (by omega))), (ee w4 (ck_ldi (by (dsimp only; omega)))), (fst_snoc w5 ⟨by rw [w1], by (dsimp only; omega)⟩), (by omega)⟩)
  omega
 have hv := dt
 try simp only [BS] at hv
 refine aa (wTo 1 0 [] 54 54 [] [(54, (.pointer (some ⟨a1, 1, none⟩)))] rfl fun _ => aL (aE (q := 2) ez rfl rfl rfl rfl rfl rfl rfl rfl rfl) rfl ?_)
 rintro _ nK _ ⟨(lh : HS _ _ _ [_, _, [(a1, .cells [(.slice E fi.length J), (iI 1), (iI 0), (iI 0), (iI 0)] none false)], an] _), _⟩
 refine wTo 1 2 [] 55 55 [] [(55, (.pointer (some ⟨a1, 3, none⟩)))] rfl fun _ => aL (aE (q := 2) lh rfl rfl rfl rfl rfl rfl rfl rfl rfl) rfl ?_
 rintro _ nL _ ⟨(f0 : HS _ _ _ [_, _, [(a1, .cells [(.slice E fi.length J), (iI 1), (iI 0), (iI 1), (iI 0)] none false)], _] _), _⟩
 let f7 : Value := (.agg ⟨[(.slice E fi.length J), (iI 1), (iI 0), (iI 1), (iI 0)]⟩)
 refine ae 2 rfl (aa (wRo 3 0 [(1, .o (.slice none 0 0)), (2, .o f7)] 56 58 [] [(57, (.slice none 0 0)), (58, f7)] (vA (ql 22 2 (HS.hc f0 (i := 1) rfl) rfl rfl) (vA (qn 48 0 5 (HS.hc f0 (i := 2) rfl) rfl rfl rfl rfl) trivial)) rfl fun _ => ?_))
 obtain ⟨hk, em, f1, k7, nm⟩ := OS.frz ax f0 (i := 3) rfl
 have f1 : HS _ _ _ [_, _, _, []] _ := f1
 refine aH (bu (α := BlkT) (ps := [(0, f7)]) (cells := [(.slice E fi.length J), (iI 1), (iI 0), (iI 1), (iI 0)]) ([(⟨fi, 1, 0, 1, 0⟩ : BlkT)] : List BlkT) f1 rfl rfl rfl (by kernel_rfl) ⟨[(.slice E fi.length J), (iI 1), (iI 0), (iI 1), (iI 0)], [], rfl, ⟨E, J, rfl, by (dsimp only; omega), by (dsimp only; omega), by (dsimp only; omega), by (dsimp only; omega), k7⟩, rfl⟩ rfl) rfl rfl ?_
 rintro _ nM dk ⟨n2, oh, rfl, k5, (lj : HS _ _ _ [_, _, _, _, dk] _), _⟩
 have c5 := HS.snoc lj
 have c5 : HS _ _ _ [_, _, _, _, _, []] _ := c5
 refine aH (bC (α := BlkT) (q := 5) (OS.nil : OS hk (.slice none 0 0) ([] : List BlkT) []) c5 rfl rfl rfl (OS.sv k5 c5 (i := 4) rfl) rfl rfl rfl rfl rfl rfl rfl (by (simp only [a06, a0a, a0g]; omega))) rfl rfl ?_
 rintro _ nN ik ⟨hn, h9, rfl, et, (ll : HS _ _ _ [_, _, _, _, _, ik] _), _⟩
 have et : OS hk (.slice hn ([(⟨fi, 1, 0, 1, 0⟩ : BlkT)] : List BlkT).length h9) ([(⟨fi, 1, 0, 1, 0⟩ : BlkT)] : List BlkT) ik := et
 refine wTo 1 5 [] 61 61 [] [(61, (.pointer (some ⟨b4, 2, none⟩)))] rfl fun _ => aL (aE (q := 1) ll rfl rfl rfl rfl rfl rfl rfl rfl rfl) rfl ?_
 rintro _ nO _ ⟨(lm : HS _ _ _ [_, [(b4, .cells [(iI params), (iI (9 + (i : Int))), (.slice hn ([(⟨fi, 1, 0, 1, 0⟩ : BlkT)] : List BlkT).length h9)] none false)], _, _, _, _] _), _⟩
 let c9 : Fp := [(a1, .cells [(.slice E fi.length J), (iI 1), (iI 0), (iI 1), (iI 0)] none false)]
 refine ae 3 rfl (wT 2 [] 1 0 [11] [(11, (iI 0))] rfl fun _ => aj (fun (mm : Nat) f H' => ∃ (bl : List BlkT) (b : Nat) (Z : Fp) (T : Option Addr) (U : Nat) (F' : Fz), Fz.le hk F' ∧ HS (Base.of H []) F' H' [b0, [(b4, .cells [(iI params), (iI (9 + (i : Int))), (.slice T bl.length U)] none false)], c9, [], dk, Z] R ∧ OS F' (.slice T bl.length U) bl Z ∧ aD f [(0, (.slice a_l l.length k_l)), (4, (.pointer (some ⟨b1, 0, none⟩))), (5, (.pointer (some ⟨b4, 0, none⟩))), (6, (iI (1 + (if (5 : Int) < ((l.length / 6 : Nat) : Int) then (5 : Int) else ((l.length / 6 : Nat) : Int))))), (11, (iI (b : Int)))] ∧ mm = ((1 + (if (5 : Int) < ((l.length / 6 : Nat) : Int) then (5 : Int) else ((l.length / 6 : Nat) : Int))) - (b : Int)).toNat ∧ (bl.length = b + 1) ∧ (bl.all (kD params (9 + (i : Int)) ((1 + (if (5 : Int) < ((l.length / 6 : Nat) : Int) then (5 : Int) else ((l.length / 6 : Nat) : Int))) + 1)) = true) ∧ (∀ y ∈ bl, y.ins.length ≤ 11) ∧ (bl.all (fun y => y.ins.all ckI) = true) ∧ (bl.getD 0 default = ⟨fi, 1, 0, 1, 0⟩) ∧ ((b : Int) ≤ (1 + (if (5 : Int) < ((l.length / 6 : Nat) : Int) then (5 : Int) else ((l.length / 6 : Nat) : Int))))) _ ⟨([(⟨fi, 1, 0, 1, 0⟩ : BlkT)] : List BlkT), 0, ik, hn, h9, _, fR, lm, et, ⟨rfl, rfl, rfl, rfl, rfl, trivial⟩, rfl, (by rfl), (ee (l := []) rfl (blk_mk w2 (by omega))), (ins_snoc (l := []) (by simp) (by (dsimp only; omega))), (ee (l := []) rfl w4), (by rfl), (by omega)⟩ ?_)
 rintro ns n6 nP ⟨bl, b, Z, T, U, lP, ch, f2, V, hR, rfl, e1, e2, e3, e5, e6, e4⟩ lw
 refine au _ hR (fun _ => ?_)
 clear hR
 replace hT := (hT.mono em).mono ch
 replace hl := (hl.mono em).mono ch
 refine ah 2 rfl (wT 1 [] 62 64 [] [(64, (.bool (decide ((b : Int) < 1 + (if (5 : Int) < ((l.length / 6 : Nat) : Int) then (5 : Int) else ((l.length / 6 : Nat) : Int))))))] rfl fun _ => am 4 5 (v := (decide ((b : Int) < 1 + (if (5 : Int) < ((l.length / 6 : Nat) : Int) then (5 : Int) else ((l.length / 6 : Nat) : Int))))) rfl rfl rfl rfl (fun d1 => ?_) (fun d1 => ?_))
 ·
  have hz := d1
  try simp only [BS] at hz
  refine aa (aH (bp f2 rfl) rfl rfl ?_)
  rintro _ nQ _ ⟨N, rfl, (ln : HS _ _ _ [_, [(b4, .cells [(iI params), (iI (9 + (i : Int))), (.slice T bl.length U)] none false)], _, _, _, Z, [(N, .cells [(.slice none 0 0), (iI 0), (iI 0), (iI 0), (iI 0)] none false)]] _), _⟩
  refine ae 3 rfl (wT 2 [] 1 0 [13] [(13, (iI 0))] rfl fun _ => ?_)
  have f3 := HS.snoc ln
  have f3 : HS _ _ _ [_, _, _, _, _, _, _, []] _ := f3
  let f8 : Fp := [(b4, .cells [(iI params), (iI (9 + (i : Int))), (.slice T bl.length U)] none false)]
  refine aj (fun (mm : Nat) f H' => ∃ (xi : List VInT) (k : Nat) (ad : Fp) (z : Option Addr) (A : Nat) (F' : Fz), Fz.le lP F' ∧ HS (Base.of H []) F' H' [b0, f8, c9, [], dk, Z, [(N, .cells [(.slice z xi.length A), (iI 0), (iI 0), (iI 0), (iI 0)] none false)], ad] R ∧ OS F' (.slice z xi.length A) xi ad ∧ aD f [(0, (.slice a_l l.length k_l)), (4, (.pointer (some ⟨b1, 0, none⟩))), (5, (.pointer (some ⟨b4, 0, none⟩))), (6, (iI (1 + (if (5 : Int) < ((l.length / 6 : Nat) : Int) then (5 : Int) else ((l.length / 6 : Nat) : Int))))), (11, (iI (b : Int))), (12, (.pointer (some ⟨N, 0, none⟩))), (13, (iI (k : Int)))] ∧ mm = 5 - k ∧ (xi.length = k) ∧ (xi.all (eI params (9 + (i : Int))) = true) ∧ (xi.all ckI = true) ∧ (k ≤ 5)) _ ⟨([] : List VInT), 0, [], none, 0, _, fR, f3, (OS.nil : OS _ (.slice none 0 0) ([] : List VInT) []), ⟨rfl, rfl, rfl, rfl, rfl, rfl, rfl, trivial⟩, rfl, (by rfl), (by rfl), (by rfl), (by omega)⟩ ?_
  rintro nt n7 kz ⟨xi, k, ad, z, A, nw, bk, ay, Y, hS, rfl, z1, z2, z4, z3⟩ lz
  refine au _ hS (fun _ => ?_)
  clear hS
  replace hT := hT.mono bk
  replace hl := hl.mono bk
  replace V := V.mono bk
  refine ah 2 rfl (wR 1 [] 67 77 [] [(77, (.bool ((decide ((k : Int) < 5)) && (decide ((6 * (b : Int)) + (k : Int) < (l.length : Int))))))] (vA (fun (g1 : (decide ((k : Int) < 5)) = true) => (vi (n := 6 * (b : Int)) (by (try simp only [BS] at g1); (first | omega | (dsimp only; omega))))) (vA (fun (g1 : (decide ((k : Int) < 5)) = true) => (vi (n := (6 * (b : Int)) + (k : Int)) (by (try simp only [BS] at g1); (first | omega | (dsimp only; omega))))) trivial)) rfl fun _ => am 3 5 (v := ((decide ((k : Int) < 5)) && (decide ((6 * (b : Int)) + (k : Int) < (l.length : Int))))) rfl rfl rfl rfl (fun d2 => ?_) (fun d2 => ?_))
  ·
   have hA := d2
   try simp only [BS] at hA
   refine aY rfl (wfv (v := (.pointer (some ⟨N, 0, none⟩))) (dG rfl rfl) (aB (v := (.slice z xi.length A)) (id := .l N) (bt (i := 0) rfl rfl (HS.hc ay.log0 (i := 6) rfl) rfl rfl) rfl rfl (bG rfl) (kb rfl) (fm (.slice a_l l.length k_l) rfl rfl rfl (fm (iI (b : Int)) rfl rfl rfl (wfv (v := (iI (6 * (b : Int)))) (ap_mul rfl rfl (w_i64 (n := 6 * (b : Int)) (by omega))) (fm (iI (k : Int)) rfl rfl rfl (wfv (v := (iI ((6 * (b : Int)) + (k : Int)))) (ap_add rfl rfl (w_i64 (n := (6 * (b : Int)) + (k : Int)) (by omega))) (wfv (v := (.pointer (some ⟨sB (.slice a_l l.length k_l), sO (.slice a_l l.length k_l) + ((6 * b) + k) * Rp.sz Int, none⟩))) (bd (α := Int) (j := (6 * (b : Int)) + (k : Int)) rfl rfl rfl rfl (SR.sv hl ay.log0) (by omega) (by omega)) ?_))))))))
   obtain ⟨m8, k8, k0⟩ := Sv.at (SR.sv hl ay.log0) (aK (x := (0 : Int)) (show (6 * b) + k < l.length from by omega))
   obtain ⟨rfl, mr⟩ := k8
   refine aB (v := (iI (l.getD ((6 * b) + k) 0))) (id := .l (sB (.slice a_l l.length k_l))) (bt (i := 0) rfl rfl k0 rfl rfl) rfl rfl (bG rfl) (kb rfl) (aB (v := (.agg ⟨[(iI params), (iI (9 + (i : Int))), (.slice T bl.length U)]⟩)) (id := .l b4) (dL (i := 0) rfl rfl rfl (HS.hc ay.log0 (i := 1) rfl) rfl rfl rfl) rfl rfl (bG rfl) (kb rfl) (bj (W := []) (ap rfl rfl rfl) rfl rfl rfl (m4.vi_c ex (l.getD ((6 * b) + k) 0) (⟨params, 9 + (i : Int), bl⟩ : VFnT) (HS.call ay.log0) (by omega) (by (dsimp only; omega)) (by (dsimp only; omega)) hT (by (dsimp only; omega))) (⟨.inl rfl, ⟨.inl rfl, ⟨.inl rfl, ⟨.inl rfl, ⟨.inl rfl, ⟨.inl rfl, ⟨.inl rfl, ⟨.inl rfl, ⟨.inr a0f, ⟨.inr trivial, trivial⟩⟩⟩⟩⟩⟩⟩⟩⟩⟩) ?_))
   rintro _ lS ⟨ag, a4, a5, nx, hI, a0, rfl, lJ, lK, lL, lM, lN, hj, ob, nl⟩
   refine ⟨Wr.did a0.log, fun lA ja => ?_⟩
   replace a0 := HS.back ay.log0 rfl a0
   replace a0 := HS.lg a0 ay ja
   generalize ({ lS with log := lA } : Heap) = mW at a0 ⊢
   have a0 : HS _ _ _ [_, _, _, _, _, _, [(N, .cells [(.slice z xi.length A), (iI 0), (iI 0), (iI 0), (iI 0)] none false)], ad] _ := a0
   replace Y := Y.mono hI
   refine cg (id := .a) (bu (α := VInT) (ps := [(0, (.agg ⟨[(iI ag.i.op), (iI ag.i.a), (iI ag.i.b), (iI ag.i.c), (iI ag.i.n), (.slice a4 ag.args.length a5)]⟩))]) (cells := [(iI ag.i.op), (iI ag.i.a), (iI ag.i.b), (iI ag.i.c), (iI ag.i.n), (.slice a4 ag.args.length a5)]) ([ag] : List VInT) a0.log0 rfl rfl rfl (by kernel_rfl) ⟨[(iI ag.i.op), (iI ag.i.a), (iI ag.i.b), (iI ag.i.c), (iI ag.i.n), (.slice a4 ag.args.length a5)], [], rfl, ⟨a4, a5, rfl, by omega, by omega, by omega, by omega, by omega, hj⟩, rfl⟩ rfl) rfl rfl (fun _ _ _ _ => km rfl rfl rfl) (kb rfl) ?_
   rintro _ lT l8 ⟨n3, oi, rfl, k6, a2, _⟩ lB jb
   replace a2 := HS.lg a2 a0 jb
   generalize ({ lT with log := lB } : Heap) = mX at a2 ⊢
   have a2 : HS _ _ _ [_, _, _, _, _, _, _, _, l8] _ := a2
   refine cg (id := .x (ad.map Prod.fst)) (bC (α := VInT) (q := 7) Y a2.log0 rfl rfl rfl (OS.sv k6 a2.log0 (i := 8) rfl) rfl rfl rfl rfl rfl rfl rfl (by (simp only [a06, a0a, a0g]; omega))) rfl rfl (by rintro _ _ il ⟨hr, ib, rfl, hX, _, hwr⟩; exact cz rfl rfl (Wr.did hwr)) (kb rfl) ?_
   rintro _ lU il ⟨hr, ib, rfl, hX, a3, _⟩ lC jc
   replace a3 := HS.lg a3 a2 jc
   generalize ({ lU with log := lC } : Heap) = mY at a3 ⊢
   have a3 : HS _ _ _ [_, _, _, _, _, _, _, il, _] _ := a3
   refine wfv (v := (.pointer (some ⟨N, 0, none⟩))) (dG rfl rfl) (iu (id := .x [N]) (aE (q := 6) a3.log0 rfl rfl rfl rfl rfl rfl rfl rfl rfl) rfl (by rintro _ _ _ ⟨_, hwr⟩; exact cz rfl rfl (Wr.did hwr)) (kb rfl) ?_)
   rintro _ lV _ ⟨a6, _⟩ lD jq
   replace a6 := HS.lg a6 a3 jq
   generalize ({ lV with log := lD } : Heap) = mZ at a6 ⊢
   have a6 : HS _ _ _ [_, _, _, _, _, _, [(N, .cells [(.slice hr (xi ++ ([ag] : List VInT)).length ib), (iI 0), (iI 0), (iI 0), (iI 0)] none false)], _, _] _ := a6
   refine cu (ah 2 rfl (wU 1 [] 78 79 [13] [(13, (iI ((k : Int) + 1)))] (vi (n := (k : Int) + 1) (by omega)) rfl fun _ => lz _ _ _ ?_ ⟨xi ++ ([ag] : List VInT), k + 1, il, hr, ib, _, (fT (bk) hI), (HS.sub a6 (a05 _ _)), hX, ⟨rfl, rfl, rfl, rfl, rfl, rfl, rfl, trivial⟩, rfl, (by simp; omega), (ee z2 (by assumption)), (ee z4 (by assumption)), (by omega)⟩))
   omega
  have hA := d2
  try simp only [BS] at hA
  refine wT 3 [] 1 0 [14] [(14, (iI 0))] rfl fun _ => wR 1 [] 94 99 [] [(99, (.bool (decide ((6 * (b : Int)) + 5 < (l.length : Int)))))] (vA (vi (n := 6 * (b : Int)) (by omega)) (vA (vi (n := (6 * (b : Int)) + 5) (by omega)) trivial)) rfl fun _ => bN (fun f H' => ∃ (nn : Int), H' = kz ∧ aD f [(0, (.slice a_l l.length k_l)), (4, (.pointer (some ⟨b1, 0, none⟩))), (5, (.pointer (some ⟨b4, 0, none⟩))), (6, (iI (1 + (if (5 : Int) < ((l.length / 6 : Nat) : Int) then (5 : Int) else ((l.length / 6 : Nat) : Int))))), (11, (iI (b : Int))), (12, (.pointer (some ⟨N, 0, none⟩))), (14, (iI nn))] ∧ (in64 nn)) (fun h7 => ?_) ?_
  ·
   refine am 0 0 (v := (decide ((6 * (b : Int)) + 5 < (l.length : Int)))) rfl rfl rfl rfl (fun d3 => ?_) (fun d3 => ?_)
   ·
    have hB := d3
    try simp only [BS] at hB
    obtain ⟨m7, h5⟩ := Sv.view (SR.sv hl ay)
    have oa := fI (h5 ((6 * b) + 5))
    refine wR 0 [(5, .o (iI (l.getD ((6 * b) + 5) 0)))] 100 105 [14] [(14, (iI (l.getD ((6 * b) + 5) 0)))] (vA (vi (n := 6 * (b : Int)) (by omega)) (vA (vi (n := (6 * (b : Int)) + 5) (by omega)) (vA (Sv.ix (j := (6 * (b : Int)) + 5) (SR.sv hl ay) (by omega) (by omega)) (vA (ql 3 0 (vI (h5 ((6 * b) + 5)) (by omega)) rfl rfl) trivial)))) rfl fun _ => ?_
    exact h7 _ _ ⟨(l.getD ((6 * b) + 5) 0), rfl, ⟨rfl, rfl, rfl, rfl, rfl, rfl, rfl, trivial⟩, (by omega)⟩
   have hB := d3
   try simp only [BS] at hB
   exact h7 _ _ ⟨0, rfl, ⟨rfl, rfl, rfl, rfl, rfl, rfl, rfl, trivial⟩, (by omega)⟩
  skip
  rintro n8 kz ⟨nn, rfl, hV, hnn⟩
  refine au _ hV (fun _ => ?_)
  clear hV
  refine ah 2 rfl (aa (wTo 2 0 [] 106 107 [] [(107, (.agg ⟨[(iI nn)]⟩))] rfl fun _ => aH (bw ay rfl rfl) rfl rfl ?_))
  rintro _ nR _ ⟨al, rfl, (h3 : HS _ _ _ [_, _, _, _, _, _, [(N, .cells [(.slice z xi.length A), (iI 0), (iI 0), (iI 0), (iI 0)] none false)], ad, [(al, .cells [(iI nn)] none false)]] _), _⟩
  refine wa (.pointer (some ⟨al, 0, none⟩)) rfl rfl rfl (ae 3 rfl (aa (wm (.pointer (some ⟨al, 0, none⟩)) rfl rfl rfl (az (ap rfl rfl rfl) rfl rfl (m4.cv ex (⟨nn⟩ : DigT) (6) (HS.callOwn h3 (i := 8) rfl) (by omega) (by omega) hT (by omega)) ?_))))
  rintro _ nS ⟨b3, bb, lQ, ci, ar, rfl, l0, oc⟩
  replace ar : HS _ _ _ [_, _, _, _, _, _, _, _, [(al, .cells [(iI bb.n)] none false)]] _ := HS.backOwn h3 (i := 8) rfl rfl (fun _ hb => hb) ar
  replace hT := hT.mono ci
  replace V := V.mono ci
  replace Y := Y.mono ci
  refine ae 3 rfl (wT 1 [] 127 128 [] [(127, (.bool (b3 == 0)))] rfl fun _ => bN (fun f H' => ∃ (xe : Int) (xg : Int) (xt : Int) (xf : Int) (dd : DigT) (F' : Fz), Fz.le lQ F' ∧ HS (Base.of H []) F' H' [b0, f8, c9, [], dk, Z, [(N, .cells [(.slice z xi.length A), (iI xe), (iI xg), (iI xt), (iI xf)] none false)], ad, [(al, .cells [(iI dd.n)] none false)]] R ∧ aD f [(0, (.slice a_l l.length k_l)), (4, (.pointer (some ⟨b1, 0, none⟩))), (5, (.pointer (some ⟨b4, 0, none⟩))), (6, (iI (1 + (if (5 : Int) < ((l.length / 6 : Nat) : Int) then (5 : Int) else ((l.length / 6 : Nat) : Int))))), (11, (iI (b : Int))), (12, (.pointer (some ⟨N, 0, none⟩)))] ∧ ((xe = 1 ∧ 0 ≤ xt ∧ xt < ((1 + (if (5 : Int) < ((l.length / 6 : Nat) : Int) then (5 : Int) else ((l.length / 6 : Nat) : Int)))) + 1 ∧ xf = 0 ∧ xg = 0 ∨ xe = 2 ∧ 0 ≤ xt ∧ xt < ((1 + (if (5 : Int) < ((l.length / 6 : Nat) : Int) then (5 : Int) else ((l.length / 6 : Nat) : Int)))) + 1 ∧ 0 ≤ xf ∧ xf < ((1 + (if (5 : Int) < ((l.length / 6 : Nat) : Int) then (5 : Int) else ((l.length / 6 : Nat) : Int)))) + 1 ∧ 0 ≤ xg ∧ xg < 9 + (i : Int) ∨ xe = 3 ∧ 0 ≤ xg ∧ xg < 9 + (i : Int) ∧ xt = 0 ∧ xf = 0 ∨ xe = 4 ∧ 1 ≤ xt ∧ xt < 33554432 ∧ xf = 0 ∧ xg = 0)) ∧ (in64 dd.n)) (fun c6 => ?_) ?_)
  ·
   refine am 0 1 (v := (b3 == 0)) rfl rfl rfl rfl (fun d4 => ?_) (fun d4 => ?_)
   ·
    have hC := d4
    try simp only [BS] at hC
    refine aa (wTo 2 0 [] 129 130 [] [(129, (.pointer (some ⟨al, 0, none⟩))), (130, (iI (1 + (if (5 : Int) < ((l.length / 6 : Nat) : Int) then (5 : Int) else ((l.length / 6 : Nat) : Int)))))] rfl fun _ => az (ap rfl rfl rfl) rfl rfl (m4.cv ex (⟨bb.n⟩ : DigT) (1 + (if (5 : Int) < ((l.length / 6 : Nat) : Int) then (5 : Int) else ((l.length / 6 : Nat) : Int))) (HS.callOwn ar (i := 8) rfl) (by omega) (by omega) hT (by omega)) ?_)
    rintro _ nU ⟨hg, hF, ny, kY, f5, rfl, l1, od⟩
    replace f5 : HS _ _ _ [_, _, _, _, _, _, _, _, [(al, .cells [(iI hF.n)] none false)]] _ := HS.backOwn ar (i := 8) rfl rfl (fun _ hb => hb) f5
    refine wUo 2 3 [] 132 133 [] [(132, (iI (1 + hg))), (133, (.pointer (some ⟨N, 1, none⟩)))] (vi (n := 1 + hg) (by omega)) rfl fun _ => aL (aE (q := 6) f5 rfl rfl rfl rfl rfl rfl rfl rfl rfl) rfl ?_
    rintro _ nV _ ⟨(lp : HS _ _ _ [_, _, _, _, _, _, [(N, .cells [(.slice z xi.length A), (iI 1), (iI 0), (iI 0), (iI 0)] none false)], _, _] _), _⟩
    refine wTo 1 6 [] 134 134 [] [(134, (.pointer (some ⟨N, 3, none⟩)))] rfl fun _ => aL (aE (q := 6) lp rfl rfl rfl rfl rfl rfl rfl rfl rfl) rfl ?_
    rintro _ nW _ ⟨(lq : HS _ _ _ [_, _, _, _, _, _, [(N, .cells [(.slice z xi.length A), (iI 1), (iI 0), (iI (1 + hg)), (iI 0)] none false)], _, _] _), _⟩
    refine ae 0 rfl ?_
    exact c6 _ _ ⟨1, 0, 1 + hg, 0, (⟨hF.n⟩ : DigT), _, (kY), lq, ⟨rfl, rfl, rfl, rfl, rfl, rfl, trivial⟩, (by omega), (by omega)⟩
   have hC := d4
   try simp only [BS] at hC
   refine wT 1 [] 135 136 [] [(135, (.bool (b3 == 1)))] rfl fun _ => am 0 1 (v := (b3 == 1)) rfl rfl rfl rfl (fun ea => ?_) (fun ea => ?_)
   ·
    have hE := ea
    try simp only [BS] at hE
    refine aa (wm (.pointer (some ⟨al, 0, none⟩)) rfl rfl rfl (az (ap rfl rfl rfl) rfl rfl (m4.cv ex (⟨bb.n⟩ : DigT) (9) (HS.callOwn ar (i := 8) rfl) (by omega) (by omega) hT (by omega)) ?_))
    rintro _ nX ⟨hh, hG, nz, kZ, f6, rfl, l2, oe⟩
    replace f6 : HS _ _ _ [_, _, _, _, _, _, _, _, [(al, .cells [(iI hG.n)] none false)]] _ := HS.backOwn ar (i := 8) rfl rfl (fun _ hb => hb) f6
    refine wUo 2 2 [] 139 140 [] [(139, (iI (1 + hh))), (140, (.pointer (some ⟨N, 1, none⟩)))] (vi (n := 1 + hh) (by omega)) rfl fun _ => aL (aE (q := 6) f6 rfl rfl rfl rfl rfl rfl rfl rfl rfl) rfl ?_
    rintro _ nY _ ⟨(lr : HS _ _ _ [_, _, _, _, _, _, [(N, .cells [(.slice z xi.length A), (iI 4), (iI 0), (iI 0), (iI 0)] none false)], _, _] _), _⟩
    refine wTo 1 5 [] 141 141 [] [(141, (.pointer (some ⟨N, 3, none⟩)))] rfl fun _ => aL (aE (q := 6) lr rfl rfl rfl rfl rfl rfl rfl rfl rfl) rfl ?_
    rintro _ nZ _ ⟨(lu : HS _ _ _ [_, _, _, _, _, _, [(N, .cells [(.slice z xi.length A), (iI 4), (iI 0), (iI (1 + hh)), (iI 0)] none false)], _, _] _), _⟩
    refine ae 0 rfl ?_
    exact c6 _ _ ⟨4, 0, 1 + hh, 0, (⟨hG.n⟩ : DigT), _, (kZ), lu, ⟨rfl, rfl, rfl, rfl, rfl, rfl, trivial⟩, (by omega), (by omega)⟩
   have hE := ea
   try simp only [BS] at hE
   refine wT 1 [] 142 143 [] [(142, (.bool (b3 == 2)))] rfl fun _ => am 0 0 (v := (b3 == 2)) rfl rfl rfl rfl (fun b6 => ?_) (fun b6 => ?_)
   ·
    have dl := b6
    try simp only [BS] at dl
    refine aa (wUo 3 0 [(2, .o (iI (9 + (i : Int))))] 144 146 [] [(144, (.pointer (some ⟨al, 0, none⟩))), (146, (iI (9 + (i : Int))))] (ql 3 1 (HS.hc ar (i := 1) rfl) rfl rfl) rfl fun _ => az (ap rfl rfl rfl) rfl rfl (m4.cv ex (⟨bb.n⟩ : DigT) (9 + (i : Int)) (HS.callOwn ar (i := 8) rfl) (by omega) (by omega) hT (by omega)) ?_)
    rintro _ mE ⟨it, g0, mw, i1, cl, rfl, lF, ng⟩
    replace cl : HS _ _ _ [_, _, _, _, _, _, _, _, [(al, .cells [(iI g0.n)] none false)]] _ := HS.backOwn ar (i := 8) rfl rfl (fun _ hb => hb) cl
    refine wTo 1 4 [] 148 148 [] [(148, (.pointer (some ⟨N, 1, none⟩)))] rfl fun _ => aL (aE (q := 6) cl rfl rfl rfl rfl rfl rfl rfl rfl rfl) rfl ?_
    rintro _ mF _ ⟨(kc : HS _ _ _ [_, _, _, _, _, _, [(N, .cells [(.slice z xi.length A), (iI 3), (iI 0), (iI 0), (iI 0)] none false)], _, _] _), _⟩
    refine wTo 1 6 [] 149 149 [] [(149, (.pointer (some ⟨N, 2, none⟩)))] rfl fun _ => aL (aE (q := 6) kc rfl rfl rfl rfl rfl rfl rfl rfl rfl) rfl ?_
    rintro _ mG _ ⟨(kd : HS _ _ _ [_, _, _, _, _, _, [(N, .cells [(.slice z xi.length A), (iI 3), (iI it), (iI 0), (iI 0)] none false)], _, _] _), _⟩
    refine ae 0 rfl ?_
    exact c6 _ _ ⟨3, it, 0, 0, (⟨g0.n⟩ : DigT), _, (i1), kd, ⟨rfl, rfl, rfl, rfl, rfl, rfl, trivial⟩, (by omega), (by omega)⟩
   have dl := b6
   try simp only [BS] at dl
   refine aa (wUo 3 0 [(2, .o (iI (9 + (i : Int))))] 111 113 [] [(111, (.pointer (some ⟨al, 0, none⟩))), (113, (iI (9 + (i : Int))))] (ql 3 1 (HS.hc ar (i := 1) rfl) rfl rfl) rfl fun _ => az (ap rfl rfl rfl) rfl rfl (m4.cv ex (⟨bb.n⟩ : DigT) (9 + (i : Int)) (HS.callOwn ar (i := 8) rfl) (by omega) (by omega) hT (by omega)) ?_)
   rintro _ mH ⟨c7, g2, mx, g5, a7, rfl, lG, nh⟩
   replace a7 : HS _ _ _ [_, _, _, _, _, _, _, _, [(al, .cells [(iI g2.n)] none false)]] _ := HS.backOwn ar (i := 8) rfl rfl (fun _ hb => hb) a7
   replace hT := hT.mono g5
   refine wTo 2 4 [] 115 116 [] [(115, (.pointer (some ⟨al, 0, none⟩))), (116, (iI (1 + (if (5 : Int) < ((l.length / 6 : Nat) : Int) then (5 : Int) else ((l.length / 6 : Nat) : Int)))))] rfl fun _ => az (ap rfl rfl rfl) rfl rfl (m4.cv ex (⟨g2.n⟩ : DigT) (1 + (if (5 : Int) < ((l.length / 6 : Nat) : Int) then (5 : Int) else ((l.length / 6 : Nat) : Int))) (HS.callOwn a7 (i := 8) rfl) (by omega) (by omega) hT (by omega)) ?_
   rintro _ mI ⟨bz, g3, my, g6, a8, rfl, lH, nj⟩
   replace a8 : HS _ _ _ [_, _, _, _, _, _, _, _, [(al, .cells [(iI g3.n)] none false)]] _ := HS.backOwn a7 (i := 8) rfl rfl (fun _ hb => hb) a8
   replace hT := hT.mono g6
   refine wUo 3 7 [] 118 120 [] [(118, (iI (1 + bz))), (119, (.pointer (some ⟨al, 0, none⟩))), (120, (iI (1 + (if (5 : Int) < ((l.length / 6 : Nat) : Int) then (5 : Int) else ((l.length / 6 : Nat) : Int)))))] (vi (n := 1 + bz) (by omega)) rfl fun _ => az (ap rfl rfl rfl) rfl rfl (m4.cv ex (⟨g3.n⟩ : DigT) (1 + (if (5 : Int) < ((l.length / 6 : Nat) : Int) then (5 : Int) else ((l.length / 6 : Nat) : Int))) (HS.callOwn a8 (i := 8) rfl) (by omega) (by omega) hT (by omega)) ?_
   rintro _ mJ ⟨c8, g4, mz, i2, co, rfl, lI, nk⟩
   replace co : HS _ _ _ [_, _, _, _, _, _, _, _, [(al, .cells [(iI g4.n)] none false)]] _ := HS.backOwn a8 (i := 8) rfl rfl (fun _ hb => hb) co
   refine wUo 2 11 [] 122 123 [] [(122, (iI (1 + c8))), (123, (.pointer (some ⟨N, 1, none⟩)))] (vi (n := 1 + c8) (by omega)) rfl fun _ => aL (aE (q := 6) co rfl rfl rfl rfl rfl rfl rfl rfl rfl) rfl ?_
   rintro _ mK _ ⟨(kg : HS _ _ _ [_, _, _, _, _, _, [(N, .cells [(.slice z xi.length A), (iI 2), (iI 0), (iI 0), (iI 0)] none false)], _, _] _), _⟩
   refine wTo 1 14 [] 124 124 [] [(124, (.pointer (some ⟨N, 2, none⟩)))] rfl fun _ => aL (aE (q := 6) kg rfl rfl rfl rfl rfl rfl rfl rfl rfl) rfl ?_
   rintro _ mL _ ⟨(ki : HS _ _ _ [_, _, _, _, _, _, [(N, .cells [(.slice z xi.length A), (iI 2), (iI c7), (iI 0), (iI 0)] none false)], _, _] _), _⟩
   refine wTo 1 16 [] 125 125 [] [(125, (.pointer (some ⟨N, 3, none⟩)))] rfl fun _ => aL (aE (q := 6) ki rfl rfl rfl rfl rfl rfl rfl rfl rfl) rfl ?_
   rintro _ mM _ ⟨(kk : HS _ _ _ [_, _, _, _, _, _, [(N, .cells [(.slice z xi.length A), (iI 2), (iI c7), (iI (1 + bz)), (iI 0)] none false)], _, _] _), _⟩
   refine wTo 1 18 [] 126 126 [] [(126, (.pointer (some ⟨N, 4, none⟩)))] rfl fun _ => aL (aE (q := 6) kk rfl rfl rfl rfl rfl rfl rfl rfl rfl) rfl ?_
   rintro _ mN _ ⟨(kl : HS _ _ _ [_, _, _, _, _, _, [(N, .cells [(.slice z xi.length A), (iI 2), (iI c7), (iI (1 + bz)), (iI (1 + c8))] none false)], _, _] _), _⟩
   refine ae 0 rfl ?_
   exact c6 _ _ ⟨2, c7, 1 + bz, 1 + c8, (⟨g4.n⟩ : DigT), _, (fT (fT (g5) g6) i2), kl, ⟨rfl, rfl, rfl, rfl, rfl, rfl, trivial⟩, (by omega), (by omega)⟩
  skip
  rintro n9 nT ⟨xe, xg, xt, xf, dd, lR, es, f4, hW, hD, hdd⟩
  refine au _ hW (fun _ => ?_)
  clear hW
  replace V := V.mono es
  replace Y := Y.mono es
  refine ah 4 rfl (wR 1 [(6, .o (iI xe))] 150 158 [] [(158, (.bool (((b : Int) == (1 + (if (5 : Int) < ((l.length / 6 : Nat) : Int) then (5 : Int) else ((l.length / 6 : Nat) : Int))) - 1) && (xe == 1))))] (vA (vi (n := (1 + (if (5 : Int) < ((l.length / 6 : Nat) : Int) then (5 : Int) else ((l.length / 6 : Nat) : Int))) - 1) (by omega)) (vA (fun (g1 : ((b : Int) == (1 + (if (5 : Int) < ((l.length / 6 : Nat) : Int) then (5 : Int) else ((l.length / 6 : Nat) : Int))) - 1) = true) => (ql 3 1 (HS.hc f4 (i := 6) rfl) rfl rfl)) trivial)) rfl fun _ => bN (fun f H' => ∃ (ye : Int) (yg : Int) (yt : Int) (F' : Fz), Fz.le lR F' ∧ HS (Base.of H []) F' H' [b0, f8, c9, [], dk, Z, [(N, .cells [(.slice z xi.length A), (iI ye), (iI yg), (iI yt), (iI xf)] none false)], ad, [(al, .cells [(iI dd.n)] none false)]] R ∧ aD f [(0, (.slice a_l l.length k_l)), (4, (.pointer (some ⟨b1, 0, none⟩))), (5, (.pointer (some ⟨b4, 0, none⟩))), (6, (iI (1 + (if (5 : Int) < ((l.length / 6 : Nat) : Int) then (5 : Int) else ((l.length / 6 : Nat) : Int))))), (11, (iI (b : Int))), (12, (.pointer (some ⟨N, 0, none⟩)))] ∧ ((ye = 1 ∧ 0 ≤ yt ∧ yt < ((1 + (if (5 : Int) < ((l.length / 6 : Nat) : Int) then (5 : Int) else ((l.length / 6 : Nat) : Int)))) + 1 ∧ xf = 0 ∧ yg = 0 ∨ ye = 2 ∧ 0 ≤ yt ∧ yt < ((1 + (if (5 : Int) < ((l.length / 6 : Nat) : Int) then (5 : Int) else ((l.length / 6 : Nat) : Int)))) + 1 ∧ 0 ≤ xf ∧ xf < ((1 + (if (5 : Int) < ((l.length / 6 : Nat) : Int) then (5 : Int) else ((l.length / 6 : Nat) : Int)))) + 1 ∧ 0 ≤ yg ∧ yg < 9 + (i : Int) ∨ ye = 3 ∧ 0 ≤ yg ∧ yg < 9 + (i : Int) ∧ yt = 0 ∧ xf = 0 ∨ ye = 4 ∧ 1 ≤ yt ∧ yt < 33554432 ∧ xf = 0 ∧ yg = 0))) (fun hf => ?_) ?_)
  ·
   refine am 0 0 (v := (((b : Int) == (1 + (if (5 : Int) < ((l.length / 6 : Nat) : Int) then (5 : Int) else ((l.length / 6 : Nat) : Int))) - 1) && (xe == 1))) rfl rfl rfl rfl (fun b7 => ?_) (fun b7 => ?_)
   ·
    have ds := b7
    try simp only [BS] at ds
    refine aa (wTo 1 0 [] 159 159 [] [(159, (.pointer (some ⟨N, 1, none⟩)))] rfl fun _ => aL (aE (q := 6) f4 rfl rfl rfl rfl rfl rfl rfl rfl rfl) rfl ?_)
    rintro _ mP _ ⟨(kn : HS _ _ _ [_, _, _, _, _, _, [(N, .cells [(.slice z xi.length A), (iI 3), (iI xg), (iI xt), (iI xf)] none false)], _, [(al, .cells [(iI dd.n)] none false)]] _), _⟩
    refine wTo 1 2 [] 160 160 [] [(160, (.pointer (some ⟨N, 3, none⟩)))] rfl fun _ => aL (aE (q := 6) kn rfl rfl rfl rfl rfl rfl rfl rfl rfl) rfl ?_
    rintro _ mQ _ ⟨(ko : HS _ _ _ [_, _, _, _, _, _, [(N, .cells [(.slice z xi.length A), (iI 3), (iI xg), (iI 0), (iI xf)] none false)], _, _] _), _⟩
    refine wTo 1 4 [] 161 161 [] [(161, (.pointer (some ⟨N, 2, none⟩)))] rfl fun _ => aL (aE (q := 6) ko rfl rfl rfl rfl rfl rfl rfl rfl rfl) rfl ?_
    rintro _ mR _ ⟨(kr : HS _ _ _ [_, _, _, _, _, _, [(N, .cells [(.slice z xi.length A), (iI 3), (iI 0), (iI 0), (iI xf)] none false)], _, _] _), _⟩
    refine ae 0 rfl ?_
    exact hf _ _ ⟨3, 0, 0, _, fR, kr, ⟨rfl, rfl, rfl, rfl, rfl, rfl, trivial⟩, (by omega)⟩
   have ds := b7
   try simp only [BS] at ds
   exact hf _ _ ⟨xe, xg, xt, _, fR, f4, ⟨rfl, rfl, rfl, rfl, rfl, rfl, trivial⟩, (by omega)⟩
  skip
  rintro ne mO ⟨ye, yg, yt, mA, b9, c0, g9, hY⟩
  refine au _ g9 (fun _ => ?_)
  clear g9
  replace Y := Y.mono b9
  let go : Value := (.agg ⟨[(.slice z xi.length A), (iI ye), (iI yg), (iI yt), (iI xf)]⟩)
  refine ah 1 rfl (aa (wRo 3 0 [(1, .o (.slice T bl.length U)), (2, .o go)] 162 164 [] [(163, (.slice T bl.length U)), (164, go)] (vA (ql 22 2 (HS.hc c0 (i := 1) rfl) rfl rfl) (vA (qn 48 0 5 (HS.hc c0 (i := 6) rfl) rfl rfl rfl rfl) trivial)) rfl fun _ => ?_))
  obtain ⟨mB, g7, c3, j1, ms⟩ := OS.frz Y c0 (i := 7) rfl
  have c3 : HS _ _ _ [_, _, _, _, _, _, [(N, .cells [(.slice z xi.length A), (iI ye), (iI yg), (iI yt), (iI xf)] none false)], [], [(al, .cells [(iI dd.n)] none false)]] _ := c3
  replace V := (V.mono b9).mono g7
  refine aH (bu (α := BlkT) (ps := [(0, go)]) (cells := [(.slice z xi.length A), (iI ye), (iI yg), (iI yt), (iI xf)]) ([(⟨xi, ye, yg, yt, xf⟩ : BlkT)] : List BlkT) c3 rfl rfl rfl (by kernel_rfl) ⟨[(.slice z xi.length A), (iI ye), (iI yg), (iI yt), (iI xf)], [], rfl, ⟨z, A, rfl, by (dsimp only; omega), by (dsimp only; omega), by (dsimp only; omega), by (dsimp only; omega), j1⟩, rfl⟩ rfl) rfl rfl ?_
  rintro _ mS lE ⟨m0, nq, rfl, jw, (ha : HS _ _ _ [_, _, _, _, _, _, _, _, _, lE] _), _⟩
  refine aH (bC (α := BlkT) (q := 5) V ha rfl rfl rfl (OS.sv jw ha (i := 9) rfl) rfl rfl rfl rfl rfl rfl rfl (by (simp only [a06, a0a, a0g]; omega))) rfl rfl ?_
  rintro _ mT ii ⟨hm, h8, rfl, j0, (kx : HS _ _ _ [_, _, _, _, _, ii, _, _, _, _] _), _⟩
  refine wTo 1 5 [] 167 167 [] [(167, (.pointer (some ⟨b4, 2, none⟩)))] rfl fun _ => aL (aE (q := 1) kx rfl rfl rfl rfl rfl rfl rfl rfl rfl) rfl ?_
  rintro _ mU _ ⟨(ky : HS _ _ _ [_, [(b4, .cells [(iI params), (iI (9 + (i : Int))), (.slice hm (bl ++ ([(⟨xi, ye, yg, yt, xf⟩ : BlkT)] : List BlkT)).length h8)] none false)], _, _, _, _, _, _, _, _] _), _⟩
  refine ae 2 rfl (wU 1 [] 65 66 [11] [(11, (iI ((b : Int) + 1)))] (vi (n := (b : Int) + 1) (by omega)) rfl fun _ => lw _ _ _ ?_ ⟨bl ++ ([(⟨xi, ye, yg, yt, xf⟩ : BlkT)] : List BlkT), b + 1, ii, hm, h8, _, (fT (fT (fT (fT (fT (ch) bk) ci) es) b9) g7), (HS.sub ky (a05 _ _)), j0, ⟨rfl, rfl, rfl, rfl, rfl, trivial⟩, rfl, (by simp; omega), (ee e2 (blk_mk z2 (by omega))), (ins_snoc e3 (by (dsimp only; omega))), (ee e5 z4), (first_snoc e6 (by omega)), (by omega)⟩)
  omega
 have hz := d1
 try simp only [BS] at hz
 let iv : Value := (.agg ⟨[(iI params), (iI (9 + (i : Int))), (.slice T bl.length U)]⟩)
 refine aa (wUo 1 0 [(0, .o iv)] 168 168 [] [(168, iv)] (qn 24 0 3 (HS.hc f2 (i := 1) rfl) rfl rfl rfl rfl) rfl fun _ => aL (aE (q := 0) f2 rfl rfl rfl rfl rfl rfl rfl rfl rfl) rfl ?_)
 rintro _ mV _ ⟨(he : HS _ _ _ [[(b1, .cells [(iI params), (iI (9 + (i : Int))), (.slice T bl.length U)] none false)], [(b4, .cells [(iI params), (iI (9 + (i : Int))), (.slice T bl.length U)] none false)], _, _, _, Z] _), _⟩
 refine ae 1 rfl ?_
 obtain ⟨mC, i3, c4, j2, mu⟩ := OS.frz V he (i := 5) rfl
 have c4 : HS _ _ _ [_, _, _, _, _, []] _ := c4
 refine ak ⟨.inr rfl, _, (rC rfl (ldVN rfl rfl (HS.hc he (i := 0) rfl) rfl) rN), (⟨params, 9 + (i : Int), bl⟩ : VFnT), T, U, _, (fT (fT (fT (fT (g8) cc) em) ch) i3), (HS.forget c4), rfl, (by (dsimp only; omega)), (by (dsimp only; omega)), j2, (⟨val_mk (by omega) (by omega) e2, rfl, by (dsimp only; omega), ⟨by (dsimp only; omega), by (dsimp only; omega)⟩, ins_at e3, e5, fi, e6, by (dsimp only; omega), w5⟩)⟩
end Go.Proofs.YtknafdcgpaejlaaDoor.m5
