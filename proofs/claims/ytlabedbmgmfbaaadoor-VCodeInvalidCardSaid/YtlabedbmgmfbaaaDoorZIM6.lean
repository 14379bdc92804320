/-
 Sets of registers as ascending lists, comparisons of results: the reference, function by function, each by a symbolic run. No condition but bounds on lengths.
-/
import Derived.Test.YtlabedbmgmfbaaaDoorZIM5
import Derived.Test.YtlabedbmgmfbaaaDoorZIRC
noncomputable section
namespace Go.Proofs.YtlabedbmgmfbaaaDoor.m6
open Go.R
set_option maxRecDepth 10000
set_option linter.unusedVariables false
open m1 m2 m3 m4 m5
def preV (l : List Int) (n : Int) : Nat := (l.takeWhile (fun x => decide (x < n))).length
def insV (l : List Int) (n : Int) : List Int := if preV l n < l.length ∧ l.getD (preV l n) 0 = n then l else l.take (preV l n) ++ [n] ++ l.drop (preV l n)
def conV (l : List Int) (n : Int) : Bool := l.any (fun x => decide (x = n))
theorem same_yes {a b : List Int} (hl : a.length = b.length) {k : Nat} (h : ∀ j, j < k → a.getD j 0 = b.getD j 0) (hk : a.length ≤ k) : true = decide (a = b) := by
 symm; apply decide_eq_true
 apply List.ext_getElem hl
 intro j z A
 have := h j (by omega)
 rwa [List.getD_eq_getElem?_getD, List.getD_eq_getElem?_getD, List.getElem?_eq_getElem z, List.getElem?_eq_getElem A] at this
theorem lt_succ {p : Nat → Prop} {k : Nat} (h : ∀ j, j < k → p j) (c : p k) : ∀ j, j < k + 1 → p j := fun j hj => by
 rcases Nat.lt_succ_iff_lt_or_eq.1 hj with z | rfl
 ·
  exact h j z
 ·
  exact c
theorem vfuncs_c (ex : FuncId) {a_l : Option Addr} {k_l : Nat} (l : List Int) {a_m : Option Addr} {k_m : Nat} (m : List Int) {F : Fz} {H : Heap} {R : List Fp} (hs : HS (.of H []) F H [] R) (hl : SR F (.slice a_l l.length k_l) l) (hm : SR F (.slice a_m m.length k_m) m) (hT : TB 37 tabC F) : C Tryd.prog 1 (KT 60 ex 37 tabC) 32 [(.slice a_l l.length k_l), (.slice a_m m.length k_m)] H fun v H' => ∃ (ap : Option Addr) (kp : Nat) (p : List VFnT) (aq : Option Addr) (kq : Nat) (q : List Int) (F' : Fz), Fz.le F F' ∧ HS (.of H []) F' H' [] R ∧ v = .tuple ⟨[.slice ap p.length kp, .slice aq q.length kq]⟩ ∧ SR F' (.slice ap p.length kp) p ∧ SR F' (.slice aq q.length kq) q ∧ q = [3, 2] ∧ (p.length = 2 ∧ vfG (p.getD 0 default) 2 ∧ vfG (p.getD 1 default) 1) := by
 refine aJ Tryd.func32 rfl rfl ?_
 refine ao 1 rfl ?_
 refine wR 2 [] 4 5 [] [(4, (.slice none 0 0)), (5, (.slice none 0 0))] trivial rfl fun _ => ?_
 refine aG rfl ?_
 refine fm (.slice a_l l.length k_l) rfl rfl rfl ?_
 refine fm (.slice a_l l.length k_l) rfl rfl rfl ?_
 refine au (v := (iI (l.length : Int))) (id := .v) (kT (α := Int) rfl rfl (SR.sv hl hs.log0)) rfl rfl (kI rfl) (okD_v _) ?_
 refine au (v := (iI (if (36 : Int) < (l.length : Int) then (36 : Int) else (l.length : Int)))) (id := .x []) (pmm_ok (w := true) rfl rfl rfl) rfl rfl (cE (W := []) rfl rfl fun b hb => absurd hb List.not_mem_nil) (kb rfl) ?_
 refine dJ (id := .q fun b => F b ≠ none) (rs_cutt (α := Int) (j := (if (36 : Int) < (l.length : Int) then (36 : Int) else (l.length : Int)).toNat) hl hs.log0 rfl rfl rfl (optN (by omega)) (by omega)) rfl rfl (by rintro _ _ _ ⟨_, _, _, hH, _⟩; exact did_q rfl (SR.q hl)) (kb rfl) ?_
 rintro _ _ _ ⟨a2, k2, rfl, a0, c5⟩ c9 b2
 simp only at a0; replace a0 := a0.symm; subst a0
 have a3 := HS.lg hs.log0 hs b2
 generalize ({ { H with log := [] } with log := c9 } : Heap) = e0 at a3 ⊢
 refine bg (W := []) (aw rfl rfl rfl) rfl rfl rfl (m5.vf_c ex (l.take (if (36 : Int) < (l.length : Int) then (36 : Int) else (l.length : Int)).toNat) (2) (HS.call a3.log0) c5 hT (by omega) (by (simp only [List.length_take]; omega))) (kb rfl) ?_
 rintro _ H3 ⟨O, T, U, F3, bb, z, rfl, co, cv, V, h3⟩
 refine ⟨Wr.did z.log, fun dd b3 => ?_⟩
 replace z := HS.back a3.log0 rfl z
 replace z := HS.lg z a3 b3
 generalize ({ H3 with log := dd } : Heap) = cd at z ⊢
 have z : HS _ _ _ [] _ := z
 replace hT := hT.mono bb
 replace hm := hm.mono bb
 refine fm (.slice a_m m.length k_m) rfl rfl rfl ?_
 refine fm (.slice a_m m.length k_m) rfl rfl rfl ?_
 refine au (v := (iI (m.length : Int))) (id := .v) (kT (α := Int) rfl rfl (SR.sv hm z.log0)) rfl rfl (kI rfl) (okD_v _) ?_
 refine au (v := (iI (if (18 : Int) < (m.length : Int) then (18 : Int) else (m.length : Int)))) (id := .x []) (pmm_ok (w := true) rfl rfl rfl) rfl rfl (cE (W := []) rfl rfl fun b hb => absurd hb List.not_mem_nil) (⟨.inl rfl, ⟨.inl rfl, ⟨.inr trivial, ⟨.inr ⟨trivial, trivial⟩, ⟨.inr (fun b hb => absurd hb List.not_mem_nil), ⟨.inr ⟨trivial, trivial⟩, ⟨.inr trivial, ⟨.inr trivial, ⟨.inr trivial, trivial⟩⟩⟩⟩⟩⟩⟩⟩⟩) ?_
 refine dJ (id := .q fun b => F3 b ≠ none) (rs_cutt (α := Int) (j := (if (18 : Int) < (m.length : Int) then (18 : Int) else (m.length : Int)).toNat) hm z.log0 rfl rfl rfl (optN (by omega)) (by omega)) rfl rfl (by rintro _ _ _ ⟨_, _, _, hH, _⟩; exact did_q rfl (SR.q hm)) (⟨.inl rfl, ⟨.inl rfl, ⟨.inl rfl, ⟨.inl rfl, ⟨.inr (fun b hb => absurd hb List.not_mem_nil), ⟨.inr trivial, ⟨.inr (fun b hb => absurd hb List.not_mem_nil), ⟨.inr trivial, ⟨.inr trivial, ⟨.inr trivial, trivial⟩⟩⟩⟩⟩⟩⟩⟩⟩⟩) ?_
 rintro _ _ _ ⟨a4, k4, rfl, a1, c6⟩ dk b4
 simp only at a1; replace a1 := a1.symm; subst a1
 have a5 := HS.lg z.log0 z b4
 generalize ({ { cd with log := [] } with log := dk } : Heap) = e1 at a5 ⊢
 refine bg (W := []) (aw rfl rfl rfl) rfl rfl rfl (m5.vf_c ex (m.take (if (18 : Int) < (m.length : Int) then (18 : Int) else (m.length : Int)).toNat) (1) (HS.call a5.log0) c6 hT (by omega) (by (simp only [List.length_take]; omega))) (kb rfl) ?_
 rintro _ H5 ⟨E, I, J, F5, b1, A, rfl, c0, c3, b0, h5⟩
 refine ⟨Wr.did A.log, fun dl b5 => ?_⟩
 replace A := HS.back a5.log0 rfl A
 replace A := HS.lg A a5 b5
 generalize ({ H5 with log := dl } : Heap) = e2 at A ⊢
 have A : HS _ _ _ [] _ := A
 replace V := V.mono b1
 refine dJ (id := .a) (bZ (α := VFnT) (ps := [(0, (.agg ⟨[(iI O.params), (iI O.regs), (.slice T O.blocks.length U)]⟩)), (1, (.agg ⟨[(iI E.params), (iI E.regs), (.slice I E.blocks.length J)]⟩))]) (cells := [(iI O.params), (iI O.regs), (.slice T O.blocks.length U), (iI E.params), (iI E.regs), (.slice I E.blocks.length J)]) ([O, E] : List VFnT) A.log0 rfl rfl rfl (by kernel_rfl) ⟨[(iI O.params), (iI O.regs), (.slice T O.blocks.length U)], [(iI E.params), (iI E.regs), (.slice I E.blocks.length J)], rfl, ⟨T, U, rfl, by omega, by omega, V⟩, ⟨[(iI E.params), (iI E.regs), (.slice I E.blocks.length J)], [], rfl, ⟨I, J, rfl, by omega, by omega, b0⟩, rfl⟩⟩ rfl) rfl rfl (fun _ _ _ _ => gN rfl rfl rfl) (kb rfl) ?_
 rintro _ H7 p6 ⟨a6, k6, rfl, c4, Z, _⟩ dn b6
 replace Z := HS.lg Z A b6
 generalize ({ H7 with log := dn } : Heap) = e3 at Z ⊢
 have Z : HS _ _ _ [p6] _ := Z
 refine dJ (id := .a) (bZ (α := Int) (ps := [(0, (iI 3)), (1, (iI 2))]) (cells := [(iI 3), (iI 2)]) ([3, 2] : List Int) Z.log0 rfl rfl rfl (by kernel_rfl) ⟨[(iI 3)], [(iI 2)], rfl, ⟨rfl, by omega⟩, ⟨[(iI 2)], [], rfl, ⟨rfl, by omega⟩, rfl⟩⟩ rfl) rfl rfl (fun _ _ _ _ => gN rfl rfl rfl) (kb rfl) ?_
 rintro _ H9 p8 ⟨a8, k8, rfl, bl, ad, _⟩ ds b7
 replace ad := HS.lg ad Z b7
 generalize ({ H9 with log := ds } : Heap) = e4 at ad ⊢
 have ad : HS _ _ _ [_, p8] _ := ad
 refine fa (.slice a6 ([O, E] : List VFnT).length k6) rfl rfl rfl ?_
 refine fa (.slice a8 ([3, 2] : List Int).length k8) rfl rfl rfl ?_
 refine bw ?_
 refine ao 1 rfl ?_
 obtain ⟨et, a7, ar, ag, eb⟩ := OS.frz c4 ad (i := 0) rfl
 have ar : HS _ _ _ [[], _] _ := ar
 replace bl := bl.mono a7
 obtain ⟨ez, a9, av, b9, ec⟩ := OS.frz bl ar (i := 1) rfl
 have av : HS _ _ _ [_, []] _ := av
 replace ag := ag.mono a9
 refine ah ⟨.inr rfl, _, rfl, a6, k6, ([O, E] : List VFnT), a8, k8, ([3, 2] : List Int), _, (fT (fT (fT (bb) b1) a7) a9), (HS.forget av), rfl, ag, b9, (by rfl), (by refine ⟨rfl, ?_, ?_⟩ <;> assumption)⟩
end Go.Proofs.YtlabedbmgmfbaaaDoor.m6
