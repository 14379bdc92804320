/-
 Sets of registers as ascending lists, comparisons of results: the reference, function by function, each by a symbolic run. No condition but bounds on lengths.
-/
import Derived.Test.YtlabedbmgmfbaaaDoorZVM5
noncomputable section
namespace Go.Proofs.YtlabedbmgmfbaaaDoor.m6
open Go.R
set_option maxRecDepth 10000
set_option linter.unusedVariables false
open m1 m2 m3 m4 m5
def preV (l : List Int) (n : Int) : Nat := (l.takeWhile (fun x => decide (x < n))).length
def insV (l : List Int) (n : Int) : List Int := if preV l n < l.length ∧ l.getD (preV l n) 0 = n then l else l.take (preV l n) ++ [n] ++ l.drop (preV l n)
def conV (l : List Int) (n : Int) : Bool := l.any (fun x => decide (x = n))
theorem same_yes {a b : List Int} (hl : a.length = b.length) {k : Nat} (h : ∀ j, j < k → a.getD j 0 = b.getD j 0) (hk : a.length ≤ k) : true = decide (a = b) := by
 symm; apply decide_eq_true
 apply List.ext_getElem hl
 intro j z A
 have := h j (by omega)
 rwa [List.getD_eq_getElem?_getD, List.getD_eq_getElem?_getD, List.getElem?_eq_getElem z, List.getElem?_eq_getElem A] at this
theorem lt_succ {p : Nat → Prop} {k : Nat} (h : ∀ j, j < k → p j) (c : p k) : ∀ j, j < k + 1 → p j := fun j hj => by
 rcases Nat.lt_succ_iff_lt_or_eq.1 hj with z | rfl
 ·
  exact h j z
 ·
  exact c
theorem args_c (ex : FuncId) (a : Int) (b : Int) (raw : Int) {F : Fz} {H : Heap} {R : List Fp} (hs : HS (.of H []) F H [] R) (ha : in64 a) (hb : in64 b) (hraw : in64 raw) (hT : TB 37 tabC F) : C Tryd.prog 1 (KT 60 ex 37 tabC) 34 [(iI a), (iI b), (iI raw)] H fun v H' => ∃ (ar : Option Addr) (kr : Nat) (r : List Int) (p : Fp) (F' : Fz), Fz.le F F' ∧ HS (.of H []) F' H' [p] R ∧ v = .slice ar r.length kr ∧ OS F' (.slice ar r.length kr) r p ∧ (r.length = 2) := by
 refine aL Tryd.func34 rfl rfl ?_
 refine aw 1 rfl ?_
 refine wR 2 [] 6 6 [] [(6, (.slice none 0 0))] trivial rfl fun _ => ?_
 refine ae ?_
 refine wRo 2 0 [] 7 8 [] [(7, (iI a)), (8, (iI raw))] trivial rfl fun _ => ?_
 refine aF (ax rfl rfl rfl) rfl rfl (m4.word_c ex a raw (HS.call hs) (by omega) (by omega) hT) ?_
 rintro _ H3 ⟨I, F3, O, z, rfl, h3⟩
 replace z := HS.back hs rfl z
 have z : HS _ _ _ [] _ := z
 replace hT := hT.mono O
 refine wRo 2 3 [] 10 11 [] [(10, (iI b)), (11, (iI raw))] trivial rfl fun _ => ?_
 refine aF (ax rfl rfl rfl) rfl rfl (m4.word_c ex b raw (HS.call z) (by omega) (by omega) hT) ?_
 rintro _ H5 ⟨E, F5, U, A, rfl, h5⟩
 replace A := HS.back z rfl A
 have A : HS _ _ _ [] _ := A
 refine bd (cN (α := Int) (ps := [(0, (iI I)), (1, (iI E))]) (cells := [(iI I), (iI E)]) ([I, E] : List Int) A rfl rfl rfl (by kernel_rfl) ⟨[(iI I)], [(iI E)], rfl, ⟨rfl, by omega⟩, ⟨[(iI E)], [], rfl, ⟨rfl, by omega⟩, rfl⟩⟩ rfl) rfl rfl ?_
 rintro _ H7 p6 ⟨T, Z, rfl, V, J, _⟩
 have J : HS _ _ _ [p6] _ := J
 refine wa (.slice T ([I, E] : List Int).length Z) rfl rfl rfl ?_
 refine ao 1 rfl ?_
 refine aj ⟨.inr rfl, _, rfl, T, Z, ([I, E] : List Int), p6, _, (fT (O) U), (HS.only J (i := 0) rfl), rfl, V, (by rfl)⟩
theorem fuel_c (ex : FuncId) (n : Int) (H : Heap) (hn : in64 n) : C Tryd.prog 1 (KT 60 ex 37 tabC) 36 [(iI n)] H fun v H' => ∃ (r : Int), H' = H ∧ v = .int .i64 r ∧ r = ai n 12 := by
 refine aL Tryd.func36 rfl rfl ?_
 refine aw 1 rfl ?_
 refine wR 2 [] 2 2 [] [(2, (iI 0))] trivial rfl fun _ => ?_
 have z := dT n (12 : Int)
 refine wR 1 [(1, .o (iI (ai n (12 : Int))))] 2 4 [] [(2, (iI (ai n (12 : Int))))] (vA (m1.fu ex n (12) H (by omega)) trivial) rfl fun _ => ?_
 refine aj ⟨.inr rfl, _, rfl, ai n (12 : Int), rfl, rfl, (by first | rfl | omega | simp_all)⟩
theorem fuel_c_q (ex : FuncId) (n : Int) (H : Heap) (hn : in64 n) : C Tryd.prog 1 (KT 60 ex 37 tabC) 36 [(iI n)] H fun v H' => v = (iI (ai n 12)) ∧ H' = H :=
 cq (fuel_c ex n H hn) (by rintro _ _ ⟨_, rfl, rfl, rfl⟩; exact ⟨rfl, rfl⟩)
theorem vfuncs_c (ex : FuncId) {a_l : Option Addr} {k_l : Nat} (l : List Int) {a_m : Option Addr} {k_m : Nat} (m : List Int) {F : Fz} {H : Heap} {R : List Fp} (hs : HS (.of H []) F H [] R) (hl : SR F (.slice a_l l.length k_l) l) (hm : SR F (.slice a_m m.length k_m) m) (hT : TB 37 tabC F) : C Tryd.prog 1 (KT 60 ex 37 tabC) 32 [(.slice a_l l.length k_l), (.slice a_m m.length k_m)] H fun v H' => ∃ (ap : Option Addr) (kp : Nat) (p : List VFnT) (aq : Option Addr) (kq : Nat) (q : List Int) (F' : Fz), Fz.le F F' ∧ HS (.of H []) F' H' [] R ∧ v = .tuple ⟨[.slice ap p.length kp, .slice aq q.length kq]⟩ ∧ SR F' (.slice ap p.length kp) p ∧ SR F' (.slice aq q.length kq) q ∧ q = [3, 2] ∧ (p.length = 2 ∧ vfG (p.getD 0 default) 2 ∧ vfG (p.getD 1 default) 1) := by
 refine aL Tryd.func32 rfl rfl ?_
 refine aw 1 rfl ?_
 refine wR 2 [] 4 5 [] [(4, (.slice none 0 0)), (5, (.slice none 0 0))] trivial rfl fun _ => ?_
 refine aI rfl ?_
 refine fm (.slice a_l l.length k_l) rfl rfl rfl ?_
 refine fm (.slice a_l l.length k_l) rfl rfl rfl ?_
 refine ab (v := (iI (l.length : Int))) (id := .v) (kY (α := Int) rfl rfl (SR.sv hl hs.log0)) rfl rfl (kN rfl) (ay _) ?_
 refine ab (v := (iI (if (36 : Int) < (l.length : Int) then (36 : Int) else (l.length : Int)))) (id := .x []) (pmm_ok (w := true) rfl rfl rfl) rfl rfl (cE (W := []) rfl rfl fun b hb => absurd hb List.not_mem_nil) (⟨.inl rfl, ⟨.inl rfl, ⟨.inr trivial, trivial⟩⟩⟩) ?_
 refine dC (id := .q fun b => F b ≠ none) (rs_cutt (α := Int) (j := (if (36 : Int) < (l.length : Int) then (36 : Int) else (l.length : Int)).toNat) hl hs.log0 rfl rfl rfl (optN (by first | omega | (split <;> omega))) (by first | omega | (split <;> omega))) rfl rfl (by rintro _ _ _ ⟨_, _, _, hH, _⟩; exact did_q rfl (SR.q hl)) (⟨.inl rfl, ⟨.inl rfl, ⟨.inl rfl, ⟨.inl rfl, trivial⟩⟩⟩⟩) ?_
 rintro _ _ _ ⟨a2, k2, rfl, a0, c4⟩ c8 b2
 simp only at a0; replace a0 := a0.symm; subst a0
 have a3 := HS.lg hs.log0 hs b2
 generalize ({ { H with log := [] } with log := c8 } : Heap) = ez at a3 ⊢
 refine bm (W := []) (ax rfl rfl rfl) rfl rfl rfl (m5.vf_c ex (l.take (if (36 : Int) < (l.length : Int) then (36 : Int) else (l.length : Int)).toNat) (2) (HS.call a3.log0) c4 hT (by first | omega | (simp only [List.length_take]; omega)) (by first | omega | (simp only [List.length_take]; omega))) (⟨.inl rfl, ⟨.inl rfl, ⟨.inl rfl, ⟨.inl rfl, ⟨.inl rfl, trivial⟩⟩⟩⟩⟩) ?_
 rintro _ H3 ⟨O, T, U, F3, bb, z, rfl, cl, co, V, h3⟩
 refine ⟨Wr.did z.log, fun c9 b3 => ?_⟩
 replace z := HS.back a3.log0 rfl z
 replace z := HS.lg z a3 b3
 generalize ({ H3 with log := c9 } : Heap) = cd at z ⊢
 have z : HS _ _ _ [] _ := z
 replace hT := hT.mono bb
 replace hm := hm.mono bb
 refine fm (.slice a_m m.length k_m) rfl rfl rfl ?_
 refine fm (.slice a_m m.length k_m) rfl rfl rfl ?_
 refine ab (v := (iI (m.length : Int))) (id := .v) (kY (α := Int) rfl rfl (SR.sv hm z.log0)) rfl rfl (kN rfl) (ay _) ?_
 refine ab (v := (iI (if (18 : Int) < (m.length : Int) then (18 : Int) else (m.length : Int)))) (id := .x []) (pmm_ok (w := true) rfl rfl rfl) rfl rfl (cE (W := []) rfl rfl fun b hb => absurd hb List.not_mem_nil) (⟨.inl rfl, ⟨.inl rfl, ⟨.inr trivial, ⟨.inr ⟨trivial, trivial⟩, ⟨.inr (fun b hb => absurd hb List.not_mem_nil), ⟨.inr ⟨trivial, trivial⟩, ⟨.inr trivial, ⟨.inr trivial, ⟨.inr trivial, trivial⟩⟩⟩⟩⟩⟩⟩⟩⟩) ?_
 refine dC (id := .q fun b => F3 b ≠ none) (rs_cutt (α := Int) (j := (if (18 : Int) < (m.length : Int) then (18 : Int) else (m.length : Int)).toNat) hm z.log0 rfl rfl rfl (optN (by first | omega | (split <;> omega))) (by first | omega | (split <;> omega))) rfl rfl (by rintro _ _ _ ⟨_, _, _, hH, _⟩; exact did_q rfl (SR.q hm)) (⟨.inl rfl, ⟨.inl rfl, ⟨.inl rfl, ⟨.inl rfl, ⟨.inr (fun b hb => absurd hb List.not_mem_nil), ⟨.inr trivial, ⟨.inr (fun b hb => absurd hb List.not_mem_nil), ⟨.inr trivial, ⟨.inr trivial, ⟨.inr trivial, trivial⟩⟩⟩⟩⟩⟩⟩⟩⟩⟩) ?_
 rintro _ _ _ ⟨a4, k4, rfl, a1, c5⟩ dd b4
 simp only at a1; replace a1 := a1.symm; subst a1
 have a5 := HS.lg z.log0 z b4
 generalize ({ { cd with log := [] } with log := dd } : Heap) = e0 at a5 ⊢
 refine bm (W := []) (ax rfl rfl rfl) rfl rfl rfl (m5.vf_c ex (m.take (if (18 : Int) < (m.length : Int) then (18 : Int) else (m.length : Int)).toNat) (1) (HS.call a5.log0) c5 hT (by first | omega | (simp only [List.length_take]; omega)) (by first | omega | (simp only [List.length_take]; omega))) (⟨.inl rfl, ⟨.inl rfl, ⟨.inl rfl, ⟨.inl rfl, ⟨.inl rfl, ⟨.inl rfl, ⟨.inl rfl, ⟨.inl rfl, ⟨.inl rfl, ⟨.inl rfl, ⟨.inl rfl, trivial⟩⟩⟩⟩⟩⟩⟩⟩⟩⟩⟩) ?_
 rintro _ H5 ⟨E, I, J, F5, b1, A, rfl, cv, c0, b0, h5⟩
 refine ⟨Wr.did A.log, fun dk b5 => ?_⟩
 replace A := HS.back a5.log0 rfl A
 replace A := HS.lg A a5 b5
 generalize ({ H5 with log := dk } : Heap) = e1 at A ⊢
 have A : HS _ _ _ [] _ := A
 replace V := V.mono b1
 refine dC (id := .a) (cN (α := VFnT) (ps := [(0, (.agg ⟨[(iI O.params), (iI O.regs), (.slice T O.blocks.length U)]⟩)), (1, (.agg ⟨[(iI E.params), (iI E.regs), (.slice I E.blocks.length J)]⟩))]) (cells := [(iI O.params), (iI O.regs), (.slice T O.blocks.length U), (iI E.params), (iI E.regs), (.slice I E.blocks.length J)]) ([O, E] : List VFnT) A.log0 rfl rfl rfl (by kernel_rfl) ⟨[(iI O.params), (iI O.regs), (.slice T O.blocks.length U)], [(iI E.params), (iI E.regs), (.slice I E.blocks.length J)], rfl, ⟨T, U, rfl, by first | omega | (split <;> omega), by first | omega | (split <;> omega), V⟩, ⟨[(iI E.params), (iI E.regs), (.slice I E.blocks.length J)], [], rfl, ⟨I, J, rfl, by first | omega | (split <;> omega), by first | omega | (split <;> omega), b0⟩, rfl⟩⟩ rfl) rfl rfl (fun _ _ _ _ => gR rfl rfl rfl) (⟨.inl rfl, ⟨.inl rfl, ⟨.inl rfl, ⟨.inl rfl, ⟨.inl rfl, ⟨.inl rfl, ⟨.inl rfl, ⟨.inl rfl, ⟨.inl rfl, ⟨.inl rfl, ⟨.inl rfl, ⟨.inl rfl, trivial⟩⟩⟩⟩⟩⟩⟩⟩⟩⟩⟩⟩) ?_
 rintro _ H7 p6 ⟨a6, k6, rfl, c3, Z, _⟩ dl b6
 replace Z := HS.lg Z A b6
 generalize ({ H7 with log := dl } : Heap) = e2 at Z ⊢
 have Z : HS _ _ _ [p6] _ := Z
 refine dC (id := .a) (cN (α := Int) (ps := [(0, (iI 3)), (1, (iI 2))]) (cells := [(iI 3), (iI 2)]) ([3, 2] : List Int) Z.log0 rfl rfl rfl (by kernel_rfl) ⟨[(iI 3)], [(iI 2)], rfl, ⟨rfl, by first | omega | (split <;> omega)⟩, ⟨[(iI 2)], [], rfl, ⟨rfl, by first | omega | (split <;> omega)⟩, rfl⟩⟩ rfl) rfl rfl (fun _ _ _ _ => gR rfl rfl rfl) (⟨.inr trivial, ⟨.inr trivial, ⟨.inr trivial, ⟨.inr trivial, ⟨.inr trivial, ⟨.inr trivial, ⟨.inr trivial, ⟨.inr trivial, ⟨.inr trivial, ⟨.inr trivial, ⟨.inr trivial, ⟨.inr trivial, ⟨.inr trivial, trivial⟩⟩⟩⟩⟩⟩⟩⟩⟩⟩⟩⟩⟩) ?_
 rintro _ H9 p8 ⟨a8, k8, rfl, bl, ad, _⟩ dn b7
 replace ad := HS.lg ad Z b7
 generalize ({ H9 with log := dn } : Heap) = e3 at ad ⊢
 have ad : HS _ _ _ [_, p8] _ := ad
 refine fa (.slice a6 ([O, E] : List VFnT).length k6) rfl rfl rfl ?_
 refine fa (.slice a8 ([3, 2] : List Int).length k8) rfl rfl rfl ?_
 refine bz ?_
 refine aw 1 rfl ?_
 obtain ⟨es, a7, ar, ag, ea⟩ := OS.frz c3 ad (i := 0) rfl
 have ar : HS _ _ _ [[], _] _ := ar
 replace bl := bl.mono a7
 obtain ⟨et, a9, av, b9, eb⟩ := OS.frz bl ar (i := 1) rfl
 have av : HS _ _ _ [_, []] _ := av
 replace ag := ag.mono a9
 refine aj ⟨.inr rfl, _, rfl, a6, k6, ([O, E] : List VFnT), a8, k8, ([3, 2] : List Int), _, (fT (fT (fT (bb) b1) a7) a9), (HS.forget av), rfl, ag, b9, (by first | rfl | omega | simp_all), (by refine ⟨rfl, ?_, ?_⟩ <;> assumption)⟩
end Go.Proofs.YtlabedbmgmfbaaaDoor.m6
