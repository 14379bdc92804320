/-
 Sets of registers as ascending lists, comparisons of results: the reference, function by function, each by a symbolic run. No condition but bounds on lengths.
-/
import Derived.Test.YtlabedbmgmfbaaaDoorZMM5
noncomputable section
namespace Go.Proofs.YtlabedbmgmfbaaaDoor.m6
open Go.R
set_option maxRecDepth 10000
set_option linter.unusedVariables false
open m1 m2 m3 m4 m5
def preV (l : List Int) (n : Int) : Nat := (l.takeWhile (fun x => decide (x < n))).length
def insV (l : List Int) (n : Int) : List Int := if preV l n < l.length ∧ l.getD (preV l n) 0 = n then l else l.take (preV l n) ++ [n] ++ l.drop (preV l n)
def conV (l : List Int) (n : Int) : Bool := l.any (fun x => decide (x = n))
theorem same_yes {a b : List Int} (hl : a.length = b.length) {k : Nat} (h : ∀ j, j < k → a.getD j 0 = b.getD j 0) (hk : a.length ≤ k) : true = decide (a = b) := by
 symm; apply decide_eq_true
 apply List.ext_getElem hl
 intro j z A
 have := h j (by omega)
 rwa [List.getD_eq_getElem?_getD, List.getD_eq_getElem?_getD, List.getElem?_eq_getElem z, List.getElem?_eq_getElem A] at this
theorem lt_succ {p : Nat → Prop} {k : Nat} (h : ∀ j, j < k → p j) (c : p k) : ∀ j, j < k + 1 → p j := fun j hj => by
 rcases Nat.lt_succ_iff_lt_or_eq.1 hj with z | rfl
 ·
  exact h j z
 ·
  exact c
theorem args_c (ex : FuncId) (a : Int) (b : Int) (raw : Int) {F : Fz} {H : Heap} {R : List Fp} (hs : HS (.of H []) F H [] R) (ha : in64 a) (hb : in64 b) (hraw : in64 raw) (hT : TB 37 tabC F) : C Tryd.prog 1 (KT 60 ex 37 tabC) 34 [(iI a), (iI b), (iI raw)] H fun v H' => ∃ (ar : Option Addr) (kr : Nat) (r : List Int) (p : Fp) (F' : Fz), Fz.le F F' ∧ HS (.of H []) F' H' [p] R ∧ v = .slice ar r.length kr ∧ OS F' (.slice ar r.length kr) r p ∧ (r.length = 2) := by
 refine aL Tryd.func34 rfl rfl ?_
 refine ay 1 rfl ?_
 refine wR 2 [] 6 6 [] [(6, (.slice none 0 0))] trivial rfl fun _ => ?_
 refine ah ?_
 refine wRo 2 0 [] 7 8 [] [(7, (iI a)), (8, (iI raw))] trivial rfl fun _ => ?_
 refine aJ (ax rfl rfl rfl) rfl rfl (m4.word_c ex a raw (HS.call hs) (by omega) (by omega) hT) ?_
 rintro _ H3 ⟨I, F3, O, z, rfl, h3⟩
 replace z := HS.back hs rfl z
 have z : HS _ _ _ [] _ := z
 replace hT := hT.mono O
 refine wRo 2 3 [] 10 11 [] [(10, (iI b)), (11, (iI raw))] trivial rfl fun _ => ?_
 refine aJ (ax rfl rfl rfl) rfl rfl (m4.word_c ex b raw (HS.call z) (by omega) (by omega) hT) ?_
 rintro _ H5 ⟨E, F5, U, A, rfl, h5⟩
 replace A := HS.back z rfl A
 have A : HS _ _ _ [] _ := A
 refine br (db (α := Int) (ps := [(0, (iI I)), (1, (iI E))]) (cells := [(iI I), (iI E)]) ([I, E] : List Int) A rfl rfl rfl (by kernel_rfl) ⟨[(iI I)], [(iI E)], rfl, ⟨rfl, by omega⟩, ⟨[(iI E)], [], rfl, ⟨rfl, by omega⟩, rfl⟩⟩ rfl) rfl rfl ?_
 rintro _ H7 p6 ⟨T, Z, rfl, V, J, _⟩
 have J : HS _ _ _ [p6] _ := J
 refine wa (.slice T ([I, E] : List Int).length Z) rfl rfl rfl ?_
 refine au 1 rfl ?_
 refine am ⟨.inr rfl, _, rfl, T, Z, ([I, E] : List Int), p6, _, (fT (O) U), (HS.only J (i := 0) rfl), rfl, V, (by rfl)⟩
theorem fuel_c (ex : FuncId) (n : Int) (H : Heap) (hn : in64 n) : C Tryd.prog 1 (KT 60 ex 37 tabC) 36 [(iI n)] H fun v H' => ∃ (r : Int), H' = H ∧ v = .int .i64 r ∧ r = ab n 12 := by
 refine aL Tryd.func36 rfl rfl ?_
 refine ay 1 rfl ?_
 refine wR 2 [] 2 2 [] [(2, (iI 0))] trivial rfl fun _ => ?_
 have z := cM n (12 : Int)
 refine wR 1 [(1, .o (iI (ab n (12 : Int))))] 2 4 [] [(2, (iI (ab n (12 : Int))))] (vA (m1.d8 ex n (12) H (by omega)) trivial) rfl fun _ => ?_
 refine am ⟨.inr rfl, _, rfl, ab n (12 : Int), rfl, rfl, (by first | rfl | omega | simp_all)⟩
theorem fuel_c_q (ex : FuncId) (n : Int) (H : Heap) (hn : in64 n) : C Tryd.prog 1 (KT 60 ex 37 tabC) 36 [(iI n)] H fun v H' => v = (iI (ab n 12)) ∧ H' = H :=
 cq (fuel_c ex n H hn) (by rintro _ _ ⟨_, rfl, rfl, rfl⟩; exact ⟨rfl, rfl⟩)
theorem vfuncs_c (ex : FuncId) {a_l : Option Addr} {k_l : Nat} (l : List Int) {a_m : Option Addr} {k_m : Nat} (m : List Int) {F : Fz} {H : Heap} {R : List Fp} (hs : HS (.of H []) F H [] R) (hl : SR F (.slice a_l l.length k_l) l) (hm : SR F (.slice a_m m.length k_m) m) (hT : TB 37 tabC F) : C Tryd.prog 1 (KT 60 ex 37 tabC) 32 [(.slice a_l l.length k_l), (.slice a_m m.length k_m)] H fun v H' => ∃ (ap : Option Addr) (kp : Nat) (p : List VFnT) (aq : Option Addr) (kq : Nat) (q : List Int) (F' : Fz), Fz.le F F' ∧ HS (.of H []) F' H' [] R ∧ v = .tuple ⟨[.slice ap p.length kp, .slice aq q.length kq]⟩ ∧ SR F' (.slice ap p.length kp) p ∧ SR F' (.slice aq q.length kq) q ∧ q = [3, 2] ∧ (p.length = 2 ∧ vfG (p.getD 0 default) 2 ∧ vfG (p.getD 1 default) 1) := by
 refine aL Tryd.func32 rfl rfl ?_
 refine ay 1 rfl ?_
 refine wR 2 [] 4 5 [] [(4, (.slice none 0 0)), (5, (.slice none 0 0))] trivial rfl fun _ => ?_
 refine aR rfl ?_
 refine fm (.slice a_l l.length k_l) rfl rfl rfl ?_
 refine fm (.slice a_l l.length k_l) rfl rfl rfl ?_
 refine ai (v := (iI (l.length : Int))) (id := .v) (jZ (α := Int) rfl rfl (SR.sv hl hs.log0)) rfl rfl (jP rfl) (aF _) ?_
 refine ai (v := (iI (if (36 : Int) < (l.length : Int) then (36 : Int) else (l.length : Int)))) (id := .x []) (pmm_ok (w := true) rfl rfl rfl) rfl rfl (ee (W := []) rfl rfl fun b hb => absurd hb List.not_mem_nil) (⟨.inl rfl, ⟨.inl rfl, ⟨.inr trivial, trivial⟩⟩⟩) ?_
 refine dU (id := .q fun b => F b ≠ none) (rs_cutt (α := Int) (j := (if (36 : Int) < (l.length : Int) then (36 : Int) else (l.length : Int)).toNat) hl hs.log0 rfl rfl rfl (optN (by first | omega | (split <;> omega))) (by first | omega | (split <;> omega))) rfl rfl (by rintro _ _ _ ⟨_, _, _, hH, _⟩; exact did_q rfl (SR.q hl)) (⟨.inl rfl, ⟨.inl rfl, ⟨.inl rfl, ⟨.inl rfl, trivial⟩⟩⟩⟩) ?_
 rintro _ _ _ ⟨a2, k2, rfl, a0, c7⟩ dk b3
 simp only at a0; replace a0 := a0.symm; subst a0
 have a3 := HS.lg hs.log0 hs b3
 generalize ({ { H with log := [] } with log := dk } : Heap) = e5 at a3 ⊢
 refine a9 (W := []) (ax rfl rfl rfl) rfl rfl rfl (m5.vf_c ex (l.take (if (36 : Int) < (l.length : Int) then (36 : Int) else (l.length : Int)).toNat) (2) (HS.call a3.log0) c7 hT (by first | omega | (simp only [List.length_take]; omega)) (by first | omega | (simp only [List.length_take]; omega))) (⟨.inl rfl, ⟨.inl rfl, ⟨.inl rfl, ⟨.inl rfl, ⟨.inl rfl, trivial⟩⟩⟩⟩⟩) ?_
 rintro _ H3 ⟨O, T, U, F3, bl, z, rfl, c0, c3, V, h3⟩
 refine ⟨Wr.did z.log, fun dl b4 => ?_⟩
 replace z := HS.back a3.log0 rfl z
 replace z := HS.lg z a3 b4
 generalize ({ H3 with log := dl } : Heap) = ci at z ⊢
 have z : HS _ _ _ [] _ := z
 replace hT := hT.mono bl
 replace hm := hm.mono bl
 refine fm (.slice a_m m.length k_m) rfl rfl rfl ?_
 refine fm (.slice a_m m.length k_m) rfl rfl rfl ?_
 refine ai (v := (iI (m.length : Int))) (id := .v) (jZ (α := Int) rfl rfl (SR.sv hm z.log0)) rfl rfl (jP rfl) (aF _) ?_
 refine ai (v := (iI (if (18 : Int) < (m.length : Int) then (18 : Int) else (m.length : Int)))) (id := .x []) (pmm_ok (w := true) rfl rfl rfl) rfl rfl (ee (W := []) rfl rfl fun b hb => absurd hb List.not_mem_nil) (⟨.inl rfl, ⟨.inl rfl, ⟨.inr trivial, ⟨.inr ⟨trivial, trivial⟩, ⟨.inr (fun b hb => absurd hb List.not_mem_nil), ⟨.inr ⟨trivial, trivial⟩, ⟨.inr trivial, ⟨.inr trivial, ⟨.inr trivial, trivial⟩⟩⟩⟩⟩⟩⟩⟩⟩) ?_
 refine dU (id := .q fun b => F3 b ≠ none) (rs_cutt (α := Int) (j := (if (18 : Int) < (m.length : Int) then (18 : Int) else (m.length : Int)).toNat) hm z.log0 rfl rfl rfl (optN (by first | omega | (split <;> omega))) (by first | omega | (split <;> omega))) rfl rfl (by rintro _ _ _ ⟨_, _, _, hH, _⟩; exact did_q rfl (SR.q hm)) (⟨.inl rfl, ⟨.inl rfl, ⟨.inl rfl, ⟨.inl rfl, ⟨.inr (fun b hb => absurd hb List.not_mem_nil), ⟨.inr trivial, ⟨.inr (fun b hb => absurd hb List.not_mem_nil), ⟨.inr trivial, ⟨.inr trivial, ⟨.inr trivial, trivial⟩⟩⟩⟩⟩⟩⟩⟩⟩⟩) ?_
 rintro _ _ _ ⟨a4, k4, rfl, a1, c8⟩ dn b5
 simp only at a1; replace a1 := a1.symm; subst a1
 have a5 := HS.lg z.log0 z b5
 generalize ({ { ci with log := [] } with log := dn } : Heap) = e6 at a5 ⊢
 refine a9 (W := []) (ax rfl rfl rfl) rfl rfl rfl (m5.vf_c ex (m.take (if (18 : Int) < (m.length : Int) then (18 : Int) else (m.length : Int)).toNat) (1) (HS.call a5.log0) c8 hT (by first | omega | (simp only [List.length_take]; omega)) (by first | omega | (simp only [List.length_take]; omega))) (⟨.inl rfl, ⟨.inl rfl, ⟨.inl rfl, ⟨.inl rfl, ⟨.inl rfl, ⟨.inl rfl, ⟨.inl rfl, ⟨.inl rfl, ⟨.inl rfl, ⟨.inl rfl, ⟨.inl rfl, trivial⟩⟩⟩⟩⟩⟩⟩⟩⟩⟩⟩) ?_
 rintro _ H5 ⟨E, I, J, F5, b2, A, rfl, c4, c5, b1, h5⟩
 refine ⟨Wr.did A.log, fun ds b6 => ?_⟩
 replace A := HS.back a5.log0 rfl A
 replace A := HS.lg A a5 b6
 generalize ({ H5 with log := ds } : Heap) = fd at A ⊢
 have A : HS _ _ _ [] _ := A
 replace V := V.mono b2
 refine dU (id := .a) (db (α := VFnT) (ps := [(0, (.agg ⟨[(iI O.params), (iI O.regs), (.slice T O.blocks.length U)]⟩)), (1, (.agg ⟨[(iI E.params), (iI E.regs), (.slice I E.blocks.length J)]⟩))]) (cells := [(iI O.params), (iI O.regs), (.slice T O.blocks.length U), (iI E.params), (iI E.regs), (.slice I E.blocks.length J)]) ([O, E] : List VFnT) A.log0 rfl rfl rfl (by kernel_rfl) ⟨[(iI O.params), (iI O.regs), (.slice T O.blocks.length U)], [(iI E.params), (iI E.regs), (.slice I E.blocks.length J)], rfl, ⟨T, U, rfl, by first | omega | (split <;> omega), by first | omega | (split <;> omega), V⟩, ⟨[(iI E.params), (iI E.regs), (.slice I E.blocks.length J)], [], rfl, ⟨I, J, rfl, by first | omega | (split <;> omega), by first | omega | (split <;> omega), b1⟩, rfl⟩⟩ rfl) rfl rfl (fun _ _ _ _ => iF rfl rfl rfl) (⟨.inl rfl, ⟨.inl rfl, ⟨.inl rfl, ⟨.inl rfl, ⟨.inl rfl, ⟨.inl rfl, ⟨.inl rfl, ⟨.inl rfl, ⟨.inl rfl, ⟨.inl rfl, ⟨.inl rfl, ⟨.inl rfl, trivial⟩⟩⟩⟩⟩⟩⟩⟩⟩⟩⟩⟩) ?_
 rintro _ H7 p6 ⟨a6, k6, rfl, c6, Z, _⟩ dt b7
 replace Z := HS.lg Z A b7
 generalize ({ H7 with log := dt } : Heap) = fi at Z ⊢
 have Z : HS _ _ _ [p6] _ := Z
 refine dU (id := .a) (db (α := Int) (ps := [(0, (iI 3)), (1, (iI 2))]) (cells := [(iI 3), (iI 2)]) ([3, 2] : List Int) Z.log0 rfl rfl rfl (by kernel_rfl) ⟨[(iI 3)], [(iI 2)], rfl, ⟨rfl, by first | omega | (split <;> omega)⟩, ⟨[(iI 2)], [], rfl, ⟨rfl, by first | omega | (split <;> omega)⟩, rfl⟩⟩ rfl) rfl rfl (fun _ _ _ _ => iF rfl rfl rfl) (⟨.inr trivial, ⟨.inr trivial, ⟨.inr trivial, ⟨.inr trivial, ⟨.inr trivial, ⟨.inr trivial, ⟨.inr trivial, ⟨.inr trivial, ⟨.inr trivial, ⟨.inr trivial, ⟨.inr trivial, ⟨.inr trivial, ⟨.inr trivial, trivial⟩⟩⟩⟩⟩⟩⟩⟩⟩⟩⟩⟩⟩) ?_
 rintro _ H9 p8 ⟨a8, k8, rfl, b0, ad, _⟩ dv cd
 replace ad := HS.lg ad Z cd
 generalize ({ H9 with log := dv } : Heap) = f1 at ad ⊢
 have ad : HS _ _ _ [_, p8] _ := ad
 refine fa (.slice a6 ([O, E] : List VFnT).length k6) rfl rfl rfl ?_
 refine fa (.slice a8 ([3, 2] : List Int).length k8) rfl rfl rfl ?_
 refine bZ ?_
 refine ay 1 rfl ?_
 obtain ⟨e3, a7, ar, ag, ez⟩ := OS.frz c6 ad (i := 0) rfl
 have ar : HS _ _ _ [[], _] _ := ar
 replace b0 := b0.mono a7
 obtain ⟨e4, bb, av, ch, e0⟩ := OS.frz b0 ar (i := 1) rfl
 have av : HS _ _ _ [_, []] _ := av
 replace ag := ag.mono bb
 refine am ⟨.inr rfl, _, rfl, a6, k6, ([O, E] : List VFnT), a8, k8, ([3, 2] : List Int), _, (fT (fT (fT (bl) b2) a7) bb), (HS.forget av), rfl, ag, ch, (by first | rfl | omega | simp_all), (by refine ⟨rfl, ?_, ?_⟩ <;> assumption)⟩
end Go.Proofs.YtlabedbmgmfbaaaDoor.m6
