/-
 Sets of registers as ascending lists, comparisons of results: the reference, function by function, each by a symbolic run. No condition but bounds on lengths.
-/
import Derived.Test.YtlabedbmgmfbaaaDoorZDM5
import Derived.Test.YtlabedbmgmfbaaaDoorZDRC
noncomputable section
namespace Go.Proofs.YtlabedbmgmfbaaaDoor.m6
open Go.R
set_option maxRecDepth 10000
set_option linter.unusedVariables false
open m1 m2 m3 m4 m5
def iF (l : List Int) (n : Int) : Nat := (l.takeWhile (fun x => decide (x < n))).length
def lp (l : List Int) (n : Int) : List Int := if iF l n < l.length ∧ l.getD (iF l n) 0 = n then l else l.take (iF l n) ++ [n] ++ l.drop (iF l n)
theorem pre_eq : ∀ {l : List Int} {n : Int} {k : Nat}, k ≤ l.length → (∀ j, j < k → l.getD j 0 < n) → (k < l.length → ¬ l.getD k 0 < n) → k = iF l n
 | [], n, k, hk, _, _ => by simp at hk; subst hk; rfl
 | x :: l, n, 0, _, _, h => by
  have h0 : ¬ x < n := h (by simp)
  unfold iF; rw [List.takeWhile_cons_of_neg (by simpa using h0)]; rfl
 | x :: l, n, k + 1, hk, hl, h => by
  have h0 : x < n := hl 0 (by omega)
  have := pre_eq (l := l) (n := n) (k := k) (by simpa using hk) (fun j hj => hl (j + 1) (by omega)) (fun hj => h (by simpa using hj))
  unfold iF at this ⊢
  rw [List.takeWhile_cons_of_pos (by simpa using h0), List.length_cons, ← this]
theorem ins_same {l : List Int} {n : Int} {k : Nat} (hk : k = iF l n) (h : k < l.length) (z : l.getD k 0 = n) : l = lp l n := by subst hk; unfold lp; rw [if_pos ⟨h, z⟩]
theorem ins_new {l : List Int} {n : Int} {k : Nat} (hk : k = iF l n) (h : ¬ (k < l.length ∧ l.getD k 0 = n)) : l.take k ++ [n] ++ l.drop k = lp l n := by subst hk; unfold lp; rw [if_neg h]
theorem ins_len {l : List Int} {n : Int} : (lp l n).length ≤ l.length + 1 := by
 unfold lp; split
 ·
  omega
 ·
  simp only [List.length_append, List.length_take, List.length_drop, List.length_cons, List.length_nil]; omega
def conV (l : List Int) (n : Int) : Bool := l.any (fun x => decide (x = n))
theorem con_no {l : List Int} {n : Int} {k : Nat} (h : ∀ j, j < k → ¬ l.getD j 0 = n) (hk : l.length ≤ k) : false = conV l n := by
 symm; unfold conV
 rw [List.any_eq_false]
 intro x hx
 obtain ⟨j, hj, rfl⟩ := List.mem_iff_getElem.1 hx
 have := h j (by omega)
 rw [List.getD_eq_getElem?_getD, List.getElem?_eq_getElem hj] at this
 simpa using this
theorem con_yes {l : List Int} {n : Int} {k : Nat} (hk : k < l.length) (h : l.getD k 0 = n) : true = conV l n := by
 symm; unfold conV
 rw [List.any_eq_true]
 refine ⟨l.getD k 0, ?_, by simpa using h⟩
 rw [List.getD_eq_getElem?_getD, List.getElem?_eq_getElem hk]; exact List.getElem_mem hk
theorem same_yes {a b : List Int} (hl : a.length = b.length) {k : Nat} (h : ∀ j, j < k → a.getD j 0 = b.getD j 0) (hk : a.length ≤ k) : true = decide (a = b) := by
 symm; apply decide_eq_true
 apply List.ext_getElem hl
 intro j z A
 have := h j (by omega)
 rwa [List.getD_eq_getElem?_getD, List.getD_eq_getElem?_getD, List.getElem?_eq_getElem z, List.getElem?_eq_getElem A] at this
theorem lt_succ {p : Nat → Prop} {k : Nat} (h : ∀ j, j < k → p j) (c : p k) : ∀ j, j < k + 1 → p j := fun j hj => by
 rcases Nat.lt_succ_iff_lt_or_eq.1 hj with z | rfl
 ·
  exact h j z
 ·
  exact c
theorem contains_c (ex : FuncId) {a_l : Option Addr} {k_l : Nat} (l : List Int) (n : Int) {F : Fz} {H : Heap} {R : List Fp} (hs : HS (.of H []) F H [] R) (hl : SR F (.slice a_l l.length k_l) l) (hn : in64 n) (hT : TB 37 tabC F) (hlen : l.length ≤ 1073741824) : C Tryd.prog 1 (KT 60 ex 37 tabC) 33 [(.slice a_l l.length k_l), (iI n)] H fun v H' => ∃ (r : Bool), H' = H ∧ v = .bool r ∧ r = conV l n := by
 refine aL Tryd.func33 rfl rfl ?_
 refine ao 1 rfl ?_
 refine wR 3 [] 4 4 [] [(4, (.bool false))] trivial rfl fun _ => ?_
 refine wR 2 [] 1 0 [5] [(5, (iI 0))] trivial rfl fun _ => ?_
 refine aC (fun (mm : Nat) f H' => ∃ (k : Nat), H' = H ∧ aT f [(0, (.slice a_l l.length k_l)), (1, (iI n)), (5, (iI (k : Int)))] ∧ mm = l.length - k ∧ (k ≤ l.length) ∧ (∀ j, j < k → ¬ l.getD j 0 = n)) _ ⟨0, rfl, ⟨rfl, rfl, rfl, trivial⟩, rfl, (by omega), (by intro j hj; omega)⟩ ?_
 rintro V Z H ⟨k, rfl, z, rfl, h1, O⟩ T
 refine aH _ z (fun _ => ?_)
 clear z
 refine ao 2 rfl ?_
 refine wR 1 [] 6 9 [] [(9, (.bool (decide ((k : Int) < (l.length : Int)))))] trivial rfl fun _ => ?_
 refine am 4 5 (v := (decide ((k : Int) < (l.length : Int)))) rfl rfl rfl rfl (fun I => ?_) (fun I => ?_)
 ·
  try simp only [BS] at I
  obtain ⟨U, A⟩ := Sv.view (SR.sv hl hs)
  have g7 := fI (A k)
  refine wR 1 [(3, .o (iI (l.getD k 0)))] 12 17 [] [(17, (.bool ((l.getD k 0) == n)))] (vA (Sv.ix (j := (k : Int)) (SR.sv hl hs) (by omega) (by omega)) (vA (ql 3 0 (vI (A k) (by omega)) rfl rfl) trivial)) rfl fun _ => ?_
  refine am 1 2 (v := ((l.getD k 0) == n)) rfl rfl rfl rfl (fun J => ?_) (fun J => ?_)
  ·
   try simp only [BS] at J
   refine wR 1 [] 4 4 [] [(4, (.bool true))] trivial rfl fun _ => ?_
   refine ah ⟨.inr rfl, _, rfl, true, rfl, rfl, (by exact con_yes (k := k) (by omega) (by omega))⟩
  ·
   try simp only [BS] at J
   refine wR 1 [] 10 11 [5] [(5, (iI ((k : Int) + 1)))] (vA (vi (n := (k : Int) + 1) (by omega)) trivial) rfl fun _ => ?_
   refine T _ _ _ ?_ ⟨k + 1, rfl, ⟨rfl, rfl, rfl, trivial⟩, rfl, (by omega), (by exact lt_succ O (by omega))⟩
   omega
 ·
  try simp only [BS] at I
  refine wR 1 [] 4 4 [] [(4, (.bool false))] trivial rfl fun _ => ?_
  refine ah ⟨.inr rfl, _, rfl, false, rfl, rfl, (by exact con_no O (by omega))⟩
theorem contains_c_q (ex : FuncId) {a_l : Option Addr} {k_l : Nat} (l : List Int) (n : Int) {F : Fz} {H : Heap} {R : List Fp} (hs : HS (.of H []) F H [] R) (hl : SR F (.slice a_l l.length k_l) l) (hn : in64 n) (hT : TB 37 tabC F) (hlen : l.length ≤ 1073741824) : C Tryd.prog 1 (KT 60 ex 37 tabC) 33 [(.slice a_l l.length k_l), (iI n)] H fun v H' => v = (.bool (conV l n)) ∧ H' = H :=
 cq (contains_c ex l n hs hl hn hT hlen) (by rintro _ _ ⟨_, rfl, rfl, rfl⟩; exact ⟨rfl, rfl⟩)
theorem args_c (ex : FuncId) (a : Int) (b : Int) (raw : Int) {F : Fz} {H : Heap} {R : List Fp} (hs : HS (.of H []) F H [] R) (ha : in64 a) (hb : in64 b) (hraw : in64 raw) (hT : TB 37 tabC F) : C Tryd.prog 1 (KT 60 ex 37 tabC) 34 [(iI a), (iI b), (iI raw)] H fun v H' => ∃ (ar : Option Addr) (kr : Nat) (r : List Int) (p : Fp) (F' : Fz), Fz.le F F' ∧ HS (.of H []) F' H' [p] R ∧ v = .slice ar r.length kr ∧ OS F' (.slice ar r.length kr) r p ∧ (r.length = 2) := by
 refine aL Tryd.func34 rfl rfl ?_
 refine ao 1 rfl ?_
 refine wR 2 [] 6 6 [] [(6, (.slice none 0 0))] trivial rfl fun _ => ?_
 refine ab ?_
 refine wRo 2 0 [] 7 8 [] [(7, (iI a)), (8, (iI raw))] trivial rfl fun _ => ?_
 refine aD (az rfl rfl rfl) rfl rfl (m4.word_c ex a raw (HS.call hs) (by omega) (by omega) hT) ?_
 rintro _ H3 ⟨J, F3, T, z, rfl, h3⟩
 replace z := HS.back hs rfl z
 have z : HS _ _ _ [] _ := z
 replace hT := hT.mono T
 refine wRo 2 3 [] 10 11 [] [(10, (iI b)), (11, (iI raw))] trivial rfl fun _ => ?_
 refine aD (az rfl rfl rfl) rfl rfl (m4.word_c ex b raw (HS.call z) (by omega) (by omega) hT) ?_
 rintro _ H5 ⟨I, F5, V, A, rfl, h5⟩
 replace A := HS.back z rfl A
 have A : HS _ _ _ [] _ := A
 refine aR (ct (α := Int) (ps := [(0, (iI J)), (1, (iI I))]) (cells := [(iI J), (iI I)]) ([J, I] : List Int) A rfl rfl rfl (by kernel_rfl) ⟨[(iI J)], [(iI I)], rfl, ⟨rfl, by omega⟩, ⟨[(iI I)], [], rfl, ⟨rfl, by omega⟩, rfl⟩⟩ rfl) rfl rfl ?_
 rintro _ H7 p6 ⟨U, k6, rfl, Z, O, _⟩
 have O : HS _ _ _ [p6] _ := O
 refine wa (.slice U ([J, I] : List Int).length k6) rfl rfl rfl ?_
 refine ai 1 rfl ?_
 refine ah ⟨.inr rfl, _, rfl, U, k6, ([J, I] : List Int), p6, _, (fT (T) V), (HS.only O (i := 0) rfl), rfl, Z, (by rfl)⟩
theorem fuel_c (ex : FuncId) (n : Int) (H : Heap) (hn : in64 n) : C Tryd.prog 1 (KT 60 ex 37 tabC) 36 [(iI n)] H fun v H' => ∃ (r : Int), H' = H ∧ v = .int .i64 r ∧ r = aB n 12 := by
 refine aL Tryd.func36 rfl rfl ?_
 refine ao 1 rfl ?_
 refine wR 2 [] 2 2 [] [(2, (iI 0))] trivial rfl fun _ => ?_
 have z := dE n (12 : Int)
 refine wR 1 [(1, .o (iI (aB n (12 : Int))))] 2 4 [] [(2, (iI (aB n (12 : Int))))] (vA (m1.ek ex n (12) H (by omega)) trivial) rfl fun _ => ?_
 refine ah ⟨.inr rfl, _, rfl, aB n (12 : Int), rfl, rfl, (by rfl)⟩
theorem fuel_c_q (ex : FuncId) (n : Int) (H : Heap) (hn : in64 n) : C Tryd.prog 1 (KT 60 ex 37 tabC) 36 [(iI n)] H fun v H' => v = (iI (aB n 12)) ∧ H' = H :=
 cq (fuel_c ex n H hn) (by rintro _ _ ⟨_, rfl, rfl, rfl⟩; exact ⟨rfl, rfl⟩)
theorem vfuncs_c (ex : FuncId) {a_l : Option Addr} {k_l : Nat} (l : List Int) {a_m : Option Addr} {k_m : Nat} (m : List Int) {F : Fz} {H : Heap} {R : List Fp} (hs : HS (.of H []) F H [] R) (hl : SR F (.slice a_l l.length k_l) l) (hm : SR F (.slice a_m m.length k_m) m) (hT : TB 37 tabC F) : C Tryd.prog 1 (KT 60 ex 37 tabC) 32 [(.slice a_l l.length k_l), (.slice a_m m.length k_m)] H fun v H' => ∃ (ap : Option Addr) (kp : Nat) (p : List VFnT) (aq : Option Addr) (kq : Nat) (q : List Int) (F' : Fz), Fz.le F F' ∧ HS (.of H []) F' H' [] R ∧ v = .tuple ⟨[.slice ap p.length kp, .slice aq q.length kq]⟩ ∧ SR F' (.slice ap p.length kp) p ∧ SR F' (.slice aq q.length kq) q ∧ q = [3, 2] ∧ (p.length = 2 ∧ vfG (p.getD 0 default) 2 ∧ vfG (p.getD 1 default) 1) := by
 refine aL Tryd.func32 rfl rfl ?_
 refine ao 1 rfl ?_
 refine wR 2 [] 4 5 [] [(4, (.slice none 0 0)), (5, (.slice none 0 0))] trivial rfl fun _ => ?_
 refine aV rfl ?_
 refine fm (.slice a_l l.length k_l) rfl rfl rfl ?_
 refine fm (.slice a_l l.length k_l) rfl rfl rfl ?_
 refine au (v := (iI (l.length : Int))) (id := .v) (ap_lenV (α := Int) rfl rfl (SR.sv hl hs.log0)) rfl rfl (did_len rfl) (gb _) ?_
 refine au (v := (iI (if (36 : Int) < (l.length : Int) then (36 : Int) else (l.length : Int)))) (id := .x []) (pmm_ok (w := true) rfl rfl rfl) rfl rfl (cF (W := []) rfl rfl fun b hb => absurd hb List.not_mem_nil) (kb rfl) ?_
 refine dO (id := .q fun b => F b ≠ none) (rs_cutt (α := Int) (j := (if (36 : Int) < (l.length : Int) then (36 : Int) else (l.length : Int)).toNat) hl hs.log0 rfl rfl rfl (optN (by omega)) (by omega)) rfl rfl (by rintro _ _ _ ⟨_, _, _, hH, _⟩; exact did_q rfl (SR.q hl)) (kb rfl) ?_
 rintro _ _ _ ⟨a2, k2, rfl, a0, c5⟩ c9 b1
 simp only at a0; replace a0 := a0.symm; subst a0
 have a3 := HS.lg hs.log0 hs b1
 generalize ({ { H with log := [] } with log := c9 } : Heap) = es at a3 ⊢
 refine de (W := []) (az rfl rfl rfl) rfl rfl rfl (m5.vf_c ex (l.take (if (36 : Int) < (l.length : Int) then (36 : Int) else (l.length : Int)).toNat) (2) (HS.call a3.log0) c5 hT (by omega) (by (simp only [List.length_take]; omega))) (kb rfl) ?_
 rintro _ H3 ⟨T, U, V, F3, bb, z, rfl, co, cv, Z, h3⟩
 refine ⟨Wr.did z.log, fun dd b2 => ?_⟩
 replace z := HS.back a3.log0 rfl z
 replace z := HS.lg z a3 b2
 generalize ({ H3 with log := dd } : Heap) = b9 at z ⊢
 have z : HS _ _ _ [] _ := z
 replace hT := hT.mono bb
 replace hm := hm.mono bb
 refine fm (.slice a_m m.length k_m) rfl rfl rfl ?_
 refine fm (.slice a_m m.length k_m) rfl rfl rfl ?_
 refine au (v := (iI (m.length : Int))) (id := .v) (ap_lenV (α := Int) rfl rfl (SR.sv hm z.log0)) rfl rfl (did_len rfl) (gb _) ?_
 refine au (v := (iI (if (18 : Int) < (m.length : Int) then (18 : Int) else (m.length : Int)))) (id := .x []) (pmm_ok (w := true) rfl rfl rfl) rfl rfl (cF (W := []) rfl rfl fun b hb => absurd hb List.not_mem_nil) (⟨.inl rfl, ⟨.inl rfl, ⟨.inr trivial, ⟨.inr ⟨trivial, trivial⟩, ⟨.inr (fun b hb => absurd hb List.not_mem_nil), ⟨.inr ⟨trivial, trivial⟩, ⟨.inr trivial, ⟨.inr trivial, ⟨.inr trivial, trivial⟩⟩⟩⟩⟩⟩⟩⟩⟩) ?_
 refine dO (id := .q fun b => F3 b ≠ none) (rs_cutt (α := Int) (j := (if (18 : Int) < (m.length : Int) then (18 : Int) else (m.length : Int)).toNat) hm z.log0 rfl rfl rfl (optN (by omega)) (by omega)) rfl rfl (by rintro _ _ _ ⟨_, _, _, hH, _⟩; exact did_q rfl (SR.q hm)) (⟨.inl rfl, ⟨.inl rfl, ⟨.inl rfl, ⟨.inl rfl, ⟨.inr (fun b hb => absurd hb List.not_mem_nil), ⟨.inr trivial, ⟨.inr (fun b hb => absurd hb List.not_mem_nil), ⟨.inr trivial, ⟨.inr trivial, ⟨.inr trivial, trivial⟩⟩⟩⟩⟩⟩⟩⟩⟩⟩) ?_
 rintro _ _ _ ⟨a4, k4, rfl, a1, c6⟩ dk b3
 simp only at a1; replace a1 := a1.symm; subst a1
 have a5 := HS.lg z.log0 z b3
 generalize ({ { b9 with log := [] } with log := dk } : Heap) = et at a5 ⊢
 refine de (W := []) (az rfl rfl rfl) rfl rfl rfl (m5.vf_c ex (m.take (if (18 : Int) < (m.length : Int) then (18 : Int) else (m.length : Int)).toNat) (1) (HS.call a5.log0) c6 hT (by omega) (by (simp only [List.length_take]; omega))) (kb rfl) ?_
 rintro _ H5 ⟨I, J, O, F5, b0, A, rfl, c0, c3, bl, h5⟩
 refine ⟨Wr.did A.log, fun dl b4 => ?_⟩
 replace A := HS.back a5.log0 rfl A
 replace A := HS.lg A a5 b4
 generalize ({ H5 with log := dl } : Heap) = ev at A ⊢
 have A : HS _ _ _ [] _ := A
 replace Z := Z.mono b0
 refine dO (id := .a) (ct (α := VFnT) (ps := [(0, (.agg ⟨[(iI T.params), (iI T.regs), (.slice U T.blocks.length V)]⟩)), (1, (.agg ⟨[(iI I.params), (iI I.regs), (.slice J I.blocks.length O)]⟩))]) (cells := [(iI T.params), (iI T.regs), (.slice U T.blocks.length V), (iI I.params), (iI I.regs), (.slice J I.blocks.length O)]) ([T, I] : List VFnT) A.log0 rfl rfl rfl (by kernel_rfl) ⟨[(iI T.params), (iI T.regs), (.slice U T.blocks.length V)], [(iI I.params), (iI I.regs), (.slice J I.blocks.length O)], rfl, ⟨U, V, rfl, by omega, by omega, Z⟩, ⟨[(iI I.params), (iI I.regs), (.slice J I.blocks.length O)], [], rfl, ⟨J, O, rfl, by omega, by omega, bl⟩, rfl⟩⟩ rfl) rfl rfl (fun _ _ _ _ => did_a rfl rfl rfl) (kb rfl) ?_
 rintro _ H7 p6 ⟨a6, k6, rfl, c4, ad, _⟩ dn b5
 replace ad := HS.lg ad A b5
 generalize ({ H7 with log := dn } : Heap) = ey at ad ⊢
 have ad : HS _ _ _ [p6] _ := ad
 refine dO (id := .a) (ct (α := Int) (ps := [(0, (iI 3)), (1, (iI 2))]) (cells := [(iI 3), (iI 2)]) ([3, 2] : List Int) ad.log0 rfl rfl rfl (by kernel_rfl) ⟨[(iI 3)], [(iI 2)], rfl, ⟨rfl, by omega⟩, ⟨[(iI 2)], [], rfl, ⟨rfl, by omega⟩, rfl⟩⟩ rfl) rfl rfl (fun _ _ _ _ => did_a rfl rfl rfl) (kb rfl) ?_
 rintro _ H9 p8 ⟨a8, k8, rfl, bj, ag, _⟩ ds b6
 replace ag := HS.lg ag ad b6
 generalize ({ H9 with log := ds } : Heap) = ez at ag ⊢
 have ag : HS _ _ _ [_, p8] _ := ag
 refine fa (.slice a6 ([T, I] : List VFnT).length k6) rfl rfl rfl ?_
 refine fa (.slice a8 ([3, 2] : List Int).length k8) rfl rfl rfl ?_
 refine bZ ?_
 refine ao 1 rfl ?_
 obtain ⟨em, a7, ar, aj, eb⟩ := OS.frz c4 ag (i := 0) rfl
 have ar : HS _ _ _ [[], _] _ := ar
 replace bj := bj.mono a7
 obtain ⟨ep, a9, av, b7, ec⟩ := OS.frz bj ar (i := 1) rfl
 have av : HS _ _ _ [_, []] _ := av
 replace aj := aj.mono a9
 refine ah ⟨.inr rfl, _, rfl, a6, k6, ([T, I] : List VFnT), a8, k8, ([3, 2] : List Int), _, (fT (fT (fT (bb) b0) a7) a9), (HS.forget av), rfl, aj, b7, (by rfl), (by refine ⟨rfl, ?_, ?_⟩ <;> assumption)⟩
end Go.Proofs.YtlabedbmgmfbaaaDoor.m6
