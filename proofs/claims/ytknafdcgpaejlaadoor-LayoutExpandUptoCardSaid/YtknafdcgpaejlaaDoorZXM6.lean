/-
 Sets of registers as ascending lists, comparisons of results: the reference, function by function, each by a symbolic run. No condition but bounds on lengths.
-/
import Derived.Test.YtknafdcgpaejlaaDoorZXM5
noncomputable section
namespace Go.Proofs.YtknafdcgpaejlaaDoor.m6
open Go.R
set_option maxRecDepth 10000
set_option linter.unusedVariables false
set_option linter.unusedSimpArgs false
open m1 m2 m3 m4 m5
def ga (l : List Int) (n : Int) : Nat := (l.takeWhile (fun x => decide (x < n))).length
def eb (l : List Int) (n : Int) : List Int := if ga l n < l.length ∧ l.getD (ga l n) 0 = n then l else l.take (ga l n) ++ [n] ++ l.drop (ga l n)
theorem pre_eq : ∀ {l : List Int} {n : Int} {k : Nat}, k ≤ l.length → (∀ j, j < k → l.getD j 0 < n) → (k < l.length → ¬ l.getD k 0 < n) → k = ga l n
 | [], n, k, hk, _, _ => by simp at hk; subst hk; rfl
 | x :: l, n, 0, _, _, h => by
  have h0 : ¬ x < n := h (by simp)
  unfold ga; rw [List.takeWhile_cons_of_neg (by simpa using h0)]; rfl
 | x :: l, n, k + 1, hk, hl, h => by
  have h0 : x < n := hl 0 (by omega)
  have := pre_eq (l := l) (n := n) (k := k) (by simpa using hk) (fun j hj => hl (j + 1) (by omega)) (fun hj => h (by simpa using hj))
  unfold ga at this ⊢
  rw [List.takeWhile_cons_of_pos (by simpa using h0), List.length_cons, ← this]
theorem jM {l : List Int} {n : Int} {k : Nat} (hk : k = ga l n) (h : k < l.length) (z : l.getD k 0 = n) : l = eb l n := by subst hk; unfold eb; rw [if_pos ⟨h, z⟩]
theorem ins_new {l : List Int} {n : Int} {k : Nat} (hk : k = ga l n) (h : ¬ (k < l.length ∧ l.getD k 0 = n)) : l.take k ++ [n] ++ l.drop k = eb l n := by subst hk; unfold eb; rw [if_neg h]
theorem ins_len {l : List Int} {n : Int} : (eb l n).length ≤ l.length + 1 := by
 unfold eb; split
 ·
  omega
 simp only [List.length_append, List.length_take, List.length_drop, List.length_cons, List.length_nil]; omega
def conV (l : List Int) (n : Int) : Bool := l.any (fun x => decide (x = n))
theorem con_no {l : List Int} {n : Int} {k : Nat} (h : ∀ j, j < k → ¬ l.getD j 0 = n) (hk : l.length ≤ k) : false = conV l n := by
 symm; unfold conV
 rw [List.any_eq_false]
 intro x hx
 obtain ⟨j, hj, rfl⟩ := List.mem_iff_getElem.1 hx
 have := h j (by omega)
 rw [List.getD_eq_getElem?_getD, List.getElem?_eq_getElem hj] at this
 simpa using this
theorem con_yes {l : List Int} {n : Int} {k : Nat} (hk : k < l.length) (h : l.getD k 0 = n) : true = conV l n := by
 symm; unfold conV
 rw [List.any_eq_true]
 refine ⟨l.getD k 0, ?_, by simpa using h⟩
 rw [List.getD_eq_getElem?_getD, List.getElem?_eq_getElem hk]; exact List.getElem_mem hk
theorem lt_succ {p : Nat → Prop} {k : Nat} (h : ∀ j, j < k → p j) (c : p k) : ∀ j, j < k + 1 → p j := fun j hj => by
 rcases Nat.lt_succ_iff_lt_or_eq.1 hj with z | rfl
 ·
  exact h j z
 exact c
theorem dT (ex : FuncId) {a_l : Option Addr} {k_l : Nat} (l : List Int) (n : Int) {F : Fz} {H : Heap} {R : List Fp} (hs : HS (.of H []) F H [] R) (hl : SR F (.slice a_l l.length k_l) l) (hn : in64 n) (hT : TB 37 tabC F) (hlen : l.length ≤ 1073741824) : C Tryd.prog 1 (KT 60 ex 37 tabC) 56 [(.slice a_l l.length k_l), (iI n)] H fun v H' => ∃ (ar : Option Addr) (kr : Nat) (r : List Int) (F' : Fz), Fz.le F F' ∧ HS (.of H []) F' H' [] R ∧ v = .slice ar r.length kr ∧ SR F' (.slice ar r.length kr) r ∧ r = eb l n := by
 refine aJ Tryd.func56 rfl rfl ?_
 refine aq 1 rfl ?_
 refine wR 2 [] 4 4 [] [(4, (.slice none 0 0))] trivial rfl fun _ => ?_
 refine wR 3 [] 1 0 [5] [(5, (iI 0))] trivial rfl fun _ => ?_
 refine aE (fun (mm : Nat) f H' => ∃ (k : Nat), H' = H ∧ aH f [(0, (.slice a_l l.length k_l)), (1, (iI n)), (4, (.slice none 0 0)), (5, (iI (k : Int)))] ∧ mm = l.length - k ∧ (k ≤ l.length) ∧ (∀ j, j < k → l.getD j 0 < n)) _ ⟨0, rfl, (agC rfl (agC rfl (agC rfl (agC rfl agN)))), rfl, (by first | assumption | omega | (simp at *; omega)), (by intro j hj; omega)⟩ ?_
 rintro fd f3 H ⟨k, rfl, bl, rfl, h1, h2⟩ dl
 refine au _ bl (fun _ => ?_)
 clear bl
 refine aq 2 rfl ?_
 obtain ⟨e1, bz⟩ := Sv.view (SR.sv hl hs)
 have g5 := fI (bz k)
 refine wR 1 [(8, .o (iI (l.getD k 0)))] 6 17 [] [(17, (.bool ((decide ((k : Int) < (l.length : Int))) && (decide ((l.getD k 0) < n)))))] (vA (fun (T : (decide ((k : Int) < (l.length : Int))) = true) => (Sv.ix (j := (k : Int)) (SR.sv hl hs) (by (try simp only [BS] at T); omega) (by (try simp only [BS] at T); omega))) (vA (fun (T : (decide ((k : Int) < (l.length : Int))) = true) => (ql 3 0 (vI (bz k) (by (try simp only [BS] at T); omega)) rfl rfl)) trivial)) rfl fun _ => ?_
 refine ap 2 6 (v := ((decide ((k : Int) < (l.length : Int))) && (decide ((l.getD k 0) < n)))) rfl rfl rfl rfl (fun ay => ?_) (fun ay => ?_)
 ·
  have c7 := ay
  try simp only [BS] at c7
  refine wR 2 [] 18 19 [5] [(5, (iI ((k : Int) + 1)))] (vA (vi (n := (k : Int) + 1) (by omega)) trivial) rfl fun _ => ?_
  refine dl _ _ _ ?_ ⟨k + 1, rfl, (agC rfl (agC rfl (agC rfl (agC rfl agN)))), rfl, (by first | assumption | omega | (simp at *; omega)), (by exact lt_succ h2 (by omega))⟩
  omega
 have c7 := ay
 try simp only [BS] at c7
 have hk := pre_eq h1 h2 (by omega)
 obtain ⟨e2, b0⟩ := Sv.view (SR.sv hl hs)
 have e3 := fI (b0 k)
 refine wR 1 [(8, .o (iI (l.getD k 0)))] 20 31 [] [(31, (.bool ((decide ((k : Int) < (l.length : Int))) && ((l.getD k 0) == n))))] (vA (fun (T : (decide ((k : Int) < (l.length : Int))) = true) => (Sv.ix (j := (k : Int)) (SR.sv hl hs) (by (try simp only [BS] at T); omega) (by (try simp only [BS] at T); omega))) (vA (fun (T : (decide ((k : Int) < (l.length : Int))) = true) => (ql 3 0 (vI (b0 k) (by (try simp only [BS] at T); omega)) rfl rfl)) trivial)) rfl fun _ => ?_
 refine ap 1 2 (v := ((decide ((k : Int) < (l.length : Int))) && ((l.getD k 0) == n))) rfl rfl rfl rfl (fun ag => ?_) (fun ag => ?_)
 ·
  have ax := ag
  try simp only [BS] at ax
  refine wR 1 [] 4 4 [32] [(4, (.slice a_l l.length k_l))] trivial rfl fun _ => ?_
  refine ah ⟨.inr rfl, _, rfl, a_l, k_l, l, _, fR, (HS.forget hs), rfl, hl, (by first | exact jM hk (by omega) (by omega) | exact ins_new hk (by omega))⟩
 have ax := ag
 try simp only [BS] at ax
 refine aQ rfl ?_
 refine fm (.slice a_l l.length k_l) rfl rfl rfl ?_
 refine fm (iI (k : Int)) rfl rfl rfl ?_
 refine cL (id := .q fun b => F b ≠ none) (rs_cutt (α := Int) (j := k) hl hs.log0 rfl rfl rfl (optN (by omega)) (by omega)) rfl rfl (by rintro _ _ _ ⟨_, _, _, hH, _⟩; exact did_q rfl (SR.q hl)) (⟨.inl rfl, ⟨.inl rfl, trivial⟩⟩) ?_
 rintro _ _ _ ⟨et, e4, rfl, U, b8⟩ ch a5
 simp only at U; replace U := U.symm; subst U
 have a2 := HS.lg hs.log0 hs a5
 generalize ({ { H with log := [] } with log := ch } : Heap) = dt at a2 ⊢
 have N := HS.snoc a2
 have N : HS _ _ _ [[]] _ := N
 refine cL (id := .x []) (aW (α := Int) (q := 0) (OS.nil : OS F (.slice none 0 0) ([] : List Int) []) N.log0 rfl rfl rfl (SR.sv b8 N.log0) rfl rfl rfl rfl rfl rfl rfl (by simp only [List.length_append, List.length_take, List.length_drop, List.length_cons, List.length_nil]; omega)) rfl rfl (by rintro _ _ an ⟨bk, b1, rfl, Z, _, hwr⟩; exact dh rfl rfl (Wr.did hwr)) (⟨.inl rfl, ⟨.inl rfl, ⟨.inl rfl, trivial⟩⟩⟩) ?_
 rintro _ c5 an ⟨bk, b1, rfl, Z, E, _⟩ ci a6
 replace E := HS.lg E N a6
 generalize ({ c5 with log := ci } : Heap) = dv at E ⊢
 have E : HS _ _ _ [an] _ := E
 have Z : OS F (.slice bk (l.take k).length b1) (l.take k) an := Z
 refine fm (iI n) rfl rfl rfl ?_
 refine cL (id := .a) (aP (α := Int) (ps := [(0, (iI n))]) (cells := [(iI n)]) ([n] : List Int) E.log0 rfl rfl rfl (by kernel_rfl) ⟨[(iI n)], [], rfl, ⟨rfl, by omega⟩, rfl⟩ rfl) rfl rfl (fun _ _ _ _ => iU rfl rfl rfl) (⟨.inl rfl, ⟨.inr trivial, ⟨.inr trivial, ⟨.inr trivial, ⟨.inr trivial, trivial⟩⟩⟩⟩⟩) ?_
 rintro _ c6 ds ⟨ez, e5, rfl, b7, z, _⟩ co a7
 replace z := HS.lg z E a7
 generalize ({ c6 with log := co } : Heap) = d1 at z ⊢
 have z : HS _ _ _ [_, ds] _ := z
 refine cL (id := .x (an.map Prod.fst)) (aW (α := Int) (q := 0) Z z.log0 rfl rfl rfl (OS.sv b7 z.log0 (i := 1) rfl) rfl rfl rfl rfl rfl rfl rfl (by simp only [List.length_append, List.length_take, List.length_drop, List.length_cons, List.length_nil]; omega)) rfl rfl (by rintro _ _ a4 ⟨dd, dn, rfl, a0, _, hwr⟩; exact dh rfl rfl (Wr.did hwr)) (⟨.inl rfl, ⟨.inl rfl, ⟨.inl rfl, ⟨.inl rfl, ⟨.inl rfl, ⟨.inl rfl, trivial⟩⟩⟩⟩⟩⟩) ?_
 rintro _ c8 a4 ⟨dd, dn, rfl, a0, A, _⟩ c0 a8
 replace A := HS.lg A z a8
 generalize ({ c8 with log := c0 } : Heap) = b3 at A ⊢
 have A : HS _ _ _ [a4, _] _ := A
 refine fm (.slice a_l l.length k_l) rfl rfl rfl ?_
 refine fm (iI (k : Int)) rfl rfl rfl ?_
 refine cL (id := .q fun b => F b ≠ none) (rs_cutd (α := Int) (i := k) hl A.log0 rfl rfl rfl (optN (by omega)) (by omega)) rfl rfl (by rintro _ _ _ ⟨_, _, _, hH, _⟩; exact did_q rfl (SR.q hl)) (⟨.inl rfl, ⟨.inl rfl, ⟨.inr (HS.apq z (i := 0) rfl), ⟨.inr trivial, ⟨.inr trivial, ⟨.inr (fun b hb => absurd hb List.not_mem_nil), ⟨.inr trivial, ⟨.inr trivial, ⟨.inr trivial, trivial⟩⟩⟩⟩⟩⟩⟩⟩⟩) ?_
 rintro _ _ _ ⟨e0, e6, rfl, V, b9⟩ c3 a9
 simp only at V; replace V := V.symm; subst V
 have ad := HS.lg A.log0 A a9
 generalize ({ { b3 with log := [] } with log := c3 } : Heap) = d2 at ad ⊢
 refine cL (id := .x (a4.map Prod.fst)) (aW (α := Int) (q := 0) a0 ad.log0 rfl rfl rfl (SR.sv b9 ad.log0) rfl rfl rfl rfl rfl rfl rfl (by simp only [List.length_append, List.length_take, List.length_drop, List.length_cons, List.length_nil]; omega)) rfl rfl (by rintro _ _ b2 ⟨av, a3, rfl, a1, _, hwr⟩; exact dh rfl rfl (Wr.did hwr)) (⟨.inl rfl, ⟨.inl rfl, ⟨.inl rfl, ⟨.inl rfl, ⟨.inl rfl, ⟨.inl rfl, ⟨.inl rfl, ⟨.inl rfl, ⟨.inl rfl, ⟨.inl rfl, trivial⟩⟩⟩⟩⟩⟩⟩⟩⟩⟩) ?_
 rintro _ c9 b2 ⟨av, a3, rfl, a1, J, _⟩ c4 bb
 replace J := HS.lg J ad bb
 generalize ({ c9 with log := c4 } : Heap) = d3 at J ⊢
 have J : HS _ _ _ [b2, _] _ := J
 refine fa (.slice av (((l.take k) ++ ([n] : List Int)) ++ (l.drop k)).length a3) rfl rfl rfl ?_
 refine bU ?_
 refine aq 1 rfl ?_
 obtain ⟨es, b6, al, cc, em⟩ := OS.frz a1 J (i := 0) rfl
 have al : HS _ _ _ [[], _] _ := al
 refine ah ⟨.inr rfl, _, rfl, av, a3, ((l.take k) ++ ([n] : List Int)) ++ (l.drop k), _, (b6), (HS.forget al), rfl, cc, (by first | exact jM hk (by omega) (by omega) | exact ins_new hk (by omega))⟩
theorem contains_c (ex : FuncId) {a_l : Option Addr} {k_l : Nat} (l : List Int) (n : Int) {F : Fz} {H : Heap} {R : List Fp} (hs : HS (.of H []) F H [] R) (hl : SR F (.slice a_l l.length k_l) l) (hn : in64 n) (hT : TB 37 tabC F) (hlen : l.length ≤ 1073741824) : C Tryd.prog 1 (KT 60 ex 37 tabC) 28 [(.slice a_l l.length k_l), (iI n)] H fun v H' => ∃ (r : Bool), H' = H ∧ v = .bool r ∧ r = conV l n := by
 refine aJ Tryd.func28 rfl rfl ?_
 refine aq 1 rfl ?_
 refine wR 3 [] 4 4 [] [(4, (.bool false))] trivial rfl fun _ => ?_
 refine wR 2 [] 1 0 [5] [(5, (iI 0))] trivial rfl fun _ => ?_
 refine aE (fun (mm : Nat) f H' => ∃ (k : Nat), H' = H ∧ aH f [(0, (.slice a_l l.length k_l)), (1, (iI n)), (5, (iI (k : Int)))] ∧ mm = l.length - k ∧ (k ≤ l.length) ∧ (∀ j, j < k → ¬ l.getD j 0 = n)) _ ⟨0, rfl, (agC rfl (agC rfl (agC rfl agN))), rfl, (by first | assumption | omega | (simp at *; omega)), (by intro j hj; omega)⟩ ?_
 rintro ad f3 H ⟨k, rfl, E, rfl, h1, U⟩ V
 refine au _ E (fun _ => ?_)
 clear E
 refine aq 2 rfl ?_
 refine wR 1 [] 6 9 [] [(9, (.bool (decide ((k : Int) < (l.length : Int)))))] trivial rfl fun _ => ?_
 refine ap 4 5 (v := (decide ((k : Int) < (l.length : Int)))) rfl rfl rfl rfl (fun z => ?_) (fun z => ?_)
 ·
  have N := z
  try simp only [BS] at N
  obtain ⟨Z, J⟩ := Sv.view (SR.sv hl hs)
  have g7 := fI (J k)
  refine wR 1 [(3, .o (iI (l.getD k 0)))] 12 17 [] [(17, (.bool ((l.getD k 0) == n)))] (vA (Sv.ix (j := (k : Int)) (SR.sv hl hs) (by omega) (by omega)) (vA (ql 3 0 (vI (J k) (by omega)) rfl rfl) trivial)) rfl fun _ => ?_
  refine ap 1 2 (v := ((l.getD k 0) == n)) rfl rfl rfl rfl (fun A => ?_) (fun A => ?_)
  ·
   have T := A
   try simp only [BS] at T
   refine wR 1 [] 4 4 [] [(4, (.bool true))] trivial rfl fun _ => ?_
   refine ah ⟨.inr rfl, _, rfl, true, rfl, rfl, (by first | exact con_yes (k := k) (by omega) (by omega) | exact con_no U (by omega))⟩
  have T := A
  try simp only [BS] at T
  refine wR 1 [] 10 11 [5] [(5, (iI ((k : Int) + 1)))] (vA (vi (n := (k : Int) + 1) (by omega)) trivial) rfl fun _ => ?_
  refine V _ _ _ ?_ ⟨k + 1, rfl, (agC rfl (agC rfl (agC rfl agN))), rfl, (by first | assumption | omega | (simp at *; omega)), (by exact lt_succ U (by omega))⟩
  omega
 have N := z
 try simp only [BS] at N
 refine wR 1 [] 4 4 [] [(4, (.bool false))] trivial rfl fun _ => ?_
 refine ah ⟨.inr rfl, _, rfl, false, rfl, rfl, (by first | exact con_yes (k := k) (by omega) (by omega) | exact con_no U (by omega))⟩
theorem gh (ex : FuncId) {a_l : Option Addr} {k_l : Nat} (l : List Int) (n : Int) {F : Fz} {H : Heap} {R : List Fp} (hs : HS (.of H []) F H [] R) (hl : SR F (.slice a_l l.length k_l) l) (hn : in64 n) (hT : TB 37 tabC F) (hlen : l.length ≤ 1073741824) : C Tryd.prog 1 (KT 60 ex 37 tabC) 28 [(.slice a_l l.length k_l), (iI n)] H fun v H' => v = (.bool (conV l n)) ∧ H' = H :=
 cq (contains_c ex l n hs hl hn hT hlen) (by rintro _ _ ⟨_, rfl, rfl, rfl⟩; exact ⟨rfl, rfl⟩)
end Go.Proofs.YtknafdcgpaejlaaDoor.m6
