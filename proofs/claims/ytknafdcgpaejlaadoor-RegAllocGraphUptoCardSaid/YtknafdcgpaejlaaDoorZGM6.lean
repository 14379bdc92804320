/-
 Sets of registers as ascending lists, comparisons of results: the reference, by symbolic runs. No condition but bounds on lengths.
-/
import Derived.Test.YtknafdcgpaejlaaDoorZGM5
noncomputable section
namespace Go.Proofs.YtknafdcgpaejlaaDoor.m6
open Go.R
set_option maxRecDepth 10000
set_option linter.unusedVariables false
set_option linter.unusedSimpArgs false
variable (ex : FuncId) {F : Fz} {H : Heap} {R : List Fp}
open m1 m2 m3 m4 m5
def gL (l : List Int) (n : Int) : Nat := (l.takeWhile (fun x => decide (x < n))).length
def cY (l : List Int) (n : Int) : List Int := if gL l n < l.length ∧ l.getD (gL l n) 0 = n then l else l.take (gL l n) ++ [n] ++ l.drop (gL l n)
theorem pre_eq : ∀ {l : List Int} {n : Int} {k : Nat}, k ≤ l.length → (∀ j, j < k → l.getD j 0 < n) → (k < l.length → ¬ l.getD k 0 < n) → k = gL l n
 | [], n, k, hk, _, _ => by simp at hk; subst hk; rfl
 | x :: l, n, 0, _, _, h => by
  have h0 : ¬ x < n := h (by simp)
  unfold gL; rw [List.takeWhile_cons_of_neg (by simpa using h0)]; rfl
 | x :: l, n, k + 1, hk, hl, h => by
  have h0 : x < n := hl 0 (by omega)
  have := pre_eq (l := l) (n := n) (k := k) (by simpa using hk) (fun j hj => hl (j + 1) (by omega)) (fun hj => h (by simpa using hj))
  unfold gL at this ⊢
  rw [List.takeWhile_cons_of_pos (by simpa using h0), a0a, ← this]
theorem kh {l : List Int} {n : Int} {k : Nat} (hk : k = gL l n) (h : k < l.length) (z : l.getD k 0 = n) : l = cY l n := by subst hk; unfold cY; rw [if_pos ⟨h, z⟩]
theorem ins_new {l : List Int} {n : Int} {k : Nat} (hk : k = gL l n) (h : ¬ (k < l.length ∧ l.getD k 0 = n)) : l.take k ++ [n] ++ l.drop k = cY l n := by subst hk; unfold cY; rw [if_neg h]
theorem ins_len {l : List Int} {n : Int} : (cY l n).length ≤ l.length + 1 := by
 unfold cY; split
 ·
  omega
 simp only [a06, a0q, a0F, a0a, a0g]; omega
def gc (l : List Int) (n : Int) : Bool := l.any (fun x => decide (x = n))
theorem con_no {l : List Int} {n : Int} {k : Nat} (h : ∀ j, j < k → ¬ l.getD j 0 = n) (hk : l.length ≤ k) : false = gc l n := by
 symm; unfold gc
 rw [List.any_eq_false]
 intro x hx
 obtain ⟨j, hj, rfl⟩ := a0D.1 hx
 have := h j (by omega)
 rw [a01, a03 hj] at this
 simpa using this
theorem con_yes {l : List Int} {n : Int} {k : Nat} (hk : k < l.length) (h : l.getD k 0 = n) : true = gc l n := by
 symm; unfold gc
 rw [List.any_eq_true]
 refine ⟨l.getD k 0, ?_, by simpa using h⟩
 rw [a01, a03 hk]; exact a1l hk
theorem same_yes {a b : List Int} (hl : a.length = b.length) {k : Nat} (h : ∀ j, j < k → a.getD j 0 = b.getD j 0) (hk : a.length ≤ k) : true = decide (a = b) := by
 symm; apply decide_eq_true
 apply a1X hl
 intro j z A
 have := h j (by omega)
 rwa [a01, a01, a03 z, a03 A] at this
theorem same_no {a b : List Int} {k : Nat} (h : ¬ a.getD k 0 = b.getD k 0) : false = decide (a = b) := by symm; apply decide_eq_false; intro e; rw [e] at h; exact h rfl
theorem same_len {a b : List Int} (h : ¬ (a.length : Int) = (b.length : Int)) : false = decide (a = b) := by symm; apply decide_eq_false; intro e; rw [e] at h; exact h rfl
theorem gw {p : Nat → Prop} {k : Nat} (h : ∀ j, j < k → p j) (c : p k) : ∀ j, j < k + 1 → p j := fun j hj => by
 rcases Nat.lt_succ_iff_lt_or_eq.1 hj with z | rfl
 ·
  exact h j z
 exact c
theorem cW {a_l : Option Addr} {k_l : Nat} (l : List Int) (n : Int) (hs : HS (.of H []) F H [] R) (hl : SR F (.slice a_l l.length k_l) l) (hn : in64 n) (hT : TB 37 tabC F) (hlen : l.length ≤ 1073741824) : kKt ex 56 [(.slice a_l l.length k_l), (iI n)] H fun v H' => ∃ (ar : Option Addr) (kr : Nat) (r : List Int) (F' : Fz), Fz.le F F' ∧ HS (.of H []) F' H' [] R ∧ v = .slice ar r.length kr ∧ SR F' (.slice ar r.length kr) r ∧ r = cY l n := by
 refine aI Tryd.func56 rfl rfl (ah 1 rfl (wT 2 [] 4 4 [] [(4, (.slice none 0 0))] rfl fun _ => wT 3 [] 1 0 [5] [(5, (iI 0))] rfl fun _ => aj (fun (mm : Nat) f H' => ∃ (k : Nat), H' = H ∧ aD f [(0, (.slice a_l l.length k_l)), (1, (iI n)), (5, (iI (k : Int)))] ∧ mm = l.length - k ∧ (k ≤ l.length) ∧ (∀ j, j < k → l.getD j 0 < n)) _ ⟨0, rfl, ⟨rfl, rfl, rfl, trivial⟩, rfl, (by omega), (by intro j hj; omega)⟩ ?_))
 rintro e5 f3 H ⟨k, rfl, bk, rfl, h1, h2⟩ dk
 refine au _ bk (fun _ => ?_)
 clear bk
 refine ah 2 rfl ?_
 obtain ⟨ez, bl⟩ := Sv.view (SR.sv hl hs)
 have g5 := fI (bl k)
 refine wR 1 [(8, .o (iI (l.getD k 0)))] 6 17 [] [(17, (.bool ((decide ((k : Int) < (l.length : Int))) && (decide ((l.getD k 0) < n)))))] (vA (fun (T : (decide ((k : Int) < (l.length : Int))) = true) => (Sv.ix (j := (k : Int)) (SR.sv hl hs) (by (try simp only [BS] at T); omega) (by (try simp only [BS] at T); omega))) (vA (fun (T : (decide ((k : Int) < (l.length : Int))) = true) => (ql 3 0 (vI (bl k) (by (try simp only [BS] at T); omega)) rfl rfl)) trivial)) rfl fun _ => am 2 6 (v := ((decide ((k : Int) < (l.length : Int))) && (decide ((l.getD k 0) < n)))) rfl rfl rfl rfl (fun ax => ?_) (fun ax => ?_)
 ·
  have c7 := ax
  try simp only [BS] at c7
  refine wU 2 [] 18 19 [5] [(5, (iI ((k : Int) + 1)))] (vi (n := (k : Int) + 1) (by omega)) rfl fun _ => dk _ _ _ ?_ ⟨k + 1, rfl, ⟨rfl, rfl, rfl, trivial⟩, rfl, (by omega), (gw h2 (by omega))⟩
  omega
 have c7 := ax
 try simp only [BS] at c7
 have hk := pre_eq h1 h2 (by omega)
 obtain ⟨e0, bz⟩ := Sv.view (SR.sv hl hs)
 have e1 := fI (bz k)
 refine wR 1 [(8, .o (iI (l.getD k 0)))] 20 31 [] [(31, (.bool ((decide ((k : Int) < (l.length : Int))) && ((l.getD k 0) == n))))] (vA (fun (T : (decide ((k : Int) < (l.length : Int))) = true) => (Sv.ix (j := (k : Int)) (SR.sv hl hs) (by (try simp only [BS] at T); omega) (by (try simp only [BS] at T); omega))) (vA (fun (T : (decide ((k : Int) < (l.length : Int))) = true) => (ql 3 0 (vI (bz k) (by (try simp only [BS] at T); omega)) rfl rfl)) trivial)) rfl fun _ => am 1 2 (v := ((decide ((k : Int) < (l.length : Int))) && ((l.getD k 0) == n))) rfl rfl rfl rfl (fun ad => ?_) (fun ad => ?_)
 ·
  have av := ad
  try simp only [BS] at av
  refine wT 1 [] 4 4 [32] [(4, (.slice a_l l.length k_l))] rfl fun _ => ak ⟨.inr rfl, _, rfl, a_l, k_l, l, _, fR, (HS.forget hs), rfl, hl, (kh hk (by omega) (by omega))⟩
 have av := ad
 try simp only [BS] at av
 refine aY rfl (fm (.slice a_l l.length k_l) rfl rfl rfl (fm (iI (k : Int)) rfl rfl rfl (cg (id := .q fun b => F b ≠ none) (rs_cutt (α := Int) (j := k) hl hs.log0 rfl rfl rfl (optN (by omega)) (by omega)) rfl rfl (by rintro _ _ _ ⟨_, _, _, hH, _⟩; exact did_q rfl (SR.q hl)) (kb rfl) ?_)))
 rintro _ _ _ ⟨em, e2, rfl, U, b7⟩ ch a4
 simp only at U; replace U := U.symm; subst U
 have a1 := HS.lg hs.log0 hs a4
 generalize ({ { H with log := [] } with log := ch } : Heap) = ds at a1 ⊢
 have N := HS.snoc a1
 have N : HS _ _ _ [[]] _ := N
 refine cg (id := .x []) (bC (α := Int) (q := 0) (OS.nil : OS F (.slice none 0 0) ([] : List Int) []) N.log0 rfl rfl rfl (SR.sv b7 N.log0) rfl rfl rfl rfl rfl rfl rfl (by simp only [a06, a0q, a0F, a0a, a0g]; omega)) rfl rfl (by rintro _ _ al ⟨bb, b0, rfl, Y, _, hwr⟩; exact cz rfl rfl (Wr.did hwr)) (kb rfl) ?_
 rintro _ c4 al ⟨bb, b0, rfl, Y, E, _⟩ ci a5
 replace E := HS.lg E N a5
 generalize ({ c4 with log := ci } : Heap) = dt at E ⊢
 have E : HS _ _ _ [al] _ := E
 have Y : OS F (.slice bb (l.take k).length b0) (l.take k) al := Y
 refine fm (iI n) rfl rfl rfl (cg (id := .a) (bu (α := Int) (ps := [(0, (iI n))]) (cells := [(iI n)]) ([n] : List Int) E.log0 rfl rfl rfl (by kernel_rfl) ⟨[(iI n)], [], rfl, ⟨rfl, by omega⟩, rfl⟩ rfl) rfl rfl (fun _ _ _ _ => km rfl rfl rfl) (kb rfl) ?_)
 rintro _ c5 dn ⟨es, e3, rfl, b6, z, _⟩ cl a6
 replace z := HS.lg z E a6
 generalize ({ c5 with log := cl } : Heap) = dv at z ⊢
 have z : HS _ _ _ [_, dn] _ := z
 refine cg (id := .x (al.map Prod.fst)) (bC (α := Int) (q := 0) Y z.log0 rfl rfl rfl (OS.sv b6 z.log0 (i := 1) rfl) rfl rfl rfl rfl rfl rfl rfl (by simp only [a06, a0q, a0F, a0a, a0g]; omega)) rfl rfl (by rintro _ _ a3 ⟨c9, dl, rfl, ay, _, hwr⟩; exact cz rfl rfl (Wr.did hwr)) (kb rfl) ?_
 rintro _ c6 a3 ⟨c9, dl, rfl, ay, A, _⟩ co a7
 replace A := HS.lg A z a7
 generalize ({ c6 with log := co } : Heap) = b2 at A ⊢
 have A : HS _ _ _ [a3, _] _ := A
 refine fm (.slice a_l l.length k_l) rfl rfl rfl (fm (iI (k : Int)) rfl rfl rfl (cg (id := .q fun b => F b ≠ none) (rs_cutd (α := Int) (i := k) hl A.log0 rfl rfl rfl (optN (by omega)) (by omega)) rfl rfl (by rintro _ _ _ ⟨_, _, _, hH, _⟩; exact did_q rfl (SR.q hl)) (⟨.inl rfl, ⟨.inl rfl, ⟨.inr (HS.apq z (i := 0) rfl), ⟨.inr trivial, ⟨.inr trivial, ⟨.inr (fun b hb => absurd hb a0f), ⟨.inr trivial, ⟨.inr trivial, ⟨.inr trivial, trivial⟩⟩⟩⟩⟩⟩⟩⟩⟩) ?_))
 rintro _ _ _ ⟨et, e4, rfl, V, b9⟩ c0 a8
 simp only at V; replace V := V.symm; subst V
 have Z := HS.lg A.log0 A a8
 generalize ({ { b2 with log := [] } with log := c0 } : Heap) = d1 at Z ⊢
 refine cg (id := .x (a3.map Prod.fst)) (bC (α := Int) (q := 0) ay Z.log0 rfl rfl rfl (SR.sv b9 Z.log0) rfl rfl rfl rfl rfl rfl rfl (by simp only [a06, a0q, a0F, a0a, a0g]; omega)) rfl rfl (by rintro _ _ b1 ⟨an, a2, rfl, a0, _, hwr⟩; exact cz rfl rfl (Wr.did hwr)) (kb rfl) ?_
 rintro _ c8 b1 ⟨an, a2, rfl, a0, J, _⟩ c3 a9
 replace J := HS.lg J Z a9
 generalize ({ c8 with log := c3 } : Heap) = d2 at J ⊢
 have J : HS _ _ _ [b1, _] _ := J
 refine fa (.slice an (((l.take k) ++ ([n] : List Int)) ++ (l.drop k)).length a2) rfl rfl rfl (cu (ah 1 rfl ?_))
 obtain ⟨ea, b4, ag, cc, d4⟩ := OS.frz a0 J (i := 0) rfl
 have ag : HS _ _ _ [[], _] _ := ag
 refine ak ⟨.inr rfl, _, rfl, an, a2, ((l.take k) ++ ([n] : List Int)) ++ (l.drop k), _, (b4), (HS.forget ag), rfl, cc, (ins_new hk (by omega))⟩
theorem gC {a_l : Option Addr} {k_l : Nat} (l : List Int) (n : Int) (hs : HS (.of H []) F H [] R) (hl : SR F (.slice a_l l.length k_l) l) (hn : in64 n) (hT : TB 37 tabC F) (hlen : l.length ≤ 1073741824) : kKt ex 28 [(.slice a_l l.length k_l), (iI n)] H fun v H' => ∃ (r : Bool), H' = H ∧ v = .bool r ∧ r = gc l n := by
 refine aI Tryd.func28 rfl rfl (ah 1 rfl (wT 3 [] 4 4 [] [(4, (.bool false))] rfl fun _ => wT 2 [] 1 0 [5] [(5, (iI 0))] rfl fun _ => aj (fun (mm : Nat) f H' => ∃ (k : Nat), H' = H ∧ aD f [(0, (.slice a_l l.length k_l)), (1, (iI n)), (5, (iI (k : Int)))] ∧ mm = l.length - k ∧ (k ≤ l.length) ∧ (∀ j, j < k → ¬ l.getD j 0 = n)) _ ⟨0, rfl, ⟨rfl, rfl, rfl, trivial⟩, rfl, (by omega), (by intro j hj; omega)⟩ ?_))
 rintro Z f3 H ⟨k, rfl, E, rfl, h1, U⟩ V
 refine au _ E (fun _ => ?_)
 clear E
 refine ah 2 rfl (wT 1 [] 6 9 [] [(9, (.bool (decide ((k : Int) < (l.length : Int)))))] rfl fun _ => am 4 5 (v := (decide ((k : Int) < (l.length : Int)))) rfl rfl rfl rfl (fun z => ?_) (fun z => ?_))
 ·
  have N := z
  try simp only [BS] at N
  obtain ⟨Y, J⟩ := Sv.view (SR.sv hl hs)
  have g7 := fI (J k)
  refine wR 1 [(3, .o (iI (l.getD k 0)))] 12 17 [] [(17, (.bool ((l.getD k 0) == n)))] (vA (Sv.ix (j := (k : Int)) (SR.sv hl hs) (by omega) (by omega)) (vA (ql 3 0 (vI (J k) (by omega)) rfl rfl) trivial)) rfl fun _ => am 1 2 (v := ((l.getD k 0) == n)) rfl rfl rfl rfl (fun A => ?_) (fun A => ?_)
  ·
   have T := A
   try simp only [BS] at T
   refine wT 1 [] 4 4 [] [(4, (.bool true))] rfl fun _ => ak ⟨.inr rfl, _, rfl, true, rfl, rfl, (con_yes (k := k) (by omega) (by omega))⟩
  have T := A
  try simp only [BS] at T
  refine wU 1 [] 10 11 [5] [(5, (iI ((k : Int) + 1)))] (vi (n := (k : Int) + 1) (by omega)) rfl fun _ => V _ _ _ ?_ ⟨k + 1, rfl, ⟨rfl, rfl, rfl, trivial⟩, rfl, (by omega), (gw U (by omega))⟩
  omega
 have N := z
 try simp only [BS] at N
 refine wT 1 [] 4 4 [] [(4, (.bool false))] rfl fun _ => ak ⟨.inr rfl, _, rfl, false, rfl, rfl, (con_no U (by omega))⟩
theorem ed {a_l : Option Addr} {k_l : Nat} (l : List Int) (n : Int) (hs : HS (.of H []) F H [] R) (hl : SR F (.slice a_l l.length k_l) l) (hn : in64 n) (hT : TB 37 tabC F) (hlen : l.length ≤ 1073741824) : kKt ex 28 [(.slice a_l l.length k_l), (iI n)] H fun v H' => v = (.bool (gc l n)) ∧ H' = H :=
 cq (gC ex l n hs hl hn hT hlen) (by rintro _ _ ⟨_, rfl, rfl, rfl⟩; exact ⟨rfl, rfl⟩)
theorem sameInts_c {a_a : Option Addr} {k_a : Nat} (a : List Int) {a_b : Option Addr} {k_b : Nat} (b : List Int) (hs : HS (.of H []) F H [] R) (ha : SR F (.slice a_a a.length k_a) a) (hb : SR F (.slice a_b b.length k_b) b) (hT : TB 37 tabC F) (hlen : a.length ≤ 1073741824) : kKt ex 22 [(.slice a_a a.length k_a), (.slice a_b b.length k_b)] H fun v H' => ∃ (r : Bool), H' = H ∧ v = .bool r ∧ r = decide (a = b) := by
 refine aI Tryd.func22 rfl rfl (ah 1 rfl (wT 3 [] 4 4 [] [(4, (.bool false))] rfl fun _ => wT 1 [] 6 10 [] [(10, (.bool ((a.length : Int) != (b.length : Int))))] rfl fun _ => am 1 3 (v := ((a.length : Int) != (b.length : Int))) rfl rfl rfl rfl (fun E => ?_) (fun E => ?_)))
 ·
  have V := E
  try simp only [BS] at V
  refine wT 1 [] 4 4 [] [(4, (.bool false))] rfl fun _ => ak ⟨.inr rfl, _, rfl, false, rfl, rfl, (same_len (by omega))⟩
 have V := E
 try simp only [BS] at V
 refine wT 2 [] 1 0 [5] [(5, (iI 0))] rfl fun _ => aj (fun (mm : Nat) f H' => ∃ (k : Nat), H' = H ∧ aD f [(0, (.slice a_a a.length k_a)), (1, (.slice a_b b.length k_b)), (5, (iI (k : Int)))] ∧ mm = a.length - k ∧ (k ≤ a.length) ∧ (∀ j, j < k → a.getD j 0 = b.getD j 0)) _ ⟨0, rfl, ⟨rfl, rfl, rfl, trivial⟩, rfl, (by omega), (by intro j hj; omega)⟩ ?_
 rintro av f6 H ⟨k, rfl, T, rfl, h1, Z⟩ ad
 refine au _ T (fun _ => ?_)
 clear T
 refine ah 2 rfl (wT 1 [] 11 14 [] [(14, (.bool (decide ((k : Int) < (a.length : Int)))))] rfl fun _ => am 4 5 (v := (decide ((k : Int) < (a.length : Int)))) rfl rfl rfl rfl (fun J => ?_) (fun J => ?_))
 ·
  have Y := J
  try simp only [BS] at Y
  obtain ⟨al, U⟩ := Sv.view (SR.sv ha hs)
  have an := fI (U k)
  obtain ⟨ag, N⟩ := Sv.view (SR.sv hb hs)
  have ar := fI (N k)
  refine wRD 1 [(3, .o (iI (a.getD k 0))), (7, .o (iI (b.getD k 0)))] 17 25 [] [(25, (.bool ((a.getD k 0) != (b.getD k 0))))] (vA (Sv.ix (j := (k : Int)) (SR.sv ha hs) (by omega) (by omega)) (vA (ql 3 0 (hc0 (vI (U k) (by omega))) rfl rfl) (vA (Sv.ix (j := (k : Int)) (SR.sv hb hs) (by omega) (by omega)) (vA (ql 3 0 (hc0 (vI (N k) (by omega))) rfl rfl) trivial)))) rfl rfl fun _ => am 1 2 (v := ((a.getD k 0) != (b.getD k 0))) rfl rfl rfl rfl (fun z => ?_) (fun z => ?_)
  ·
   have A := z
   try simp only [BS] at A
   refine wT 1 [] 4 4 [] [(4, (.bool false))] rfl fun _ => ak ⟨.inr rfl, _, rfl, false, rfl, rfl, (same_no (k := k) (by omega))⟩
  have A := z
  try simp only [BS] at A
  refine wU 1 [] 15 16 [5] [(5, (iI ((k : Int) + 1)))] (vi (n := (k : Int) + 1) (by omega)) rfl fun _ => ad _ _ _ ?_ ⟨k + 1, rfl, ⟨rfl, rfl, rfl, trivial⟩, rfl, (by omega), (gw Z (by omega))⟩
  omega
 have Y := J
 try simp only [BS] at Y
 refine wT 1 [] 4 4 [] [(4, (.bool true))] rfl fun _ => ak ⟨.inr rfl, _, rfl, true, rfl, rfl, (same_yes (by omega) Z (by omega))⟩
theorem sameIntsR_c {a_a : Option Addr} {k_a : Nat} (a : List Int) {a_b : Option Addr} {k_b : Nat} (b : List Int) (hs : HS (.of H []) F H [] R) (ha : SR F (.slice a_a a.length k_a) a) (hb : SR F (.slice a_b b.length k_b) b) (hT : TB 37 tabC F) (hlen : a.length ≤ 1073741824) : kKt ex 48 [(.slice a_a a.length k_a), (.slice a_b b.length k_b)] H fun v H' => ∃ (r : Bool), H' = H ∧ v = .bool r ∧ r = decide (a = b) := by
 refine aI Tryd.func48 rfl rfl (ah 1 rfl (wT 3 [] 4 4 [] [(4, (.bool false))] rfl fun _ => wT 1 [] 6 10 [] [(10, (.bool ((a.length : Int) != (b.length : Int))))] rfl fun _ => am 1 3 (v := ((a.length : Int) != (b.length : Int))) rfl rfl rfl rfl (fun E => ?_) (fun E => ?_)))
 ·
  have V := E
  try simp only [BS] at V
  refine wT 1 [] 4 4 [] [(4, (.bool false))] rfl fun _ => ak ⟨.inr rfl, _, rfl, false, rfl, rfl, (same_len (by omega))⟩
 have V := E
 try simp only [BS] at V
 refine wT 2 [] 1 0 [5] [(5, (iI 0))] rfl fun _ => aj (fun (mm : Nat) f H' => ∃ (k : Nat), H' = H ∧ aD f [(0, (.slice a_a a.length k_a)), (1, (.slice a_b b.length k_b)), (5, (iI (k : Int)))] ∧ mm = a.length - k ∧ (k ≤ a.length) ∧ (∀ j, j < k → a.getD j 0 = b.getD j 0)) _ ⟨0, rfl, ⟨rfl, rfl, rfl, trivial⟩, rfl, (by omega), (by intro j hj; omega)⟩ ?_
 rintro av f6 H ⟨k, rfl, T, rfl, h1, Z⟩ ad
 refine au _ T (fun _ => ?_)
 clear T
 refine ah 2 rfl (wT 1 [] 11 14 [] [(14, (.bool (decide ((k : Int) < (a.length : Int)))))] rfl fun _ => am 4 5 (v := (decide ((k : Int) < (a.length : Int)))) rfl rfl rfl rfl (fun J => ?_) (fun J => ?_))
 ·
  have Y := J
  try simp only [BS] at Y
  obtain ⟨al, U⟩ := Sv.view (SR.sv ha hs)
  have an := fI (U k)
  obtain ⟨ag, N⟩ := Sv.view (SR.sv hb hs)
  have ar := fI (N k)
  refine wRD 1 [(3, .o (iI (a.getD k 0))), (7, .o (iI (b.getD k 0)))] 17 25 [] [(25, (.bool ((a.getD k 0) != (b.getD k 0))))] (vA (Sv.ix (j := (k : Int)) (SR.sv ha hs) (by omega) (by omega)) (vA (ql 3 0 (hc0 (vI (U k) (by omega))) rfl rfl) (vA (Sv.ix (j := (k : Int)) (SR.sv hb hs) (by omega) (by omega)) (vA (ql 3 0 (hc0 (vI (N k) (by omega))) rfl rfl) trivial)))) rfl rfl fun _ => am 1 2 (v := ((a.getD k 0) != (b.getD k 0))) rfl rfl rfl rfl (fun z => ?_) (fun z => ?_)
  ·
   have A := z
   try simp only [BS] at A
   refine wT 1 [] 4 4 [] [(4, (.bool false))] rfl fun _ => ak ⟨.inr rfl, _, rfl, false, rfl, rfl, (same_no (k := k) (by omega))⟩
  have A := z
  try simp only [BS] at A
  refine wU 1 [] 15 16 [5] [(5, (iI ((k : Int) + 1)))] (vi (n := (k : Int) + 1) (by omega)) rfl fun _ => ad _ _ _ ?_ ⟨k + 1, rfl, ⟨rfl, rfl, rfl, trivial⟩, rfl, (by omega), (gw Z (by omega))⟩
  omega
 have Y := J
 try simp only [BS] at Y
 refine wT 1 [] 4 4 [] [(4, (.bool true))] rfl fun _ => ak ⟨.inr rfl, _, rfl, true, rfl, rfl, (same_yes (by omega) Z (by omega))⟩
theorem j9 {a_a : Option Addr} {k_a : Nat} (a : List Int) {a_b : Option Addr} {k_b : Nat} (b : List Int) (hs : HS (.of H []) F H [] R) (ha : SR F (.slice a_a a.length k_a) a) (hb : SR F (.slice a_b b.length k_b) b) (hT : TB 37 tabC F) (hlen : a.length ≤ 1073741824) : kKt ex 48 [(.slice a_a a.length k_a), (.slice a_b b.length k_b)] H fun v H' => v = (.bool (decide (a = b))) ∧ H' = H :=
 cq (sameIntsR_c ex a b hs ha hb hT hlen) (by rintro _ _ ⟨_, rfl, rfl, rfl⟩; exact ⟨rfl, rfl⟩)
end Go.Proofs.YtknafdcgpaejlaaDoor.m6
