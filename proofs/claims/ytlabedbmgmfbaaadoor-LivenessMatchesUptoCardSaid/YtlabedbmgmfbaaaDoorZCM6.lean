/-
 Sets of registers as ascending lists, comparisons of results: the reference, function by function, each by a symbolic run. No condition but bounds on lengths.
-/
import Derived.Test.YtlabedbmgmfbaaaDoorZCM5
noncomputable section
namespace Go.Proofs.YtlabedbmgmfbaaaDoor.m6
open Go.R
set_option maxRecDepth 10000
set_option linter.unusedVariables false
open m1 m2 m3 m4 m5
def gZ (l : List Int) (n : Int) : Nat := (l.takeWhile (fun x => decide (x < n))).length
def fA (l : List Int) (n : Int) : List Int := if gZ l n < l.length ∧ l.getD (gZ l n) 0 = n then l else l.take (gZ l n) ++ [n] ++ l.drop (gZ l n)
theorem pre_eq : ∀ {l : List Int} {n : Int} {k : Nat}, k ≤ l.length → (∀ j, j < k → l.getD j 0 < n) → (k < l.length → ¬ l.getD k 0 < n) → k = gZ l n
 | [], n, k, hk, _, _ => by simp at hk; subst hk; rfl
 | x :: l, n, 0, _, _, h => by
  have h0 : ¬ x < n := h (by simp)
  unfold gZ; rw [List.takeWhile_cons_of_neg (by simpa using h0)]; rfl
 | x :: l, n, k + 1, hk, hl, h => by
  have h0 : x < n := hl 0 (by omega)
  have := pre_eq (l := l) (n := n) (k := k) (by simpa using hk) (fun j hj => hl (j + 1) (by omega)) (fun hj => h (by simpa using hj))
  unfold gZ at this ⊢
  rw [List.takeWhile_cons_of_pos (by simpa using h0), List.length_cons, ← this]
theorem iG {l : List Int} {n : Int} {k : Nat} (hk : k = gZ l n) (h : k < l.length) (z : l.getD k 0 = n) : l = fA l n := by subst hk; unfold fA; rw [if_pos ⟨h, z⟩]
theorem ins_new {l : List Int} {n : Int} {k : Nat} (hk : k = gZ l n) (h : ¬ (k < l.length ∧ l.getD k 0 = n)) : l.take k ++ [n] ++ l.drop k = fA l n := by subst hk; unfold fA; rw [if_neg h]
theorem ins_len {l : List Int} {n : Int} : (fA l n).length ≤ l.length + 1 := by
 unfold fA; split
 ·
  omega
 ·
  simp only [List.length_append, List.length_take, List.length_drop, List.length_cons, List.length_nil]; omega
def conV (l : List Int) (n : Int) : Bool := l.any (fun x => decide (x = n))
theorem con_no {l : List Int} {n : Int} {k : Nat} (h : ∀ j, j < k → ¬ l.getD j 0 = n) (hk : l.length ≤ k) : false = conV l n := by
 symm; unfold conV
 rw [List.any_eq_false]
 intro x hx
 obtain ⟨j, hj, rfl⟩ := List.mem_iff_getElem.1 hx
 have := h j (by omega)
 rw [List.getD_eq_getElem?_getD, List.getElem?_eq_getElem hj] at this
 simpa using this
theorem con_yes {l : List Int} {n : Int} {k : Nat} (hk : k < l.length) (h : l.getD k 0 = n) : true = conV l n := by
 symm; unfold conV
 rw [List.any_eq_true]
 refine ⟨l.getD k 0, ?_, by simpa using h⟩
 rw [List.getD_eq_getElem?_getD, List.getElem?_eq_getElem hk]; exact List.getElem_mem hk
theorem ff {a b : List Int} (hl : a.length = b.length) {k : Nat} (h : ∀ j, j < k → a.getD j 0 = b.getD j 0) (hk : a.length ≤ k) : true = decide (a = b) := by
 symm; apply decide_eq_true
 apply List.ext_getElem hl
 intro j z A
 have := h j (by omega)
 rwa [List.getD_eq_getElem?_getD, List.getD_eq_getElem?_getD, List.getElem?_eq_getElem z, List.getElem?_eq_getElem A] at this
theorem gH {a b : List Int} {k : Nat} (h : ¬ a.getD k 0 = b.getD k 0) : false = decide (a = b) := by symm; apply decide_eq_false; intro e; rw [e] at h; exact h rfl
theorem fg {a b : List Int} (h : ¬ (a.length : Int) = (b.length : Int)) : false = decide (a = b) := by symm; apply decide_eq_false; intro e; rw [e] at h; exact h rfl
theorem jj {p : Nat → Prop} {k : Nat} (h : ∀ j, j < k → p j) (c : p k) : ∀ j, j < k + 1 → p j := fun j hj => by
 rcases Nat.lt_succ_iff_lt_or_eq.1 hj with z | rfl
 ·
  exact h j z
 ·
  exact c
theorem fp (ex : FuncId) {a_l : Option Addr} {k_l : Nat} (l : List Int) (n : Int) {F : Fz} {H : Heap} {R : List Fp} (hs : HS (.of H []) F H [] R) (hl : SR F (.slice a_l l.length k_l) l) (hn : in64 n) (hT : TB 37 tabC F) (hlen : l.length ≤ 1073741824) : C Tryd.prog 1 (KT 60 ex 37 tabC) 63 [(.slice a_l l.length k_l), (iI n)] H fun v H' => ∃ (ar : Option Addr) (kr : Nat) (r : List Int) (F' : Fz), Fz.le F F' ∧ HS (.of H []) F' H' [] R ∧ v = .slice ar r.length kr ∧ SR F' (.slice ar r.length kr) r ∧ r = fA l n := by
 refine aG Tryd.func63 rfl rfl ?_
 refine aj 1 rfl ?_
 refine wR 2 [] 4 4 [] [(4, (.slice none 0 0))] trivial rfl fun _ => ?_
 refine wR 3 [] 1 0 [5] [(5, (iI 0))] trivial rfl fun _ => ?_
 refine ap (fun (mm : Nat) f H' => ∃ (k : Nat), H' = H ∧ aI f [(0, (.slice a_l l.length k_l)), (1, (iI n)), (4, (.slice none 0 0)), (5, (iI (k : Int)))] ∧ mm = l.length - k ∧ (k ≤ l.length) ∧ (∀ j, j < k → l.getD j 0 < n)) _ ⟨0, rfl, (agC rfl (agC rfl (agC rfl (agC rfl agN)))), rfl, (by first | assumption | omega | (simp at *; omega)), (by intro j hj; omega)⟩ ?_
 rintro e2 f3 H ⟨k, rfl, a9, rfl, h1, h2⟩ c8
 refine au _ a9 (fun _ => ?_)
 clear a9
 refine aj 2 rfl ?_
 obtain ⟨em, bb⟩ := Sv.view (SR.sv hl hs)
 have g5 := fI (bb k)
 refine wR 1 [(8, .o (iI (l.getD k 0)))] 6 17 [] [(17, (.bool ((decide ((k : Int) < (l.length : Int))) && (decide ((l.getD k 0) < n)))))] (vA (fun (T : (decide ((k : Int) < (l.length : Int))) = true) => (Sv.ix (j := (k : Int)) (SR.sv hl hs) (by (try simp only [BS] at T); omega) (by (try simp only [BS] at T); omega))) (vA (fun (T : (decide ((k : Int) < (l.length : Int))) = true) => (ql 3 0 (vI (bb k) (by (try simp only [BS] at T); omega)) rfl rfl)) trivial)) rfl fun _ => ?_
 refine ak 2 6 (v := ((decide ((k : Int) < (l.length : Int))) && (decide ((l.getD k 0) < n)))) rfl rfl rfl rfl (fun c7 => ?_) (fun c7 => ?_)
 ·
  try simp only [BS] at c7
  refine wR 2 [] 18 19 [5] [(5, (iI ((k : Int) + 1)))] (vA (vi (n := (k : Int) + 1) (by omega)) trivial) rfl fun _ => ?_
  refine c8 _ _ _ ?_ ⟨k + 1, rfl, (agC rfl (agC rfl (agC rfl (agC rfl agN)))), rfl, (by first | assumption | omega | (simp at *; omega)), (by exact jj h2 (by omega))⟩
  omega
 ·
  try simp only [BS] at c7
  have hk := pre_eq h1 h2 (by omega)
  obtain ⟨es, bk⟩ := Sv.view (SR.sv hl hs)
  have et := fI (bk k)
  refine wR 1 [(8, .o (iI (l.getD k 0)))] 20 31 [] [(31, (.bool ((decide ((k : Int) < (l.length : Int))) && ((l.getD k 0) == n))))] (vA (fun (T : (decide ((k : Int) < (l.length : Int))) = true) => (Sv.ix (j := (k : Int)) (SR.sv hl hs) (by (try simp only [BS] at T); omega) (by (try simp only [BS] at T); omega))) (vA (fun (T : (decide ((k : Int) < (l.length : Int))) = true) => (ql 3 0 (vI (bk k) (by (try simp only [BS] at T); omega)) rfl rfl)) trivial)) rfl fun _ => ?_
  refine ak 1 2 (v := ((decide ((k : Int) < (l.length : Int))) && ((l.getD k 0) == n))) rfl rfl rfl rfl (fun av => ?_) (fun av => ?_)
  ·
   try simp only [BS] at av
   refine wR 1 [] 4 4 [32] [(4, (.slice a_l l.length k_l))] trivial rfl fun _ => ?_
   refine ag ⟨.inr rfl, _, rfl, a_l, k_l, l, _, fR, (HS.forget hs), rfl, hl, (by first | exact iG hk (by omega) (by omega) | exact ins_new hk (by omega))⟩
  ·
   try simp only [BS] at av
   refine bc rfl ?_
   refine fm (.slice a_l l.length k_l) rfl rfl rfl ?_
   refine fm (iI (k : Int)) rfl rfl rfl ?_
   refine dC (id := .q fun b => F b ≠ none) (rs_cutt (α := Int) (j := k) hl hs.log0 rfl rfl rfl (optN (by omega)) (by omega)) rfl rfl (by rintro _ _ _ ⟨_, _, _, hH, _⟩; exact did_q rfl (SR.q hl)) (⟨.inl rfl, ⟨.inl rfl, trivial⟩⟩) ?_
   rintro _ _ _ ⟨d3, ez, rfl, U, b4⟩ b7 a2
   simp only at U; replace U := U.symm; subst U
   have ay := HS.lg hs.log0 hs a2
   generalize ({ { H with log := [] } with log := b7 } : Heap) = dk at ay ⊢
   have N := HS.snoc ay
   have N : HS _ _ _ [[]] _ := N
   refine dC (id := .x []) (bW (α := Int) (q := 0) (OS.nil : OS F (.slice none 0 0) ([] : List Int) []) N.log0 rfl rfl rfl (SR.sv b4 N.log0) rfl rfl rfl rfl rfl rfl rfl (by simp only [List.length_append, List.length_take, List.length_drop, List.length_cons, List.length_nil]; omega)) rfl rfl (by rintro _ _ al ⟨a8, bl, rfl, Y, _, hwr⟩; exact dP rfl rfl (Wr.did hwr)) (⟨.inl rfl, ⟨.inl rfl, ⟨.inl rfl, trivial⟩⟩⟩) ?_
   rintro _ co al ⟨a8, bl, rfl, Y, E, _⟩ b9 a3
   replace E := HS.lg E N a3
   generalize ({ co with log := b9 } : Heap) = dl at E ⊢
   have E : HS _ _ _ [al] _ := E
   have Y : OS F (.slice a8 (l.take k).length bl) (l.take k) al := Y
   refine fm (iI n) rfl rfl rfl ?_
   refine dC (id := .a) (bA (α := Int) (ps := [(0, (iI n))]) (cells := [(iI n)]) ([n] : List Int) E.log0 rfl rfl rfl (by kernel_rfl) ⟨[(iI n)], [], rfl, ⟨rfl, by omega⟩, rfl⟩ rfl) rfl rfl (fun _ _ _ _ => did_a rfl rfl rfl) (⟨.inl rfl, ⟨.inr trivial, ⟨.inr trivial, ⟨.inr trivial, ⟨.inr trivial, trivial⟩⟩⟩⟩⟩) ?_
   rintro _ c0 dd ⟨d4, e0, rfl, b3, z, _⟩ cc a4
   replace z := HS.lg z E a4
   generalize ({ c0 with log := cc } : Heap) = dn at z ⊢
   have z : HS _ _ _ [_, dd] _ := z
   refine dC (id := .x (al.map Prod.fst)) (bW (α := Int) (q := 0) Y z.log0 rfl rfl rfl (OS.sv b3 z.log0 (i := 1) rfl) rfl rfl rfl rfl rfl rfl rfl (by simp only [List.length_append, List.length_take, List.length_drop, List.length_cons, List.length_nil]; omega)) rfl rfl (by rintro _ _ a1 ⟨c5, c9, rfl, aw, _, hwr⟩; exact dP rfl rfl (Wr.did hwr)) (⟨.inl rfl, ⟨.inl rfl, ⟨.inl rfl, ⟨.inl rfl, ⟨.inl rfl, ⟨.inl rfl, trivial⟩⟩⟩⟩⟩⟩) ?_
   rintro _ c3 a1 ⟨c5, c9, rfl, aw, A, _⟩ ch a5
   replace A := HS.lg A z a5
   generalize ({ c3 with log := ch } : Heap) = b0 at A ⊢
   have A : HS _ _ _ [a1, _] _ := A
   refine fm (.slice a_l l.length k_l) rfl rfl rfl ?_
   refine fm (iI (k : Int)) rfl rfl rfl ?_
   refine dC (id := .q fun b => F b ≠ none) (rs_cutd (α := Int) (i := k) hl A.log0 rfl rfl rfl (optN (by omega)) (by omega)) rfl rfl (by rintro _ _ _ ⟨_, _, _, hH, _⟩; exact did_q rfl (SR.q hl)) (⟨.inl rfl, ⟨.inl rfl, ⟨.inr (HS.apq z (i := 0) rfl), ⟨.inr trivial, ⟨.inr trivial, ⟨.inr (fun b hb => absurd hb List.not_mem_nil), ⟨.inr trivial, ⟨.inr trivial, ⟨.inr trivial, trivial⟩⟩⟩⟩⟩⟩⟩⟩⟩) ?_
   rintro _ _ _ ⟨ea, e1, rfl, V, b5⟩ ci a6
   simp only at V; replace V := V.symm; subst V
   have Z := HS.lg A.log0 A a6
   generalize ({ { b0 with log := [] } with log := ci } : Heap) = ds at Z ⊢
   refine dC (id := .x (a1.map Prod.fst)) (bW (α := Int) (q := 0) aw Z.log0 rfl rfl rfl (SR.sv b5 Z.log0) rfl rfl rfl rfl rfl rfl rfl (by simp only [List.length_append, List.length_take, List.length_drop, List.length_cons, List.length_nil]; omega)) rfl rfl (by rintro _ _ bz ⟨an, a0, rfl, ax, _, hwr⟩; exact dP rfl rfl (Wr.did hwr)) (⟨.inl rfl, ⟨.inl rfl, ⟨.inl rfl, ⟨.inl rfl, ⟨.inl rfl, ⟨.inl rfl, ⟨.inl rfl, ⟨.inl rfl, ⟨.inl rfl, ⟨.inl rfl, trivial⟩⟩⟩⟩⟩⟩⟩⟩⟩⟩) ?_
   rintro _ c4 bz ⟨an, a0, rfl, ax, J, _⟩ cl a7
   replace J := HS.lg J Z a7
   generalize ({ c4 with log := cl } : Heap) = dt at J ⊢
   have J : HS _ _ _ [bz, _] _ := J
   refine fa (.slice an (((l.take k) ++ ([n] : List Int)) ++ (l.drop k)).length a0) rfl rfl rfl ?_
   refine cz ?_
   refine aj 1 rfl ?_
   obtain ⟨d2, b2, ad, b6, d1⟩ := OS.frz ax J (i := 0) rfl
   have ad : HS _ _ _ [[], _] _ := ad
   refine ag ⟨.inr rfl, _, rfl, an, a0, ((l.take k) ++ ([n] : List Int)) ++ (l.drop k), _, (b2), (HS.forget ad), rfl, b6, (by first | exact iG hk (by omega) (by omega) | exact ins_new hk (by omega))⟩
theorem contains_c (ex : FuncId) {a_l : Option Addr} {k_l : Nat} (l : List Int) (n : Int) {F : Fz} {H : Heap} {R : List Fp} (hs : HS (.of H []) F H [] R) (hl : SR F (.slice a_l l.length k_l) l) (hn : in64 n) (hT : TB 37 tabC F) (hlen : l.length ≤ 1073741824) : C Tryd.prog 1 (KT 60 ex 37 tabC) 33 [(.slice a_l l.length k_l), (iI n)] H fun v H' => ∃ (r : Bool), H' = H ∧ v = .bool r ∧ r = conV l n := by
 refine aG Tryd.func33 rfl rfl ?_
 refine aj 1 rfl ?_
 refine wR 3 [] 4 4 [] [(4, (.bool false))] trivial rfl fun _ => ?_
 refine wR 2 [] 1 0 [5] [(5, (iI 0))] trivial rfl fun _ => ?_
 refine ap (fun (mm : Nat) f H' => ∃ (k : Nat), H' = H ∧ aI f [(0, (.slice a_l l.length k_l)), (1, (iI n)), (5, (iI (k : Int)))] ∧ mm = l.length - k ∧ (k ≤ l.length) ∧ (∀ j, j < k → ¬ l.getD j 0 = n)) _ ⟨0, rfl, (agC rfl (agC rfl (agC rfl agN))), rfl, (by first | assumption | omega | (simp at *; omega)), (by intro j hj; omega)⟩ ?_
 rintro V Y H ⟨k, rfl, z, rfl, h1, N⟩ T
 refine au _ z (fun _ => ?_)
 clear z
 refine aj 2 rfl ?_
 refine wR 1 [] 6 9 [] [(9, (.bool (decide ((k : Int) < (l.length : Int)))))] trivial rfl fun _ => ?_
 refine ak 4 5 (v := (decide ((k : Int) < (l.length : Int)))) rfl rfl rfl rfl (fun E => ?_) (fun E => ?_)
 ·
  try simp only [BS] at E
  obtain ⟨U, A⟩ := Sv.view (SR.sv hl hs)
  have Z := fI (A k)
  refine wR 1 [(3, .o (iI (l.getD k 0)))] 12 17 [] [(17, (.bool ((l.getD k 0) == n)))] (vA (Sv.ix (j := (k : Int)) (SR.sv hl hs) (by omega) (by omega)) (vA (ql 3 0 (vI (A k) (by omega)) rfl rfl) trivial)) rfl fun _ => ?_
  refine ak 1 2 (v := ((l.getD k 0) == n)) rfl rfl rfl rfl (fun J => ?_) (fun J => ?_)
  ·
   try simp only [BS] at J
   refine wR 1 [] 4 4 [] [(4, (.bool true))] trivial rfl fun _ => ?_
   refine ag ⟨.inr rfl, _, rfl, true, rfl, rfl, (by first | exact con_yes (k := k) (by omega) (by omega) | exact con_no N (by omega))⟩
  ·
   try simp only [BS] at J
   refine wR 1 [] 10 11 [5] [(5, (iI ((k : Int) + 1)))] (vA (vi (n := (k : Int) + 1) (by omega)) trivial) rfl fun _ => ?_
   refine T _ _ _ ?_ ⟨k + 1, rfl, (agC rfl (agC rfl (agC rfl agN))), rfl, (by first | assumption | omega | (simp at *; omega)), (by exact jj N (by omega))⟩
   omega
 ·
  try simp only [BS] at E
  refine wR 1 [] 4 4 [] [(4, (.bool false))] trivial rfl fun _ => ?_
  refine ag ⟨.inr rfl, _, rfl, false, rfl, rfl, (by first | exact con_yes (k := k) (by omega) (by omega) | exact con_no N (by omega))⟩
theorem contains_c_q (ex : FuncId) {a_l : Option Addr} {k_l : Nat} (l : List Int) (n : Int) {F : Fz} {H : Heap} {R : List Fp} (hs : HS (.of H []) F H [] R) (hl : SR F (.slice a_l l.length k_l) l) (hn : in64 n) (hT : TB 37 tabC F) (hlen : l.length ≤ 1073741824) : C Tryd.prog 1 (KT 60 ex 37 tabC) 33 [(.slice a_l l.length k_l), (iI n)] H fun v H' => v = (.bool (conV l n)) ∧ H' = H :=
 cq (contains_c ex l n hs hl hn hT hlen) (by rintro _ _ ⟨_, rfl, rfl, rfl⟩; exact ⟨rfl, rfl⟩)
theorem sameInts_c (ex : FuncId) {a_a : Option Addr} {k_a : Nat} (a : List Int) {a_b : Option Addr} {k_b : Nat} (b : List Int) {F : Fz} {H : Heap} {R : List Fp} (hs : HS (.of H []) F H [] R) (ha : SR F (.slice a_a a.length k_a) a) (hb : SR F (.slice a_b b.length k_b) b) (hT : TB 37 tabC F) (hlen : a.length ≤ 1073741824) : C Tryd.prog 1 (KT 60 ex 37 tabC) 22 [(.slice a_a a.length k_a), (.slice a_b b.length k_b)] H fun v H' => ∃ (r : Bool), H' = H ∧ v = .bool r ∧ r = decide (a = b) := by
 refine aG Tryd.func22 rfl rfl ?_
 refine aj 1 rfl ?_
 refine wR 3 [] 4 4 [] [(4, (.bool false))] trivial rfl fun _ => ?_
 refine wR 1 [] 6 10 [] [(10, (.bool ((a.length : Int) != (b.length : Int))))] trivial rfl fun _ => ?_
 refine ak 1 3 (v := ((a.length : Int) != (b.length : Int))) rfl rfl rfl rfl (fun T => ?_) (fun T => ?_)
 ·
  try simp only [BS] at T
  refine wR 1 [] 4 4 [] [(4, (.bool false))] trivial rfl fun _ => ?_
  refine ag ⟨.inr rfl, _, rfl, false, rfl, rfl, (by first | exact ff (by omega) E (by omega) | exact gH (k := k) (by omega) | exact fg (by omega))⟩
 ·
  try simp only [BS] at T
  refine wR 2 [] 1 0 [5] [(5, (iI 0))] trivial rfl fun _ => ?_
  refine ap (fun (mm : Nat) f H' => ∃ (k : Nat), H' = H ∧ aI f [(0, (.slice a_a a.length k_a)), (1, (.slice a_b b.length k_b)), (5, (iI (k : Int)))] ∧ mm = a.length - k ∧ (k ≤ a.length) ∧ (∀ j, j < k → a.getD j 0 = b.getD j 0)) _ ⟨0, rfl, (agC rfl (agC rfl (agC rfl agN))), rfl, (by first | assumption | omega | (simp at *; omega)), (by intro j hj; omega)⟩ ?_
  rintro an f6 H ⟨k, rfl, J, rfl, h1, E⟩ V
  refine au _ J (fun _ => ?_)
  clear J
  refine aj 2 rfl ?_
  refine wR 1 [] 11 14 [] [(14, (.bool (decide ((k : Int) < (a.length : Int)))))] trivial rfl fun _ => ?_
  refine ak 4 5 (v := (decide ((k : Int) < (a.length : Int)))) rfl rfl rfl rfl (fun U => ?_) (fun U => ?_)
  ·
   try simp only [BS] at U
   obtain ⟨Z, N⟩ := Sv.view (SR.sv ha hs)
   have ad := fI (N k)
   obtain ⟨Y, A⟩ := Sv.view (SR.sv hb hs)
   have al := fI (A k)
   refine wRD 1 [(3, .o (iI (a.getD k 0))), (7, .o (iI (b.getD k 0)))] 17 25 [] [(25, (.bool ((a.getD k 0) != (b.getD k 0))))] (vA (Sv.ix (j := (k : Int)) (SR.sv ha hs) (by omega) (by omega)) (vA (ql 3 0 (hc0 (vI (N k) (by omega))) rfl rfl) (vA (Sv.ix (j := (k : Int)) (SR.sv hb hs) (by omega) (by omega)) (vA (ql 3 0 (hc0 (vI (A k) (by omega))) rfl rfl) trivial)))) rfl rfl fun _ => ?_
   refine ak 1 2 (v := ((a.getD k 0) != (b.getD k 0))) rfl rfl rfl rfl (fun z => ?_) (fun z => ?_)
   ·
    try simp only [BS] at z
    refine wR 1 [] 4 4 [] [(4, (.bool false))] trivial rfl fun _ => ?_
    refine ag ⟨.inr rfl, _, rfl, false, rfl, rfl, (by first | exact ff (by omega) E (by omega) | exact gH (k := k) (by omega) | exact fg (by omega))⟩
   ·
    try simp only [BS] at z
    refine wR 1 [] 15 16 [5] [(5, (iI ((k : Int) + 1)))] (vA (vi (n := (k : Int) + 1) (by omega)) trivial) rfl fun _ => ?_
    refine V _ _ _ ?_ ⟨k + 1, rfl, (agC rfl (agC rfl (agC rfl agN))), rfl, (by first | assumption | omega | (simp at *; omega)), (by exact jj E (by omega))⟩
    omega
  ·
   try simp only [BS] at U
   refine wR 1 [] 4 4 [] [(4, (.bool true))] trivial rfl fun _ => ?_
   refine ag ⟨.inr rfl, _, rfl, true, rfl, rfl, (by first | exact ff (by omega) E (by omega) | exact gH (k := k) (by omega) | exact fg (by omega))⟩
theorem sameIntsR_c (ex : FuncId) {a_a : Option Addr} {k_a : Nat} (a : List Int) {a_b : Option Addr} {k_b : Nat} (b : List Int) {F : Fz} {H : Heap} {R : List Fp} (hs : HS (.of H []) F H [] R) (ha : SR F (.slice a_a a.length k_a) a) (hb : SR F (.slice a_b b.length k_b) b) (hT : TB 37 tabC F) (hlen : a.length ≤ 1073741824) : C Tryd.prog 1 (KT 60 ex 37 tabC) 54 [(.slice a_a a.length k_a), (.slice a_b b.length k_b)] H fun v H' => ∃ (r : Bool), H' = H ∧ v = .bool r ∧ r = decide (a = b) := by
 refine aG Tryd.func54 rfl rfl ?_
 refine aj 1 rfl ?_
 refine wR 3 [] 4 4 [] [(4, (.bool false))] trivial rfl fun _ => ?_
 refine wR 1 [] 6 10 [] [(10, (.bool ((a.length : Int) != (b.length : Int))))] trivial rfl fun _ => ?_
 refine ak 1 3 (v := ((a.length : Int) != (b.length : Int))) rfl rfl rfl rfl (fun T => ?_) (fun T => ?_)
 ·
  try simp only [BS] at T
  refine wR 1 [] 4 4 [] [(4, (.bool false))] trivial rfl fun _ => ?_
  refine ag ⟨.inr rfl, _, rfl, false, rfl, rfl, (by first | exact ff (by omega) E (by omega) | exact gH (k := k) (by omega) | exact fg (by omega))⟩
 ·
  try simp only [BS] at T
  refine wR 2 [] 1 0 [5] [(5, (iI 0))] trivial rfl fun _ => ?_
  refine ap (fun (mm : Nat) f H' => ∃ (k : Nat), H' = H ∧ aI f [(0, (.slice a_a a.length k_a)), (1, (.slice a_b b.length k_b)), (5, (iI (k : Int)))] ∧ mm = a.length - k ∧ (k ≤ a.length) ∧ (∀ j, j < k → a.getD j 0 = b.getD j 0)) _ ⟨0, rfl, (agC rfl (agC rfl (agC rfl agN))), rfl, (by first | assumption | omega | (simp at *; omega)), (by intro j hj; omega)⟩ ?_
  rintro an f6 H ⟨k, rfl, J, rfl, h1, E⟩ V
  refine au _ J (fun _ => ?_)
  clear J
  refine aj 2 rfl ?_
  refine wR 1 [] 11 14 [] [(14, (.bool (decide ((k : Int) < (a.length : Int)))))] trivial rfl fun _ => ?_
  refine ak 4 5 (v := (decide ((k : Int) < (a.length : Int)))) rfl rfl rfl rfl (fun U => ?_) (fun U => ?_)
  ·
   try simp only [BS] at U
   obtain ⟨Z, N⟩ := Sv.view (SR.sv ha hs)
   have ad := fI (N k)
   obtain ⟨Y, A⟩ := Sv.view (SR.sv hb hs)
   have al := fI (A k)
   refine wRD 1 [(3, .o (iI (a.getD k 0))), (7, .o (iI (b.getD k 0)))] 17 25 [] [(25, (.bool ((a.getD k 0) != (b.getD k 0))))] (vA (Sv.ix (j := (k : Int)) (SR.sv ha hs) (by omega) (by omega)) (vA (ql 3 0 (hc0 (vI (N k) (by omega))) rfl rfl) (vA (Sv.ix (j := (k : Int)) (SR.sv hb hs) (by omega) (by omega)) (vA (ql 3 0 (hc0 (vI (A k) (by omega))) rfl rfl) trivial)))) rfl rfl fun _ => ?_
   refine ak 1 2 (v := ((a.getD k 0) != (b.getD k 0))) rfl rfl rfl rfl (fun z => ?_) (fun z => ?_)
   ·
    try simp only [BS] at z
    refine wR 1 [] 4 4 [] [(4, (.bool false))] trivial rfl fun _ => ?_
    refine ag ⟨.inr rfl, _, rfl, false, rfl, rfl, (by first | exact ff (by omega) E (by omega) | exact gH (k := k) (by omega) | exact fg (by omega))⟩
   ·
    try simp only [BS] at z
    refine wR 1 [] 15 16 [5] [(5, (iI ((k : Int) + 1)))] (vA (vi (n := (k : Int) + 1) (by omega)) trivial) rfl fun _ => ?_
    refine V _ _ _ ?_ ⟨k + 1, rfl, (agC rfl (agC rfl (agC rfl agN))), rfl, (by first | assumption | omega | (simp at *; omega)), (by exact jj E (by omega))⟩
    omega
  ·
   try simp only [BS] at U
   refine wR 1 [] 4 4 [] [(4, (.bool true))] trivial rfl fun _ => ?_
   refine ag ⟨.inr rfl, _, rfl, true, rfl, rfl, (by first | exact ff (by omega) E (by omega) | exact gH (k := k) (by omega) | exact fg (by omega))⟩
theorem kF (ex : FuncId) {a_a : Option Addr} {k_a : Nat} (a : List Int) {a_b : Option Addr} {k_b : Nat} (b : List Int) {F : Fz} {H : Heap} {R : List Fp} (hs : HS (.of H []) F H [] R) (ha : SR F (.slice a_a a.length k_a) a) (hb : SR F (.slice a_b b.length k_b) b) (hT : TB 37 tabC F) (hlen : a.length ≤ 1073741824) : C Tryd.prog 1 (KT 60 ex 37 tabC) 54 [(.slice a_a a.length k_a), (.slice a_b b.length k_b)] H fun v H' => v = (.bool (decide (a = b))) ∧ H' = H :=
 cq (sameIntsR_c ex a b hs ha hb hT hlen) (by rintro _ _ ⟨_, rfl, rfl, rfl⟩; exact ⟨rfl, rfl⟩)
end Go.Proofs.YtlabedbmgmfbaaaDoor.m6
