/-
 What instructions read and write, what follows a block, unions and differences of sets: the program and the reference, each by a symbolic run. No condition but bounds on lengths.
-/
import Derived.Test.YtknafdcgpaejlaaDoorZXM6
import Derived.Test.YtknafdcgpaejlaaDoorZXRD
import Derived.Test.YtknafdcgpaejlaaDoorZXRC
noncomputable section
namespace Go.Proofs.YtknafdcgpaejlaaDoor.ma
open Go.R
set_option maxRecDepth 10000
set_option linter.unusedVariables false
set_option linter.unusedSimpArgs false
open m1 m2 m3 m4 m5 m6
abbrev Asc (l : List Int) : Prop := l.Pairwise (· < ·)
def cv (a l : List Int) : List Int := l.foldl eb a
def iS (a b : List Int) : List Int := a.filter fun x => !conV b x
theorem asc_at {l : List Int} (h : Asc l) {i j : Nat} (hij : i < j) (hj : j < l.length) : l.getD i 0 < l.getD j 0 := by
 have := (List.pairwise_iff_getElem.1 h) i j (by omega) hj hij
 rw [List.getD_eq_getElem?_getD, List.getD_eq_getElem?_getD, List.getElem?_eq_getElem hj, List.getElem?_eq_getElem (show i < l.length by omega)]; exact this
theorem pre_lt {l : List Int} {n : Int} : ∀ x ∈ l.take (ga l n), x < n := by
 intro x hx
 have e : l.take (ga l n) = l.takeWhile (fun x => decide (x < n)) := by
  unfold ga
  exact (List.prefix_iff_eq_take.1 (List.takeWhile_prefix _)).symm
 rw [e] at hx
 have := List.all_eq_true.1 (List.all_takeWhile (p := fun x => decide (x < n)) (l := l)) x hx
 simpa using this
theorem pre_at {l : List Int} {n : Int} (h : ga l n < l.length) : ¬ l.getD (ga l n) 0 < n := by
 induction l with
 | nil => simp at h
 | cons x l ih =>
  unfold ga at h ⊢
  by_cases hx : x < n
  ·
   rw [List.takeWhile_cons_of_pos (by simpa using hx)] at h ⊢
   simp only [List.length_cons, List.getD_cons_succ] at h ⊢
   exact ih (by unfold ga; omega)
  rw [List.takeWhile_cons_of_neg (by simpa using hx)]
  simpa using hx
theorem pre_ge {l : List Int} {n : Int} (ha : Asc l) : ∀ x ∈ l.drop (ga l n), n ≤ x := by
 intro x hx
 obtain ⟨i, hi, rfl⟩ := List.mem_iff_getElem.1 hx
 rw [List.getElem_drop]
 rw [List.length_drop] at hi
 have h0 := pre_at (l := l) (n := n) (by omega)
 rw [List.getD_eq_getElem?_getD, List.getElem?_eq_getElem (show ga l n < l.length by omega)] at h0
 rcases Nat.eq_zero_or_pos i with rfl | hp
 ·
  simp only [Nat.add_zero]; simpa using h0
 have := (List.pairwise_iff_getElem.1 ha) (ga l n) (ga l n + i) (by omega) (by omega) (by omega)
 simp only [Option.getD_some] at h0
 omega
theorem ins_asc {l : List Int} {n : Int} (h : Asc l) : Asc (eb l n) := by
 unfold eb
 split
 ·
  exact h
 rename_i hc
 have hge := pre_ge (n := n) h
 have hlt := pre_lt (l := l) (n := n)
 refine List.pairwise_append.2 ⟨List.pairwise_append.2 ⟨h.sublist (List.take_sublist _ _), List.pairwise_singleton _ _, fun a ha b hb => ?_⟩, h.sublist (List.drop_sublist _ _), fun a ha b hb => ?_⟩
 ·
  rw [List.mem_singleton] at hb; subst hb; exact hlt a ha
 have hn : n < b := by
  have E := hge b hb
  rcases Int.lt_or_eq_of_le E with z | z
  ·
   exact z
  exfalso
  obtain ⟨i, hi, rfl⟩ := List.mem_iff_getElem.1 hb
  rw [List.length_drop] at hi
  rw [List.getElem_drop] at z
  apply hc
  refine ⟨by omega, ?_⟩
  have A := pre_at (l := l) (n := n) (by omega)
  rw [List.getD_eq_getElem?_getD, List.getElem?_eq_getElem (show ga l n < l.length by omega)] at A ⊢
  simp only [Option.getD_some] at A ⊢
  rcases Nat.eq_zero_or_pos i with rfl | hp
  ·
   simpa using z.symm
  have := (List.pairwise_iff_getElem.1 h) (ga l n) (ga l n + i) (by omega) (by omega) (by omega)
  omega
 rcases List.mem_append.1 ha with ha | ha
 ·
  have := hlt a ha; omega
 rw [List.mem_singleton] at ha; subst ha; exact hn
theorem ins_mem {l : List Int} {n x : Int} : x ∈ eb l n ↔ x = n ∨ x ∈ l := by
 unfold eb
 split
 ·
  rename_i h
  constructor
  ·
   exact .inr
  rintro (rfl | z)
  ·
   rw [← h.2, List.getD_eq_getElem?_getD, List.getElem?_eq_getElem h.1]; exact List.getElem_mem h.1
  exact z
 rw [List.mem_append, List.mem_append, List.mem_singleton]
 constructor
 ·
  rintro ((h | h) | h)
  ·
   exact .inr (List.mem_of_mem_take h)
  ·
   exact .inl h
  exact .inr (List.mem_of_mem_drop h)
 rintro (h | h)
 ·
  exact .inl (.inr h)
 rw [← List.take_append_drop (ga l n) l] at h
 rcases List.mem_append.1 h with h | h
 ·
  exact .inl (.inl h)
 exact .inr h
theorem uni_asc {l : List Int} : ∀ {a : List Int}, Asc a → Asc (cv a l) := by
 induction l with
 | nil => exact fun h => h
 | cons x l ih => exact fun h => ih (ins_asc h)
theorem jB {l : List Int} {x : Int} : ∀ {a : List Int}, x ∈ cv a l ↔ x ∈ a ∨ x ∈ l := by
 induction l with
 | nil => intro a; simp [cv]
 | cons y l ih =>
  intro a
  have : cv a (y :: l) = cv (eb a y) l := rfl
  rw [this, ih, ins_mem, List.mem_cons]
  constructor
  ·
   rintro ((h | h) | h)
   ·
    exact .inr (.inl h)
   ·
    exact .inl h
   exact .inr (.inr h)
  rintro (h | h | h)
  ·
   exact .inl (.inr h)
  ·
   exact .inl (.inl h)
  exact .inr h
theorem dE {l : List Int} : ∀ {a : List Int}, (cv a l).length ≤ a.length + l.length := by
 induction l with
 | nil => intro a; exact Nat.le_refl _
 | cons y l ih =>
  intro a
  have z := ih (a := eb a y)
  have A := ins_len (l := a) (n := y)
  have : cv a (y :: l) = cv (eb a y) l := rfl
  rw [this, List.length_cons]; omega
theorem uni_snoc {a l : List Int} {x : Int} : cv a (l ++ [x]) = eb (cv a l) x := by unfold cv; rw [List.foldl_append]; rfl
theorem uni_app {a l m : List Int} : cv a (l ++ m) = cv (cv a l) m := by unfold cv; rw [List.foldl_append]
theorem gZ {α : Type} {d : α} {l : List α} {i : Nat} (h : i < l.length) : l.take (i + 1) = l.take i ++ [l.getD i d] := by
 rw [List.take_add_one, List.getElem?_eq_getElem h, List.getD_eq_getElem?_getD, List.getElem?_eq_getElem h]; rfl
theorem gC {a l o : List Int} {i : Nat} (h : i < l.length) (ho : o = cv a (l.take i)) : eb o (l.getD i 0) = cv a (l.take (i + 1)) := by rw [gZ h (d := 0), uni_snoc, ho]
theorem uni_all {a l o : List Int} {i : Nat} (h : l.length ≤ i) (ho : o = cv a (l.take i)) : o = cv a l := by rw [ho, List.take_of_length_le h]
theorem pre_eqR {l : List Int} {n : Int} {k : Nat} (ha : Asc l) (hk : k ≤ l.length) (A : ∀ j, k ≤ j → j < l.length → n ≤ l.getD j 0) (E : 0 < k → l.getD (k - 1) 0 < n) : k = ga l n := by
 refine pre_eq hk (fun j hj => ?_) (fun hk' => by have := A k (Nat.le_refl _) hk'; omega)
 have J := E (by omega)
 rcases Nat.lt_or_ge j (k - 1) with z | z
 ·
  have := asc_at ha z (by omega); omega
 have : j = k - 1 := by omega
 subst this; exact J
theorem ge_step {l : List Int} {n : Int} {k : Nat} (h : ∀ j, k ≤ j → j < l.length → n ≤ l.getD j 0) (A : n ≤ l.getD (k - 1) 0) : ∀ j, k - 1 ≤ j → j < l.length → n ≤ l.getD j 0 := fun j N E => by
 rcases Nat.lt_or_ge j k with z | z
 ·
  have J : j = k - 1 := by omega
  subst J; exact A
 exact h j z E
theorem cp_ins {l : List Int} {n : Int} {k : Nat} (hk : k = ga l n) (hle : k ≤ l.length) (h : ¬ (k < l.length ∧ l.getD k 0 = n)) : (cpL (l ++ [0]) (k + 1) ((l ++ [0]).drop k)).set k n = eb l n := by
 have e : cpL (l ++ [0]) (k + 1) ((l ++ [0]).drop k) = (l ++ [0]).take (k + 1) ++ l.drop k := by
  unfold cpL
  have A : ((l ++ [0]).drop k).length = l.length + 1 - k := by simp
  have z : (l ++ [(0 : Int)]).length = l.length + 1 := by simp
  rw [A, z, show min (l.length + 1 - k) (l.length + 1 - (k + 1)) = l.length - k by omega, show k + 1 + (l.length - k) = l.length + 1 by omega]
  rw [show List.drop (l.length + 1) (l ++ [(0 : Int)]) = [] from List.drop_of_length_le (by rw [z]; exact Nat.le_refl _), List.append_nil]
  congr 1
  rw [List.drop_append, List.take_append, List.length_drop, show l.length + 1 - (k + 1) = l.length - k by omega, Nat.sub_self, List.take_zero, List.append_nil, List.take_of_length_le (by rw [List.length_drop]; omega)]
 rw [e, ← ins_new hk h, List.append_assoc, List.take_add_one]
 rw [List.set_append]
 have E : (List.take k (l ++ [0])) = l.take k := by rw [List.take_append, Nat.sub_eq_zero_of_le hle, List.take_zero, List.append_nil]
 have J : (l ++ [(0 : Int)])[k]?.toList = [(l ++ [(0 : Int)]).getD k 0] := by
  rw [List.getD_eq_getElem?_getD, List.getElem?_eq_getElem (show k < (l ++ [(0 : Int)]).length by simp; omega)]; rfl
 rw [E, J]
 have N : (List.take k l ++ [(l ++ [(0 : Int)]).getD k 0]).length = k + 1 := by simp; omega
 rw [if_pos (by rw [N]; omega), List.set_append, if_neg (by rw [List.length_take]; omega), List.length_take, show k - min k l.length = 0 by omega]
 simp
def dS (v : VInT) : List Int := (if (aD v.i.op).ra then [v.i.a] else []) ++ ((if (aD v.i.op).rb then [v.i.b] else []) ++ ((if v.i.op = 11 ∨ v.i.op = 12 then [v.i.c] else []) ++ (if v.i.op = 6 then v.args else [])))
def aI (v : VInT) : List Int := if alV v.i.op then cv [] (dS v) else []
def ak (v : VInT) : List Int := if alV v.i.op = true ∧ ((aD v.i.op).wa = true ∨ v.i.op = 6 ∨ v.i.op = 38) then [v.i.a] else []
def bE (b : BlkT) : List Int := if b.fin = 1 then [b.tgt] else if b.fin = 2 then eb [b.tgt] b.els else []
def endV (b : BlkT) : List Int := if b.fin = 2 ∨ b.fin = 3 then [b.reg] else []
theorem reads_no {v : VInT} (h : alV v.i.op = false) : [] = aI v := by unfold aI; rw [h]; rfl
theorem reads_yes {v : VInT} {l : List Int} (h : alV v.i.op = true) (hl : l = dS v) : cv [] l = aI v := by unfold aI; rw [h, hl]; rfl
theorem rrT {l : List Int} {a : Int} {p : Prop} [Decidable p] (h : p) : eb l a = cv l (if p then [a] else []) := by rw [if_pos h]; rfl
theorem rrF {l : List Int} {a : Int} {p : Prop} [Decidable p] (h : ¬ p) : l = cv l (if p then [a] else []) := by rw [if_neg h]; rfl
theorem vra {op : Int} : (aj op).ra = (aD op).ra := by unfold aj; split <;> first | rfl | (rename_i h; subst h; rfl)
theorem vrb {op : Int} : (aj op).rb = (aD op).rb := by unfold aj; split <;> first | rfl | (rename_i h; subst h; rfl)
theorem vf4 {op : Int} (h : alV op = true) : (aj op).form = 4 ↔ op = 11 ∨ op = 12 := by
 unfold alV at h
 have h := of_decide_eq_true h
 by_cases z : op = 38
 ·
  subst z; decide
 have e : aj op = aD op := by unfold aj; rw [if_neg z]
 rw [e]
 obtain ⟨k, hk⟩ := ex37 (op := op) ⟨by omega, by omega⟩
 rw [hk]; clear hk; revert k; decide +kernel
theorem rr_end {v : VInT} {A E J N : List Int} {k : Nat} (hal : alV v.i.op = true) (T : A = cv [] (if (aD v.i.op).ra = true then [v.i.a] else [])) (U : E = cv A (if (aD v.i.op).rb = true then [v.i.b] else [])) (V : J = cv E (if v.i.op = 11 ∨ v.i.op = 12 then [v.i.c] else []))
  (Z : N = cv J (v.args.take k)) (q6 : k = 0 ∨ v.i.op = 6) (h : v.i.op = 6 → v.args.length ≤ k) : N = aI v := by
 have e : v.args.take k = if v.i.op = 6 then v.args else [] := by
  by_cases z : v.i.op = 6
  ·
   rw [if_pos z, List.take_of_length_le (h z)]
  rw [if_neg z]
  have : k = 0 := by omega
  subst this; rfl
 unfold aI dS
 rw [if_pos hal, uni_app, uni_app, uni_app, ← T, ← U, ← V, ← e, ← Z]
theorem cr {a : Int} {p : Prop} [Decidable p] : (if p then [a] else []).length ≤ 1 := by split <;> simp
theorem rr_len {v : VInT} {z A E J : List Int} {k : Nat} (V : z = cv [] (if (aD v.i.op).ra = true then [v.i.a] else [])) (Z : A = cv z (if (aD v.i.op).rb = true then [v.i.b] else [])) (q3 : E = cv A (if v.i.op = 11 ∨ v.i.op = 12 then [v.i.c] else []))
  (q4 : J = cv E (v.args.take k)) : J.length ≤ 3 + v.args.length := by
 have N : z.length ≤ 1 := by rw [V]; exact Nat.le_trans dE (by simpa using cr)
 have T : A.length ≤ 2 := by rw [Z]; exact Nat.le_trans dE (Nat.add_le_add N cr)
 have U : E.length ≤ 3 := by rw [q3]; exact Nat.le_trans dE (Nat.add_le_add T cr)
 rw [q4]; exact Nat.le_trans dE (Nat.add_le_add U (by rw [List.length_take]; omega))
theorem rr_len1 {v : VInT} {z : List Int} (A : z = cv [] (if (aD v.i.op).ra = true then [v.i.a] else [])) : z.length ≤ 1 := by rw [A]; exact Nat.le_trans dE (by simpa using cr)
theorem rr_len2 {v : VInT} {z A : List Int} (E : z.length ≤ 1) (J : A = cv z (if (aD v.i.op).rb = true then [v.i.b] else [])) : A.length ≤ 2 := by rw [J]; exact Nat.le_trans dE (Nat.add_le_add E cr)
theorem writes_no {v : VInT} (h : alV v.i.op = false) : [] = ak v := by unfold ak; rw [if_neg (by simp [h])]
theorem iY {v : VInT} (h : alV v.i.op = true) (z : (aD v.i.op).wa = true ∨ v.i.op = 6 ∨ v.i.op = 38) : [v.i.a] = ak v := by unfold ak; rw [if_pos ⟨h, z⟩]
theorem writes_not {v : VInT} (h : ¬ ((aD v.i.op).wa = true ∨ v.i.op = 6 ∨ v.i.op = 38)) : [] = ak v := by unfold ak; rw [if_neg fun hh => h hh.2]
theorem vwa {op : Int} : ((aj op).wa = true) ↔ ((aD op).wa = true ∨ op = 38) := by
 unfold aj
 split
 ·
  rename_i h; subst h; simp
 rename_i h; constructor
 ·
  exact .inl
 rintro (z | z)
 ·
  exact z
 exact absurd z h
theorem rwr_yes {v : VInT} (h : alV v.i.op = true ∧ ((aj v.i.op).wa = true ∨ v.i.op = 6)) : [v.i.a] = ak v := iY h.1 (by have := vwa (op := v.i.op); rcases h.2 with z | z; (rcases this.1 z with A | A); exact .inl A; exact .inr (.inr A); exact .inr (.inl z))
theorem rwr_no {v : VInT} (h : alV v.i.op = true → (aj v.i.op).wa = false ∧ v.i.op ≠ 6) : [] = ak v := by
 unfold ak
 rw [if_neg]
 rintro ⟨E, z⟩
 obtain ⟨A, J⟩ := h E
 have := vwa (op := v.i.op)
 rcases z with z | z | z
 ·
  rw [this.2 (.inl z)] at A; cases A
 ·
  exact J z
 rw [this.2 (.inr z)] at A; cases A
theorem succ1 {b : BlkT} (h : b.fin = 1) : [b.tgt] = bE b := by unfold bE; rw [if_pos h]
theorem succ2 {b : BlkT} (h : b.fin = 2) : bE b = eb [b.tgt] b.els := by unfold bE; rw [if_neg (by omega), if_pos h]
theorem succ0 {b : BlkT} (h : b.fin ≠ 1 ∧ b.fin ≠ 2) : [] = bE b := by unfold bE; rw [if_neg h.1, if_neg h.2]
theorem min_step {a b o : List Int} {i : Nat} (h : i < a.length) (ho : o = iS (a.take i) b) : (conV b (a.getD i 0) = false → o ++ [a.getD i 0] = iS (a.take (i + 1)) b) ∧ (conV b (a.getD i 0) = true → o = iS (a.take (i + 1)) b) := by
 unfold iS at ho ⊢
 rw [gZ h (d := 0), List.filter_append, ← ho]
 constructor
 ·
  intro hc; rw [List.filter_cons, hc]; rfl
 intro hc; rw [List.filter_cons, hc]; simp
theorem min_len {a b : List Int} : (iS a b).length ≤ a.length := List.length_filter_le _ _
set_option maxHeartbeats 1000000 in
theorem unique_c (ex : FuncId) {a_l : Option Addr} {k_l : Nat} (l : List Int) {F : Fz} {H : Heap} {R : List Fp} (hs : HS (.of H []) F H [] R) (hl : SR F (.slice a_l l.length k_l) l) (hT : TB 37 tabC F) (hlen : l.length ≤ 1048600) : C Tryd.prog 1 (KT 60 ex 37 tabC) 101 [(.slice a_l l.length k_l)] H fun v H' => ∃ (ar : Option Addr) (kr : Nat) (r : List Int) (p : Fp) (F' : Fz), Fz.le F F' ∧ HS (.of H []) F' H' [p] R ∧ v = .slice ar r.length kr ∧ OS F' (.slice ar r.length kr) r p ∧ r = cv [] l := by
 refine aJ Tryd.func101 rfl rfl ?_
 refine aq 1 rfl ?_
 refine wR 2 [] 2 2 [] [(2, (.slice none 0 0))] trivial rfl fun _ => ?_
 refine wR 3 [] 1 0 [3] [(3, (.slice none 0 0))] trivial rfl fun _ => ?_
 refine wR 2 [] 7 9 [] [(7, (.slice a_l l.length k_l)), (8, (iI (l.length : Int))), (9, (iI 0))] trivial rfl fun _ => ?_
 have bb := HS.snoc hs
 have bb : HS _ _ _ [[]] _ := bb
 refine aE (fun (mm : Nat) f H' => ∃ (ow : List Int) (i : Nat) (z : Option Addr) (A : Nat) (J : Fp) (F' : Fz), Fz.le F F' ∧ HS (Base.of H []) F' H' [J] R ∧ OS F' (.slice z ow.length A) ow J ∧ aH f [(2, (.slice none 0 0)), (3, (.slice z ow.length A)), (7, (.slice a_l l.length k_l)), (8, (iI (l.length : Int))), (9, (iI (i : Int)))] ∧ mm = l.length - i ∧ (i ≤ l.length) ∧ (ow = cv [] (l.take i))) _ ⟨([] : List Int), 0, none, 0, [], _, fR, bb, (OS.nil : OS F (.slice none 0 0) ([] : List Int) []), ⟨rfl, rfl, rfl, rfl, rfl, trivial⟩, rfl, (by omega), (by rfl)⟩ ?_
 rintro f1 f4 H4 ⟨ow, i, z, A, J, F4, a3, T, E, b3, rfl, h1, h2⟩ b6
 refine au _ b3 (fun _ => ?_)
 clear b3
 replace hl := hl.mono a3
 have hasc : Asc ow := h2 ▸ uni_asc List.Pairwise.nil
 have hle : ow.length ≤ i := by rw [h2]; exact Nat.le_trans dE (by simp; omega)
 refine aq 1 rfl ?_
 refine wR 2 [] 10 10 [] [(10, (.bool (decide ((i : Int) < (l.length : Int)))))] trivial rfl fun _ => ?_
 refine ap 4 5 (v := (decide ((i : Int) < (l.length : Int)))) rfl rfl rfl rfl (fun a6 => ?_) (fun a6 => ?_)
 ·
  have c7 := a6
  try simp only [BS] at c7
  obtain ⟨e3, b4⟩ := Sv.view (SR.sv hl T)
  have g9 := fI (b4 i)
  refine wR 2 [(1, .o (iI (l.getD i 0)))] 11 12 [5] [(5, (iI (l.getD i 0)))] (vA (Sv.ix (j := (i : Int)) (SR.sv hl T) (by omega) (by omega)) (vA (ql 3 0 (vI (b4 i) (by omega)) rfl rfl) trivial)) rfl fun _ => ?_
  refine wR 3 [] 13 14 [6] [(6, (iI (ow.length : Int)))] trivial rfl fun _ => ?_
  refine aE (fun (mm : Nat) f H' => ∃ (k : Nat), H' = H4 ∧ aH f [(2, (.slice none 0 0)), (3, (.slice z ow.length A)), (5, (iI (l.getD i 0))), (6, (iI (k : Int))), (7, (.slice a_l l.length k_l)), (8, (iI (l.length : Int))), (9, (iI (i : Int))), (10, (.bool (decide ((i : Int) < (l.length : Int)))))] ∧ mm = k + 1 ∧ (k ≤ ow.length) ∧ (∀ j, k ≤ j → j < ow.length → l.getD i 0 ≤ ow.getD j 0)) _ ⟨ow.length, rfl, ⟨rfl, rfl, rfl, rfl, rfl, rfl, rfl, rfl, trivial⟩, rfl, (by omega), (by intro j h5 h6; omega)⟩ ?_
  rintro es e4 H4 ⟨k, rfl, a8, rfl, h3, h4⟩ c3
  refine au _ a8 (fun _ => ?_)
  clear a8
  refine aq 2 rfl ?_
  obtain ⟨d2, bk⟩ := Sv.view (OS.sv E T (i := 0) rfl)
  have e5 := fI (bk (k - 1))
  refine wR 1 [(5, .e ((k - 1 : Nat) : Int)), (7, .o (iI (ow.getD (k - 1) 0)))] 15 25 [] [(25, (.bool ((decide ((0 : Int) < (k : Int))) && (decide ((l.getD i 0) ≤ (ow.getD (k - 1) 0))))))] (vA (fun (Z : (decide ((0 : Int) < (k : Int))) = true) => (ve (n := (k : Int) - 1) (m := ((k - 1 : Nat) : Int)) (by (try simp only [BS] at Z); omega) (by (try simp only [BS] at Z); omega))) (vA (fun (Z : (decide ((0 : Int) < (k : Int))) = true) => (Sv.ix (j := ((k - 1 : Nat) : Int)) (OS.sv E T (i := 0) rfl) (by (try simp only [BS] at Z); omega) (by (try simp only [BS] at Z); omega))) (vA (fun (Z : (decide ((0 : Int) < (k : Int))) = true) => (ql 3 0 (vI (bk (k - 1)) (by (try simp only [BS] at Z); omega)) rfl rfl)) trivial))) rfl fun _ => ?_
  refine ap 2 6 (v := ((decide ((0 : Int) < (k : Int))) && (decide ((l.getD i 0) ≤ (ow.getD (k - 1) 0))))) rfl rfl rfl rfl (fun av => ?_) (fun av => ?_)
  ·
   have a4 := av
   try simp only [BS] at a4
   refine wR 2 [(1, .e ((k - 1 : Nat) : Int))] 26 27 [6] [(6, (iI ((k - 1 : Nat) : Int)))] (vA (ve (n := (k : Int) - 1) (m := ((k - 1 : Nat) : Int)) (by omega) (by omega)) trivial) rfl fun _ => ?_
   refine c3 _ _ _ ?_ ⟨k - 1, rfl, ⟨rfl, rfl, rfl, rfl, rfl, rfl, rfl, rfl, trivial⟩, rfl, (by omega), (by exact ge_step h4 (by omega))⟩
   omega
  have a4 := av
  try simp only [BS] at a4
  have hk := pre_eqR hasc h3 h4 (by omega)
  obtain ⟨d3, bl⟩ := Sv.view (OS.sv E T (i := 0) rfl)
  have e6 := fI (bl k)
  refine wR 1 [(8, .o (iI (ow.getD k 0)))] 28 39 [] [(39, (.bool ((decide ((k : Int) < (ow.length : Int))) && ((ow.getD k 0) == (l.getD i 0)))))] (vA (fun (Z : (decide ((k : Int) < (ow.length : Int))) = true) => (Sv.ix (j := (k : Int)) (OS.sv E T (i := 0) rfl) (by (try simp only [BS] at Z); omega) (by (try simp only [BS] at Z); omega))) (vA (fun (Z : (decide ((k : Int) < (ow.length : Int))) = true) => (ql 3 0 (vI (bl k) (by (try simp only [BS] at Z); omega)) rfl rfl)) trivial)) rfl fun _ => ?_
  refine ap 3 2 (v := ((decide ((k : Int) < (ow.length : Int))) && ((ow.getD k 0) == (l.getD i 0)))) rfl rfl rfl rfl (fun ax => ?_) (fun ax => ?_)
  ·
   have a5 := ax
   try simp only [BS] at a5
   refine wR 1 [] 9 9 [55] [(9, (iI ((i : Int) + 1)))] (vA (vi (n := (i : Int) + 1) (by omega)) trivial) rfl fun _ => ?_
   refine b6 _ _ _ ?_ ⟨ow, i + 1, z, A, J, _, (a3), T, E, ⟨rfl, rfl, rfl, rfl, rfl, trivial⟩, rfl, (by omega), (by (rw [← gC (by omega) h2]; exact jM hk (by omega) (by omega)))⟩
   omega
  have a5 := ax
  try simp only [BS] at a5
  refine aa ?_
  refine wm (.slice z ow.length A) rfl rfl rfl ?_
  refine aC (aP (α := Int) (ps := [(0, (iI 0))]) (cells := [(iI 0)]) ([0] : List Int) T rfl rfl rfl (by kernel_rfl) ⟨[(iI 0)], [], rfl, ⟨rfl, by omega⟩, rfl⟩ rfl) rfl rfl ?_
  rintro _ et dn ⟨e0, fd, rfl, ci, (a9 : HS _ _ _ [J, dn] _), _⟩
  refine aC (aW (α := Int) (q := 0) E a9 rfl rfl rfl (OS.sv ci a9 (i := 1) rfl) rfl rfl rfl rfl rfl rfl rfl (by (simp only [List.length_append, List.length_cons, List.length_nil]; omega))) rfl rfl ?_
  rintro _ c8 b7 ⟨U, V, rfl, ay, (a1 : HS _ _ _ [b7, _] _), _⟩
  refine wa (.slice U (ow ++ ([0] : List Int)).length V) rfl rfl rfl ?_
  refine ab 2 rfl ?_
  have la : (ow ++ ([0] : List Int)).length = ow.length + 1 := by simp
  refine aQ rfl ?_
  refine fm (.slice U (ow ++ ([0] : List Int)).length V) rfl rfl rfl ?_
  refine fm (iI (k : Int)) rfl rfl rfl ?_
  refine wfv (v := (iI ((k : Int) + 1))) (ap_add rfl rfl (w_i64 (n := (k : Int) + 1) (by omega))) ?_
  refine cL (id := .r) (rs_cutX (α := Int) (i := k + 1) ay a1.log0 (q := 0) rfl rfl rfl rfl (optN (by omega)) (by omega)) rfl rfl (by rintro _ _ _ ⟨_, _, _, hH, _⟩; simp only at hH; subst hH; exact did_r fun b hb => absurd hb List.not_mem_nil) (kb rfl) ?_
  rintro _ _ _ ⟨e1, fi, rfl, ad, em, bz⟩ c4 b0
  simp only at ad; replace ad := ad.symm; subst ad
  have an := HS.lg a1.log0 a1 b0
  generalize ({ { c8 with log := [] } with log := c4 } : Heap) = cc at an ⊢
  refine fm (.slice U (ow ++ ([0] : List Int)).length V) rfl rfl rfl ?_
  refine fm (iI (k : Int)) rfl rfl rfl ?_
  refine cL (id := .r) (rs_cutX (α := Int) (i := k) ay an.log0 (q := 0) rfl rfl rfl rfl (optN (by omega)) (by omega)) rfl rfl (by rintro _ _ _ ⟨_, _, _, hH, _⟩; simp only at hH; subst hH; exact did_r fun b hb => absurd hb List.not_mem_nil) (kb rfl) ?_
  rintro _ _ _ ⟨e2, f0, rfl, ag, co, ds⟩ c5 b1
  simp only at ag; replace ag := ag.symm; subst ag
  have a2 := HS.lg an.log0 an b1
  generalize ({ { cc with log := [] } with log := c5 } : Heap) = dv at a2 ⊢
  refine cL (id := .x (b7.map Prod.fst)) (rs_cp (α := Int) (i := k + 1) ay a2.log0 (q := 0) rfl rfl bz (by omega) co rfl rfl rfl) rfl rfl (by rintro _ _ b8 ⟨rfl, al, _, hwr⟩; exact dh rfl rfl (Wr.did hwr)) (kb rfl) ?_
  rintro _ c9 b8 ⟨rfl, al, N, _⟩ c6 b2
  replace N := HS.lg N a2 b2
  generalize ({ c9 with log := c6 } : Heap) = d1 at N ⊢
  have N : HS _ _ _ [b8, _] _ := N
  have d4 := OS.len' al
  refine bU ?_
  refine aq 1 rfl ?_
  refine aa ?_
  refine wRo 4 0 [] 51 54 [] [(53, (iI (l.getD i 0))), (54, (.pointer (some ⟨sB (.slice U (ow ++ ([0] : List Int)).length V), sO (.slice U (ow ++ ([0] : List Int)).length V) + k * Rp.sz Int, none⟩)))] (vA (Sv.ix (j := (k : Int)) (OS.sv al N (i := 0) rfl) (by omega) (by omega)) trivial) rfl fun _ => ?_
  refine aF (dF (α := Int) (j := k) (off := 0) (q := 0) (l.getD i 0) al N rfl rfl rfl rfl rfl rfl rfl rfl (aK (x := (0 : Int)) (by omega)) rfl (by rintro cs ⟨rfl, _⟩; exact ⟨Nat.le_of_ble_eq_true rfl, rfl, by omega⟩)) rfl ?_
  rintro _ ez b9 ⟨a0, (c0 : HS _ _ _ [b9, _] _), _⟩
  have dt := OS.len' a0
  refine ab 2 rfl ?_
  refine wR 1 [] 9 9 [55] [(9, (iI ((i : Int) + 1)))] (vA (vi (n := (i : Int) + 1) (by omega)) trivial) rfl fun _ => ?_
  refine b6 _ _ _ ?_ ⟨(cpL (ow ++ ([0] : List Int)) (k + 1) ((ow ++ ([0] : List Int)).drop k)).set k (l.getD i 0), i + 1, U, V, b9, _, (a3), (HS.sub c0 (List.sublist_append_left _ _)), (OS.norm a0), (agC rfl (agC (show Value.slice U (ow ++ ([0] : List Int)).length V = Value.slice U ((cpL (ow ++ ([0] : List Int)) (k + 1) ((ow ++ ([0] : List Int)).drop k)).set k (l.getD i 0)).length V by rw [OS.len' a0]) ⟨rfl, rfl, rfl, trivial⟩)), rfl, (by omega), (by (rw [cp_ins hk h3 (by omega)]; exact gC (by omega) h2))⟩
  omega
 have c7 := a6
 try simp only [BS] at c7
 refine wR 1 [] 2 2 [56] [(2, (.slice z ow.length A))] trivial rfl fun _ => ?_
 refine ah ⟨.inr rfl, _, rfl, z, A, ow, J, _, (a3), (HS.only T (i := 0) rfl), rfl, E, (by exact uni_all (by omega) h2)⟩
set_option maxHeartbeats 1000000 in
theorem vreads_c (ex : FuncId) {ad : Option Addr} {ag : Nat} (iv : VInT) {F : Fz} {H : Heap} {R : List Fp} (hs : HS (.of H []) F H [] R) (hA : in64 iv.i.op) (hB : in64 iv.i.a) (hC : in64 iv.i.b) (hD : in64 iv.i.c) (hE : in64 iv.i.n) (z : SR F (.slice ad iv.args.length ag) iv.args) (hT : TB 37 tabC F) (hlen : iv.args.length ≤ 1048576) : C Tryd.prog 1 (KT 60 ex 37 tabC) 57 [(.agg ⟨[(iI iv.i.op), (iI iv.i.a), (iI iv.i.b), (iI iv.i.c), (iI iv.i.n), (.slice ad iv.args.length ag)]⟩)] H fun v H' => ∃ (ar : Option Addr) (kr : Nat) (r : List Int) (p : Fp) (F' : Fz), Fz.le F F' ∧ HS (.of H []) F' H' [p] R ∧ v = .slice ar r.length kr ∧ OS F' (.slice ar r.length kr) r p ∧ r = aI iv := by
 refine aJ Tryd.func57 rfl rfl ?_
 refine aq 1 rfl ?_
 refine aa ?_
 refine aC (be hs rfl rfl) rfl rfl ?_
 rintro _ H2 _ ⟨b1, rfl, (a8 : HS _ _ _ [[(b1, .cells [(iI iv.i.op), (iI iv.i.a), (iI iv.i.b), (iI iv.i.c), (iI iv.i.n), (.slice ad iv.args.length ag)] none false)]] _), _⟩
 refine wa (.slice none 0 0) rfl rfl rfl ?_
 refine ab 3 rfl ?_
 refine wR 1 [(2, .o (iI iv.i.op)), (3, .o (.bool (alV iv.i.op)))] 6 10 [] [(10, (.bool (!(alV iv.i.op))))] (vA (ql 3 0 (HS.hc a8 (i := 0) rfl) rfl rfl) (vA (m1.valw_c_q ex iv.i.op H2) trivial)) rfl fun _ => ?_
 refine ap 1 2 (v := (!(alV iv.i.op))) rfl rfl rfl rfl (fun c8 => ?_) (fun c8 => ?_)
 ·
  have c4 := c8
  try simp only [BS] at c4
  refine wR 1 [] 2 2 [] [(2, (.slice none 0 0))] trivial rfl fun _ => ?_
  refine ah ⟨.inr rfl, _, rfl, none, 0, ([] : List Int), [], _, fR, (HS.cons (HS.forget a8)), rfl, (OS.nil : OS _ _ _ []), (by exact reads_no (by assumption))⟩
 have c4 := c8
 try simp only [BS] at c4
 refine aa ?_
 refine wRo 3 0 [(2, .o (iI iv.i.op))] 12 14 [] [(14, (iI iv.i.op))] (vA (ql 3 0 (HS.hc a8 (i := 0) rfl) rfl rfl) trivial) rfl fun _ => ?_
 refine az (am rfl rfl rfl) rfl rfl (m1.mInfo_c ex iv.i.op (HS.call a8) (by omega) hT) ?_
 rintro _ H7 ⟨x7, o7, F7, dk, d4, rfl, hm, hn, rfl, rfl⟩
 replace d4 : HS _ _ _ [_] _ := HS.back a8 rfl d4
 replace hT := hT.mono dk
 replace z := z.mono dk
 refine wRo 3 4 [] 16 17 [11] [(16, (.agg ⟨[(.string ⟨⟨(aD iv.i.op).name.b⟩⟩), (iI (aD iv.i.op).form), (.bool (aD iv.i.op).ra), (.bool (aD iv.i.op).wa), (.bool (aD iv.i.op).rb), (.bool (aD iv.i.op).mt), (iI (aD iv.i.op).words)]⟩)), (17, (.bool (infO iv.i.op)))] trivial rfl fun _ => ?_
 refine aC (aR d4 rfl) rfl rfl ?_
 rintro _ hS _ ⟨b9, rfl, (g9 : HS _ _ _ [_, [(b9, .cells [(.string ⟨⟨[]⟩⟩), (iI 0), (.bool false), (.bool false), (.bool false), (.bool false), (iI 0)] none false)]] _), _⟩
 refine aF (aw (q := 1) g9 rfl rfl rfl rfl rfl rfl rfl rfl rfl) rfl ?_
 rintro _ hV _ ⟨(dv : HS _ _ _ [_, [(b9, .cells [(.string ⟨⟨(aD iv.i.op).name.b⟩⟩), (iI (aD iv.i.op).form), (.bool (aD iv.i.op).ra), (.bool (aD iv.i.op).wa), (.bool (aD iv.i.op).rb), (.bool (aD iv.i.op).mt), (iI (aD iv.i.op).words)] none false)]] _), _⟩
 refine wa (.bool (infO iv.i.op)) rfl rfl rfl ?_
 refine ab 2 rfl ?_
 refine wR 3 [] 1 0 [5] [(5, (.slice none 0 0))] trivial rfl fun _ => ?_
 refine wR 1 [(1, .o (.bool (aD iv.i.op).ra))] 18 19 [] [(19, (.bool (aD iv.i.op).ra))] (vA (ql 4 2 (HS.hc dv (i := 1) rfl) rfl rfl) trivial) rfl fun _ => ?_
 have ax := HS.snoc dv
 have ax : HS _ _ _ [_, _, []] _ := ax
 let cc : Fp := [(b1, .cells [(iI iv.i.op), (iI iv.i.a), (iI iv.i.b), (iI iv.i.c), (iI iv.i.n), (.slice ad iv.args.length ag)] none false)]
 let ch : Fp := [(b9, .cells [(.string ⟨⟨(aD iv.i.op).name.b⟩⟩), (iI (aD iv.i.op).form), (.bool (aD iv.i.op).ra), (.bool (aD iv.i.op).wa), (.bool (aD iv.i.op).rb), (.bool (aD iv.i.op).mt), (iI (aD iv.i.op).words)] none false)]
 refine aY (fun f H' => ∃ (l1 : List Int) (A : Option Addr) (N : Nat) (V : Fp) (F' : Fz), Fz.le F7 F' ∧ HS (Base.of H []) F' H' [cc, ch, V] R ∧ OS F' (.slice A l1.length N) l1 V ∧ aH f [(1, (.pointer (some ⟨b1, 0, none⟩))), (2, (.slice none 0 0)), (3, (.pointer (some ⟨b9, 0, none⟩))), (5, (.slice A l1.length N))] ∧ (l1 = if (aD iv.i.op).ra = true then [iv.i.a] else [])) (fun em => ?_) ?_
 ·
  refine ap 0 0 (v := (aD iv.i.op).ra) rfl rfl rfl rfl (fun bl => ?_) (fun bl => ?_)
  ·
   have c3 := bl
   try simp only [BS] at c3
   refine aa ?_
   refine wRo 4 0 [(3, .o (iI iv.i.a))] 20 23 [] [(20, (.slice none 0 0)), (23, (iI iv.i.a))] (vA (ql 3 1 (HS.hc ax (i := 0) rfl) rfl rfl) trivial) rfl fun _ => ?_
   refine aC (aP (α := Int) (ps := [(0, (iI iv.i.a))]) (cells := [(iI iv.i.a)]) ([iv.i.a] : List Int) ax rfl rfl rfl (by kernel_rfl) ⟨[(iI iv.i.a)], [], rfl, ⟨rfl, by omega⟩, rfl⟩ rfl) rfl rfl ?_
   rintro _ hX hp ⟨ih, i3, rfl, g2, (d1 : HS _ _ _ [_, _, _, hp] _), _⟩
   refine aC (aW (α := Int) (q := 2) (OS.nil : OS F7 (.slice none 0 0) ([] : List Int) []) d1 rfl rfl rfl (OS.sv g2 d1 (i := 3) rfl) rfl rfl rfl rfl rfl rfl rfl (by (simp only [List.length_append, List.length_cons, List.length_nil]; omega))) rfl rfl ?_
   rintro _ hY e3 ⟨ci, e0, rfl, b7, (ha : HS _ _ _ [_, _, e3, _] _), _⟩
   have b7 : OS F7 (.slice ci ([iv.i.a] : List Int).length e0) ([iv.i.a] : List Int) e3 := b7
   refine wa (.slice ci ([iv.i.a] : List Int).length e0) rfl rfl rfl ?_
   refine ab 0 rfl ?_
   exact em _ _ ⟨([iv.i.a] : List Int), ci, e0, e3, _, fR, (HS.sub ha (List.sublist_append_left _ _)), b7, ⟨rfl, rfl, rfl, rfl, trivial⟩, (by (rw [if_pos (by first | assumption | omega)]; done))⟩
  have c3 := bl
  try simp only [BS] at c3
  exact em _ _ ⟨([] : List Int), none, 0, [], _, fR, ax, (OS.nil : OS F7 (.slice none 0 0) ([] : List Int) []), ⟨rfl, rfl, rfl, rfl, trivial⟩, (by (rw [if_neg (by first | omega | (intro hh; simp_all; done))]; done))⟩
 skip
 rintro it hW ⟨l1, A, N, V, hj, b3, a6, a9, dl, q1⟩
 refine au _ dl (fun _ => ?_)
 clear dl
 replace hT := hT.mono b3
 replace z := z.mono b3
 have n1 : l1.length ≤ 1 := by rw [q1]; exact cr
 refine aq 3 rfl ?_
 refine wR 1 [(1, .o (.bool (aD iv.i.op).rb))] 26 27 [] [(27, (.bool (aD iv.i.op).rb))] (vA (ql 4 4 (HS.hc a6 (i := 1) rfl) rfl rfl) trivial) rfl fun _ => ?_
 refine aY (fun f H' => ∃ (l2 : List Int) (E : Option Addr) (T : Nat) (Z : Fp) (F' : Fz), Fz.le hj F' ∧ HS (Base.of H []) F' H' [cc, ch, Z] R ∧ OS F' (.slice E l2.length T) l2 Z ∧ aH f [(1, (.pointer (some ⟨b1, 0, none⟩))), (2, (.slice none 0 0)), (5, (.slice E l2.length T))] ∧ (l2 = l1 ++ if (aD iv.i.op).rb = true then [iv.i.b] else [])) (fun es => ?_) ?_
 ·
  refine ap 0 0 (v := (aD iv.i.op).rb) rfl rfl rfl rfl (fun bz => ?_) (fun bz => ?_)
  ·
   have c5 := bz
   try simp only [BS] at c5
   refine aa ?_
   refine wRo 4 0 [(3, .o (iI iv.i.b))] 28 31 [] [(28, (.slice A l1.length N)), (31, (iI iv.i.b))] (vA (ql 3 2 (HS.hc a6 (i := 0) rfl) rfl rfl) trivial) rfl fun _ => ?_
   refine aC (aP (α := Int) (ps := [(0, (iI iv.i.b))]) (cells := [(iI iv.i.b)]) ([iv.i.b] : List Int) a6 rfl rfl rfl (by kernel_rfl) ⟨[(iI iv.i.b)], [], rfl, ⟨rfl, by omega⟩, rfl⟩ rfl) rfl rfl ?_
   rintro _ h2 hr ⟨ii, ja, rfl, g3, (d2 : HS _ _ _ [_, _, V, hr] _), _⟩
   refine aC (aW (α := Int) (q := 2) a9 d2 rfl rfl rfl (OS.sv g3 d2 (i := 3) rfl) rfl rfl rfl rfl rfl rfl rfl (by (simp only [List.length_append, List.length_cons, List.length_nil]; omega))) rfl rfl ?_
   rintro _ h3 f4 ⟨fd, f1, rfl, g4, (hb : HS _ _ _ [_, _, f4, _] _), _⟩
   refine wa (.slice fd (l1 ++ ([iv.i.b] : List Int)).length f1) rfl rfl rfl ?_
   refine ab 0 rfl ?_
   exact es _ _ ⟨l1 ++ ([iv.i.b] : List Int), fd, f1, f4, _, fR, (HS.sub hb (List.sublist_append_left _ _)), g4, ⟨rfl, rfl, rfl, trivial⟩, (by (rw [if_pos (by first | assumption | omega)]; done))⟩
  have c5 := bz
  try simp only [BS] at c5
  exact es _ _ ⟨l1, A, N, V, _, fR, a6, a9, ⟨rfl, rfl, rfl, trivial⟩, (by (rw [if_neg (by first | omega | (intro hh; simp_all; done)), List.append_nil]))⟩
 skip
 rintro iz h1 ⟨l2, E, T, Z, hk, b4, ay, bb, dn, q2⟩
 refine au _ dn (fun _ => ?_)
 clear dn
 replace hT := hT.mono b4
 replace z := z.mono b4
 have n2 : l2.length ≤ 2 := by rw [q2, List.length_append]; exact Nat.add_le_add n1 cr
 refine aq 3 rfl ?_
 refine wR 1 [(2, .o (iI iv.i.op)), (7, .o (iI iv.i.op))] 34 43 [] [(43, (.bool ((iv.i.op == 11) || (iv.i.op == 12))))] (vA (ql 3 0 (HS.hc ay (i := 0) rfl) rfl rfl) (vA (fun (g1 : (iv.i.op == 11) = false) => (ql 3 0 (HS.hc ay (i := 0) rfl) rfl rfl)) trivial)) rfl fun _ => ?_
 refine aY (fun f H' => ∃ (l3 : List Int) (J : Option Addr) (U : Nat) (av : Fp) (F' : Fz), Fz.le hk F' ∧ HS (Base.of H []) F' H' [cc, ch, av] R ∧ OS F' (.slice J l3.length U) l3 av ∧ aH f [(1, (.pointer (some ⟨b1, 0, none⟩))), (2, (.slice none 0 0)), (5, (.slice J l3.length U))] ∧ (l3 = l2 ++ if iv.i.op = 11 ∨ iv.i.op = 12 then [iv.i.c] else [])) (fun et => ?_) ?_
 ·
  refine ap 0 0 (v := ((iv.i.op == 11) || (iv.i.op == 12))) rfl rfl rfl rfl (fun b0 => ?_) (fun b0 => ?_)
  ·
   have c6 := b0
   try simp only [BS] at c6
   refine aa ?_
   refine wRo 4 0 [(3, .o (iI iv.i.c))] 44 47 [] [(44, (.slice E l2.length T)), (47, (iI iv.i.c))] (vA (ql 3 3 (HS.hc ay (i := 0) rfl) rfl rfl) trivial) rfl fun _ => ?_
   refine aC (aP (α := Int) (ps := [(0, (iI iv.i.c))]) (cells := [(iI iv.i.c)]) ([iv.i.c] : List Int) ay rfl rfl rfl (by kernel_rfl) ⟨[(iI iv.i.c)], [], rfl, ⟨rfl, by omega⟩, rfl⟩ rfl) rfl rfl ?_
   rintro _ h5 ht ⟨ik, jb, rfl, g5, (d3 : HS _ _ _ [_, _, Z, ht] _), _⟩
   refine aC (aW (α := Int) (q := 2) bb d3 rfl rfl rfl (OS.sv g5 d3 (i := 3) rfl) rfl rfl rfl rfl rfl rfl rfl (by (simp only [List.length_append, List.length_cons, List.length_nil]; omega))) rfl rfl ?_
   rintro _ h6 f5 ⟨fi, f2, rfl, g6, (he : HS _ _ _ [_, _, f5, _] _), _⟩
   refine wa (.slice fi (l2 ++ ([iv.i.c] : List Int)).length f2) rfl rfl rfl ?_
   refine ab 0 rfl ?_
   exact et _ _ ⟨l2 ++ ([iv.i.c] : List Int), fi, f2, f5, _, fR, (HS.sub he (List.sublist_append_left _ _)), g6, ⟨rfl, rfl, rfl, trivial⟩, (by (rw [if_pos (by first | assumption | omega)]; done))⟩
  have c6 := b0
  try simp only [BS] at c6
  exact et _ _ ⟨l2, E, T, Z, _, fR, ay, bb, ⟨rfl, rfl, rfl, trivial⟩, (by (rw [if_neg (by first | omega | (intro hh; simp_all; done)), List.append_nil]))⟩
 skip
 rintro i1 h4 ⟨l3, J, U, av, hl, b6, a0, bk, ds, q3⟩
 refine au _ ds (fun _ => ?_)
 clear ds
 replace hT := hT.mono b6
 replace z := z.mono b6
 have n3 : l3.length ≤ 3 := by rw [q3, List.length_append]; exact Nat.add_le_add n2 cr
 refine aq 3 rfl ?_
 refine wR 1 [(2, .o (iI iv.i.op))] 50 53 [] [(53, (.bool (iv.i.op == 6)))] (vA (ql 3 0 (HS.hc a0 (i := 0) rfl) rfl rfl) trivial) rfl fun _ => ?_
 refine aY (fun f H' => ∃ (l4 : List Int) (al : Option Addr) (an : Nat) (a4 : Fp) (F' : Fz), Fz.le hl F' ∧ HS (Base.of H []) F' H' [cc, ch, a4] R ∧ OS F' (.slice al l4.length an) l4 a4 ∧ aH f [(2, (.slice none 0 0)), (5, (.slice al l4.length an))] ∧ (l4 = l3 ++ if iv.i.op = 6 then iv.args else [])) (fun ez => ?_) ?_
 ·
  refine ap 0 0 (v := (iv.i.op == 6)) rfl rfl rfl rfl (fun b2 => ?_) (fun b2 => ?_)
  ·
   have c7 := b2
   try simp only [BS] at c7
   refine aa ?_
   refine wRo 3 0 [(2, .o (.slice ad iv.args.length ag))] 54 56 [] [(54, (.slice J l3.length U)), (56, (.slice ad iv.args.length ag))] (vA (ql 25 5 (HS.hc a0 (i := 0) rfl) rfl rfl) trivial) rfl fun _ => ?_
   refine aC (aW (α := Int) (q := 2) bk a0 rfl rfl rfl (SR.sv z a0) rfl rfl rfl rfl rfl rfl rfl (by omega)) rfl rfl ?_
   rintro _ h8 f7 ⟨f0, f3, rfl, g7, (hg : HS _ _ _ [_, _, f7] _), _⟩
   refine wa (.slice f0 (l3 ++ iv.args).length f3) rfl rfl rfl ?_
   refine ab 0 rfl ?_
   exact ez _ _ ⟨l3 ++ iv.args, f0, f3, f7, _, fR, hg, g7, ⟨rfl, rfl, trivial⟩, (by (rw [if_pos (by first | assumption | omega)]; done))⟩
  have c7 := b2
  try simp only [BS] at c7
  exact ez _ _ ⟨l3, J, U, av, _, fR, a0, bk, ⟨rfl, rfl, trivial⟩, (by (rw [if_neg (by first | omega | (intro hh; simp_all; done)), List.append_nil]))⟩
 skip
 rintro i2 h7 ⟨l4, al, an, a4, hK, c9, hf, e2, dt, q4⟩
 refine au _ dt (fun _ => ?_)
 clear dt
 have n4 : l4.length ≤ 1048579 := by rw [q4, List.length_append]; (have hq : (if iv.i.op = 6 then iv.args else []).length ≤ iv.args.length := by split <;> first | exact Nat.le_refl _ | exact Nat.zero_le _); omega
 refine aq 2 rfl ?_
 refine aa ?_
 refine wm (.slice al l4.length an) rfl rfl rfl ?_
 obtain ⟨hM, dd, a7, g8, hG⟩ := OS.frz e2 hf (i := 2) rfl
 have a7 : HS _ _ _ [_, _, _] _ := a7
 replace hT := (hT.mono c9).mono dd
 refine az (am rfl rfl rfl) rfl rfl (unique_c ex l4 (HS.call a7) g8 hT (by omega)) ?_
 rintro _ ib ⟨co, e1, jc, f9, hQ, g0, b8, rfl, e6, rfl⟩
 replace b8 : HS _ _ _ [_, _, _, f9] _ := HS.back a7 rfl b8
 refine wa (.slice co (cv [] l4).length e1) rfl rfl rfl ?_
 refine ab 1 rfl ?_
 refine ah ⟨.inr rfl, _, rfl, co, e1, cv [] l4, f9, _, (fT (fT (fT (fT (fT (fT (dk) b3) b4) b6) c9) dd) g0), (HS.only b8 (i := 3) rfl), rfl, e6, (by exact reads_yes (by assumption) (by simp only [q4, q3, q2, q1, dS, List.append_assoc]))⟩
set_option maxHeartbeats 1000000 in
theorem jG (ex : FuncId) {Z : Option Addr} {ad : Nat} (iv : VInT) {F : Fz} {H : Heap} {R : List Fp} (hs : HS (.of H []) F H [] R) (g5 : in64 iv.i.op) (g6 : in64 iv.i.a) (g7 : in64 iv.i.b) (g8 : in64 iv.i.c) (g9 : in64 iv.i.n) (z : SR F (.slice Z iv.args.length ad) iv.args) (hT : TB 37 tabC F) (hlen : iv.args.length ≤ 1048576) : C Tryd.prog 1 (KT 60 ex 37 tabC) 58 [(.agg ⟨[(iI iv.i.op), (iI iv.i.a), (iI iv.i.b), (iI iv.i.c), (iI iv.i.n), (.slice Z iv.args.length ad)]⟩)] H fun v H' => ∃ (ar : Option Addr) (kr : Nat) (r : List Int) (F' : Fz), Fz.le F F' ∧ HS (.of H []) F' H' [] R ∧ v = .slice ar r.length kr ∧ SR F' (.slice ar r.length kr) r ∧ r = aI iv := by
 refine aJ Tryd.func58 rfl rfl ?_
 refine aq 1 rfl ?_
 refine aa ?_
 refine aC (be hs rfl rfl) rfl rfl ?_
 rintro _ H2 _ ⟨b1, rfl, (a3 : HS _ _ _ [[(b1, .cells [(iI iv.i.op), (iI iv.i.a), (iI iv.i.b), (iI iv.i.c), (iI iv.i.n), (.slice Z iv.args.length ad)] none false)]] _), _⟩
 refine wa (.slice none 0 0) rfl rfl rfl ?_
 refine ab 2 rfl ?_
 refine wR 3 [] 1 0 [3] [(3, (.slice none 0 0))] trivial rfl fun _ => ?_
 refine wR 1 [(2, .o (iI iv.i.op)), (3, .o (.bool (alV iv.i.op)))] 6 10 [] [(10, (.bool (!(alV iv.i.op))))] (vA (ql 3 0 (HS.hc a3 (i := 0) rfl) rfl rfl) (vA (m1.jJ ex iv.i.op H2) trivial)) rfl fun _ => ?_
 refine ap 1 2 (v := (!(alV iv.i.op))) rfl rfl rfl rfl (fun c9 => ?_) (fun c9 => ?_)
 ·
  have c5 := c9
  try simp only [BS] at c5
  refine wR 1 [] 2 2 [11] [(2, (.slice none 0 0))] trivial rfl fun _ => ?_
  refine ah ⟨.inr rfl, _, rfl, none, 0, ([] : List Int), _, fR, (HS.forget a3), rfl, (SR.nil : SR F (.slice none 0 0) ([] : List Int)), (by exact reads_no (by assumption))⟩
 have c5 := c9
 try simp only [BS] at c5
 have hal : alV iv.i.op = true := by assumption
 refine aa ?_
 refine wRo 3 0 [(2, .o (iI iv.i.op))] 12 14 [] [(14, (iI iv.i.op))] (vA (ql 3 0 (HS.hc a3 (i := 0) rfl) rfl rfl) trivial) rfl fun _ => ?_
 refine az (am rfl rfl rfl) rfl rfl (m3.jH ex iv.i.op (HS.call a3) (by omega) hT) ?_
 rintro _ H8 ⟨x8, F8, dd, dt, rfl, g2, g3, rfl⟩
 replace dt : HS _ _ _ [_] _ := HS.back a3 rfl dt
 replace hT := hT.mono dd
 replace z := z.mono dd
 refine aC (aR dt rfl) rfl rfl ?_
 rintro _ hp _ ⟨b9, rfl, (f1 : HS _ _ _ [_, [(b9, .cells [(.string ⟨⟨[]⟩⟩), (iI 0), (.bool false), (.bool false), (.bool false), (.bool false), (iI 0)] none false)]] _), _⟩
 refine aF (aw (q := 1) f1 rfl rfl rfl rfl rfl rfl rfl rfl rfl) rfl ?_
 rintro _ hq _ ⟨(an : HS _ _ _ [_, [(b9, .cells [(.string ⟨⟨(aj iv.i.op).name.b⟩⟩), (iI (aj iv.i.op).form), (.bool (aj iv.i.op).ra), (.bool (aj iv.i.op).wa), (.bool (aj iv.i.op).rb), (.bool (aj iv.i.op).mt), (iI (aj iv.i.op).words)] none false)]] _), _⟩
 refine ab 3 rfl ?_
 refine wR 1 [(1, .o (.bool (aj iv.i.op).ra))] 16 17 [] [(17, (.bool (aj iv.i.op).ra))] (vA (ql 4 2 (HS.hc an (i := 1) rfl) rfl rfl) trivial) rfl fun _ => ?_
 let b7 : Fp := [(b1, .cells [(iI iv.i.op), (iI iv.i.a), (iI iv.i.b), (iI iv.i.c), (iI iv.i.n), (.slice Z iv.args.length ad)] none false)]
 let b8 : Fp := [(b9, .cells [(.string ⟨⟨(aj iv.i.op).name.b⟩⟩), (iI (aj iv.i.op).form), (.bool (aj iv.i.op).ra), (.bool (aj iv.i.op).wa), (.bool (aj iv.i.op).rb), (.bool (aj iv.i.op).mt), (iI (aj iv.i.op).words)] none false)]
 refine aY (fun f H' => ∃ (l1 : List Int) (N : Option Addr) (U : Nat) (F' : Fz), Fz.le F8 F' ∧ HS (Base.of H []) F' H' [b7, b8] R ∧ SR F' (.slice N l1.length U) l1 ∧ aH f [(1, (.pointer (some ⟨b1, 0, none⟩))), (2, (.slice none 0 0)), (3, (.slice N l1.length U)), (4, (.pointer (some ⟨b9, 0, none⟩)))] ∧ (l1 = cv [] (if (aD iv.i.op).ra = true then [iv.i.a] else []))) (fun d1 => ?_) ?_
 ·
  refine ap 0 0 (v := (aj iv.i.op).ra) rfl rfl rfl rfl (fun a7 => ?_) (fun a7 => ?_)
  ·
   have c4 := a7
   try simp only [BS] at c4
   refine aa ?_
   refine wRo 4 0 [(3, .o (iI iv.i.a))] 18 21 [] [(18, (.slice none 0 0)), (21, (iI iv.i.a))] (vA (ql 3 1 (HS.hc an (i := 0) rfl) rfl rfl) trivial) rfl fun _ => ?_
   refine az (am rfl rfl rfl) rfl rfl (m6.dT ex ([] : List Int) iv.i.a (HS.call an) (SR.nil : SR F8 (.slice none 0 0) ([] : List Int)) (by omega) hT (by (simp <;> omega))) ?_
   rintro _ ht ⟨ch, d4, hH, hj, e6, b0, rfl, e0, rfl⟩
   replace b0 : HS _ _ _ [_, _] _ := HS.back an rfl b0
   refine wa (.slice ch (eb ([] : List Int) iv.i.a).length d4) rfl rfl rfl ?_
   refine ab 0 rfl ?_
   exact d1 _ _ ⟨eb ([] : List Int) iv.i.a, ch, d4, _, (e6), b0, e0, ⟨rfl, rfl, rfl, rfl, trivial⟩, (by exact rrT (by rw [← vra]; assumption))⟩
  have c4 := a7
  try simp only [BS] at c4
  exact d1 _ _ ⟨([] : List Int), none, 0, _, fR, an, (SR.nil : SR F8 (.slice none 0 0) ([] : List Int)), ⟨rfl, rfl, rfl, rfl, trivial⟩, (by exact rrF (by rw [← vra]; simp_all))⟩
 skip
 rintro hC hr ⟨l1, N, U, f9, bk, av, a4, dk, q1⟩
 refine au _ dk (fun _ => ?_)
 clear dk
 replace hT := hT.mono bk
 replace z := z.mono bk
 have n1 := rr_len1 q1
 refine aq 3 rfl ?_
 refine wR 1 [(1, .o (.bool (aj iv.i.op).rb))] 23 24 [] [(24, (.bool (aj iv.i.op).rb))] (vA (ql 4 4 (HS.hc av (i := 1) rfl) rfl rfl) trivial) rfl fun _ => ?_
 refine aY (fun f H' => ∃ (l2 : List Int) (T : Option Addr) (V : Nat) (F' : Fz), Fz.le f9 F' ∧ HS (Base.of H []) F' H' [b7, b8] R ∧ SR F' (.slice T l2.length V) l2 ∧ aH f [(1, (.pointer (some ⟨b1, 0, none⟩))), (2, (.slice none 0 0)), (3, (.slice T l2.length V)), (4, (.pointer (some ⟨b9, 0, none⟩)))] ∧ (l2 = cv l1 (if (aD iv.i.op).rb = true then [iv.i.b] else []))) (fun d2 => ?_) ?_
 ·
  refine ap 0 0 (v := (aj iv.i.op).rb) rfl rfl rfl rfl (fun a8 => ?_) (fun a8 => ?_)
  ·
   have c6 := a8
   try simp only [BS] at c6
   refine aa ?_
   refine wRo 4 0 [(3, .o (iI iv.i.b))] 25 28 [] [(25, (.slice N l1.length U)), (28, (iI iv.i.b))] (vA (ql 3 2 (HS.hc av (i := 0) rfl) rfl rfl) trivial) rfl fun _ => ?_
   refine az (am rfl rfl rfl) rfl rfl (m6.dT ex l1 iv.i.b (HS.call av) a4 (by omega) hT (by omega)) ?_
   rintro _ hv ⟨ci, em, hI, hk, fd, b2, rfl, e1, rfl⟩
   replace b2 : HS _ _ _ [_, _] _ := HS.back av rfl b2
   refine wa (.slice ci (eb l1 iv.i.b).length em) rfl rfl rfl ?_
   refine ab 0 rfl ?_
   exact d2 _ _ ⟨eb l1 iv.i.b, ci, em, _, (fd), b2, e1, ⟨rfl, rfl, rfl, rfl, trivial⟩, (by exact rrT (by rw [← vrb]; assumption))⟩
  have c6 := a8
  try simp only [BS] at c6
  exact d2 _ _ ⟨l1, N, U, _, fR, av, a4, ⟨rfl, rfl, rfl, rfl, trivial⟩, (by exact rrF (by rw [← vrb]; simp_all))⟩
 skip
 rintro hD hu ⟨l2, T, V, go, bl, ax, a5, dl, q2⟩
 refine au _ dl (fun _ => ?_)
 clear dl
 replace hT := hT.mono bl
 replace z := z.mono bl
 have n2 := rr_len2 n1 q2
 refine aq 3 rfl ?_
 refine wR 1 [(1, .o (iI (aj iv.i.op).form))] 30 32 [] [(32, (.bool ((aj iv.i.op).form == 4)))] (vA (ql 3 1 (HS.hc ax (i := 1) rfl) rfl rfl) trivial) rfl fun _ => ?_
 refine aY (fun f H' => ∃ (l3 : List Int) (ag : Option Addr) (al : Nat) (F' : Fz), Fz.le go F' ∧ HS (Base.of H []) F' H' [b7, b8] R ∧ SR F' (.slice ag l3.length al) l3 ∧ aH f [(1, (.pointer (some ⟨b1, 0, none⟩))), (2, (.slice none 0 0)), (3, (.slice ag l3.length al))] ∧ (l3 = cv l2 (if iv.i.op = 11 ∨ iv.i.op = 12 then [iv.i.c] else []))) (fun d3 => ?_) ?_
 ·
  refine ap 0 0 (v := ((aj iv.i.op).form == 4)) rfl rfl rfl rfl (fun a9 => ?_) (fun a9 => ?_)
  ·
   have c7 := a9
   try simp only [BS] at c7
   refine aa ?_
   refine wRo 4 0 [(3, .o (iI iv.i.c))] 33 36 [] [(33, (.slice T l2.length V)), (36, (iI iv.i.c))] (vA (ql 3 3 (HS.hc ax (i := 0) rfl) rfl rfl) trivial) rfl fun _ => ?_
   refine az (am rfl rfl rfl) rfl rfl (m6.dT ex l2 iv.i.c (HS.call ax) a5 (by omega) hT (by omega)) ?_
   rintro _ hz ⟨co, es, hK, hl, fi, b3, rfl, e2, rfl⟩
   replace b3 : HS _ _ _ [_, _] _ := HS.back ax rfl b3
   refine wa (.slice co (eb l2 iv.i.c).length es) rfl rfl rfl ?_
   refine ab 0 rfl ?_
   exact d3 _ _ ⟨eb l2 iv.i.c, co, es, _, (fi), b3, e2, ⟨rfl, rfl, rfl, trivial⟩, (by exact rrT ((vf4 hal).1 (by assumption)))⟩
  have c7 := a9
  try simp only [BS] at c7
  exact d3 _ _ ⟨l2, T, V, _, fR, ax, a5, ⟨rfl, rfl, rfl, trivial⟩, (by exact rrF (fun hh => absurd ((vf4 hal).2 hh) (by omega)))⟩
 skip
 rintro hE hw ⟨l3, ag, al, g0, bz, f2, ez, dn, q3⟩
 refine au _ dn (fun _ => ?_)
 clear dn
 refine aq 3 rfl ?_
 refine wR 2 [] 1 0 [5] [(5, (iI 0))] trivial rfl fun _ => ?_
 refine aE (fun (mm : Nat) f H' => ∃ (l4 : List Int) (k : Nat) (A : Option Addr) (E : Nat) (F' : Fz), Fz.le g0 F' ∧ HS (Base.of H []) F' H' [b7, b8] R ∧ SR F' (.slice A l4.length E) l4 ∧ aH f [(1, (.pointer (some ⟨b1, 0, none⟩))), (2, (.slice none 0 0)), (3, (.slice A l4.length E)), (5, (iI (k : Int)))] ∧ mm = iv.args.length - k ∧ (l4 = cv l3 (iv.args.take k)) ∧ (k ≤ iv.args.length) ∧ (k = 0 ∨ iv.i.op = 6)) _ ⟨l3, 0, ag, al, _, fR, f2, ez, ⟨rfl, rfl, rfl, rfl, trivial⟩, rfl, (by rfl), (by omega), (by omega)⟩ ?_
 rintro he hF hA ⟨l4, k, A, E, hm, a2, J, a6, ds, rfl, q4, q5, q6⟩ f3
 refine au _ ds (fun _ => ?_)
 clear ds
 replace hT := (hT.mono bz).mono a2
 replace z := (z.mono bz).mono a2
 have n4 := rr_len q1 q2 q3 q4
 refine aq 2 rfl ?_
 refine wR 1 [(2, .o (.slice Z iv.args.length ad)), (8, .o (iI iv.i.op))] 38 48 [] [(48, (.bool ((decide ((k : Int) < (iv.args.length : Int))) && (iv.i.op == 6))))] (vA (ql 25 5 (HS.hc J (i := 0) rfl) rfl rfl) (vA (fun (g1 : (decide ((k : Int) < (iv.args.length : Int))) = true) => (ql 3 0 (HS.hc J (i := 0) rfl) rfl rfl)) trivial)) rfl fun _ => ?_
 refine ap 3 5 (v := ((decide ((k : Int) < (iv.args.length : Int))) && (iv.i.op == 6))) rfl rfl rfl rfl (fun bb => ?_) (fun bb => ?_)
 ·
  have c8 := bb
  try simp only [BS] at c8
  refine aa ?_
  obtain ⟨hb, dv⟩ := Sv.view (SR.sv z J)
  have hG := fI (dv k)
  refine wRo 6 0 [(2, .o (.slice Z iv.args.length ad)), (5, .o (iI (iv.args.getD k 0)))] 51 56 [] [(51, (.slice A l4.length E)), (56, (iI (iv.args.getD k 0)))] (vA (ql 25 5 (HS.hc J (i := 0) rfl) rfl rfl) (vA (Sv.ix (j := (k : Int)) (SR.sv z J) (by omega) (by omega)) (vA (ql 3 0 (vI (dv k) (by omega)) rfl rfl) trivial))) rfl fun _ => ?_
  refine az (am rfl rfl rfl) rfl rfl (m6.dT ex l4 (iv.args.getD k 0) (HS.call J) a6 (by omega) hT (by omega)) ?_
  rintro _ hB ⟨c0, et, hM, hn, f0, b4, rfl, e3, rfl⟩
  replace b4 : HS _ _ _ [_, _] _ := HS.back J rfl b4
  refine wa (.slice c0 (eb l4 (iv.args.getD k 0)).length et) rfl rfl rfl ?_
  refine ab 2 rfl ?_
  refine wR 1 [] 49 50 [5] [(5, (iI ((k : Int) + 1)))] (vA (vi (n := (k : Int) + 1) (by omega)) trivial) rfl fun _ => ?_
  refine f3 _ _ _ ?_ ⟨eb l4 (iv.args.getD k 0), k + 1, c0, et, _, (fT (a2) f0), b4, e3, ⟨rfl, rfl, rfl, rfl, trivial⟩, rfl, (by exact gC (by omega) q4), (by omega), (by omega)⟩
  omega
 have c8 := bb
 try simp only [BS] at c8
 refine wR 1 [] 2 2 [58] [(2, (.slice A l4.length E))] trivial rfl fun _ => ?_
 refine ah ⟨.inr rfl, _, rfl, A, E, l4, _, (fT (fT (fT (fT (dd) bk) bl) bz) a2), (HS.forget J), rfl, a6, (by exact rr_end (by assumption) q1 q2 q3 q4 q6 (by omega))⟩
set_option maxHeartbeats 1000000 in
theorem vwrites_c (ex : FuncId) {A : Option Addr} {E : Nat} (iv : VInT) {F : Fz} {H : Heap} {R : List Fp} (hs : HS (.of H []) F H [] R) (a3 : in64 iv.i.op) (a4 : in64 iv.i.a) (a5 : in64 iv.i.b) (a6 : in64 iv.i.c) (a7 : in64 iv.i.n) (a8 : SR F (.slice A iv.args.length E) iv.args) (hT : TB 37 tabC F) : C Tryd.prog 1 (KT 60 ex 37 tabC) 52 [(.agg ⟨[(iI iv.i.op), (iI iv.i.a), (iI iv.i.b), (iI iv.i.c), (iI iv.i.n), (.slice A iv.args.length E)]⟩)] H fun v H' => ∃ (ar : Option Addr) (kr : Nat) (r : List Int) (p : Fp) (F' : Fz), Fz.le F F' ∧ HS (.of H []) F' H' [p] R ∧ v = .slice ar r.length kr ∧ OS F' (.slice ar r.length kr) r p ∧ r = ak iv := by
 refine aJ Tryd.func52 rfl rfl ?_
 refine aq 1 rfl ?_
 refine aa ?_
 refine aC (be hs rfl rfl) rfl rfl ?_
 rintro _ H2 _ ⟨b1, rfl, (J : HS _ _ _ [[(b1, .cells [(iI iv.i.op), (iI iv.i.a), (iI iv.i.b), (iI iv.i.c), (iI iv.i.n), (.slice A iv.args.length E)] none false)]] _), _⟩
 refine wa (.slice none 0 0) rfl rfl rfl ?_
 refine ab 3 rfl ?_
 refine wR 1 [(2, .o (iI iv.i.op)), (3, .o (.bool (alV iv.i.op)))] 5 9 [] [(9, (.bool (!(alV iv.i.op))))] (vA (ql 3 0 (HS.hc J (i := 0) rfl) rfl rfl) (vA (m1.valw_c_q ex iv.i.op H2) trivial)) rfl fun _ => ?_
 refine ap 1 2 (v := (!(alV iv.i.op))) rfl rfl rfl rfl (fun U => ?_) (fun U => ?_)
 ·
  have c4 := U
  try simp only [BS] at c4
  refine wR 1 [] 2 2 [] [(2, (.slice none 0 0))] trivial rfl fun _ => ?_
  refine ah ⟨.inr rfl, _, rfl, none, 0, ([] : List Int), [], _, fR, (HS.cons (HS.forget J)), rfl, (OS.nil : OS _ _ _ []), (by exact writes_no (by assumption))⟩
 have c4 := U
 try simp only [BS] at c4
 refine aa ?_
 refine wRo 3 0 [(2, .o (iI iv.i.op))] 11 13 [] [(13, (iI iv.i.op))] (vA (ql 3 0 (HS.hc J (i := 0) rfl) rfl rfl) trivial) rfl fun _ => ?_
 refine az (am rfl rfl rfl) rfl rfl (m1.mInfo_c ex iv.i.op (HS.call J) (by omega) hT) ?_
 rintro _ H7 ⟨x7, o7, F7, ad, V, rfl, a1, a2, rfl, rfl⟩
 replace V : HS _ _ _ [_] _ := HS.back J rfl V
 refine wRo 3 4 [] 15 16 [10] [(15, (.agg ⟨[(.string ⟨⟨(aD iv.i.op).name.b⟩⟩), (iI (aD iv.i.op).form), (.bool (aD iv.i.op).ra), (.bool (aD iv.i.op).wa), (.bool (aD iv.i.op).rb), (.bool (aD iv.i.op).mt), (iI (aD iv.i.op).words)]⟩)), (16, (.bool (infO iv.i.op)))] trivial rfl fun _ => ?_
 refine aC (aR V rfl) rfl rfl ?_
 rintro _ bl _ ⟨b9, rfl, (ax : HS _ _ _ [_, [(b9, .cells [(.string ⟨⟨[]⟩⟩), (iI 0), (.bool false), (.bool false), (.bool false), (.bool false), (iI 0)] none false)]] _), _⟩
 refine aF (aw (q := 1) ax rfl rfl rfl rfl rfl rfl rfl rfl rfl) rfl ?_
 rintro _ bz _ ⟨(z : HS _ _ _ [_, [(b9, .cells [(.string ⟨⟨(aD iv.i.op).name.b⟩⟩), (iI (aD iv.i.op).form), (.bool (aD iv.i.op).ra), (.bool (aD iv.i.op).wa), (.bool (aD iv.i.op).rb), (.bool (aD iv.i.op).mt), (iI (aD iv.i.op).words)] none false)]] _), _⟩
 refine wa (.bool (infO iv.i.op)) rfl rfl rfl ?_
 refine ab 3 rfl ?_
 refine wR 1 [(1, .o (.bool (aD iv.i.op).wa)), (5, .o (iI iv.i.op)), (11, .o (iI iv.i.op))] 17 30 [] [(30, (.bool (((aD iv.i.op).wa || (iv.i.op == 6)) || (iv.i.op == 38))))] (vA (ql 4 3 (HS.hc z (i := 1) rfl) rfl rfl) (vA (fun (g1 : (aD iv.i.op).wa = false) => (ql 3 0 (HS.hc z (i := 0) rfl) rfl rfl)) (vA (fun (g1 : ((aD iv.i.op).wa || (iv.i.op == 6)) = false) => (ql 3 0 (HS.hc z (i := 0) rfl) rfl rfl)) trivial))) rfl fun _ => ?_
 refine ap 1 2 (v := (((aD iv.i.op).wa || (iv.i.op == 6)) || (iv.i.op == 38))) rfl rfl rfl rfl (fun N => ?_) (fun N => ?_)
 ·
  have T := N
  try simp only [BS] at T
  refine aa ?_
  refine wRo 3 0 [(2, .o (iI iv.i.a))] 31 33 [] [(33, (iI iv.i.a))] (vA (ql 3 1 (HS.hc z (i := 0) rfl) rfl rfl) trivial) rfl fun _ => ?_
  refine aC (aP (α := Int) (ps := [(0, (iI iv.i.a))]) (cells := [(iI iv.i.a)]) ([iv.i.a] : List Int) z rfl rfl rfl (by kernel_rfl) ⟨[(iI iv.i.a)], [], rfl, ⟨rfl, by omega⟩, rfl⟩ rfl) rfl rfl ?_
  rintro _ b0 al ⟨Z, ag, rfl, av, (ay : HS _ _ _ [_, _, al] _), _⟩
  refine wa (.slice Z ([iv.i.a] : List Int).length ag) rfl rfl rfl ?_
  refine ab 1 rfl ?_
  refine ah ⟨.inr rfl, _, rfl, Z, ag, ([iv.i.a] : List Int), al, _, (ad), (HS.only ay (i := 2) rfl), rfl, av, (by exact iY (by assumption) (or_assoc.1 (by assumption)))⟩
 have T := N
 try simp only [BS] at T
 refine wR 1 [] 2 2 [] [(2, (.slice none 0 0))] trivial rfl fun _ => ?_
 refine ah ⟨.inr rfl, _, rfl, none, 0, ([] : List Int), [], _, (ad), (HS.cons (HS.forget z)), rfl, (OS.nil : OS _ _ _ []), (by exact writes_not (by simp_all))⟩
set_option maxHeartbeats 1000000 in
theorem hN (ex : FuncId) {E : Option Addr} {J : Nat} (iv : VInT) {F : Fz} {H : Heap} {R : List Fp} (hs : HS (.of H []) F H [] R) (a5 : in64 iv.i.op) (a6 : in64 iv.i.a) (a7 : in64 iv.i.b) (a8 : in64 iv.i.c) (a9 : in64 iv.i.n) (bb : SR F (.slice E iv.args.length J) iv.args) (hT : TB 37 tabC F) : C Tryd.prog 1 (KT 60 ex 37 tabC) 54 [(.agg ⟨[(iI iv.i.op), (iI iv.i.a), (iI iv.i.b), (iI iv.i.c), (iI iv.i.n), (.slice E iv.args.length J)]⟩)] H fun v H' => ∃ (ar : Option Addr) (kr : Nat) (r : List Int) (p : Fp) (F' : Fz), Fz.le F F' ∧ HS (.of H []) F' H' [p] R ∧ v = .slice ar r.length kr ∧ OS F' (.slice ar r.length kr) r p ∧ r = ak iv := by
 refine aJ Tryd.func54 rfl rfl ?_
 refine aq 1 rfl ?_
 refine aa ?_
 refine aC (be hs rfl rfl) rfl rfl ?_
 rintro _ H2 _ ⟨N, rfl, (U : HS _ _ _ [[(N, .cells [(iI iv.i.op), (iI iv.i.a), (iI iv.i.b), (iI iv.i.c), (iI iv.i.n), (.slice E iv.args.length J)] none false)]] _), _⟩
 refine wa (.slice none 0 0) rfl rfl rfl ?_
 refine ab 3 rfl ?_
 refine wk_rcut 3 19 [] [(19, (.bool (alV iv.i.op && ((aj iv.i.op).wa || (iv.i.op == 6)))))] (fun H' => ∃ F', Fz.le F F' ∧ HS (Base.of H []) F' H' [[(N, .cells [(iI iv.i.op), (iI iv.i.a), (iI iv.i.b), (iI iv.i.c), (iI iv.i.n), (.slice E iv.args.length J)] none false)]] R) ?_ ?_
 ·
  refine aa ?_
  refine bJ (v := (.pointer (some ⟨N, 0, none⟩))) (cg rfl rfl) rfl rfl ?_
  refine bJ (v := (.pointer (some ⟨N, 0, none⟩))) (cg rfl rfl) rfl rfl ?_
  refine bJ (v := (iI iv.i.op)) (bh (i := 0) rfl rfl (HS.hc U (i := 0) rfl) rfl rfl) rfl rfl ?_
  refine az (am rfl rfl rfl) rfl rfl (m1.ralw_c ex iv.i.op _) ?_
  rintro _ H2 ⟨r6, rfl, rfl, rfl⟩
  refine wm (.bool (alV iv.i.op)) rfl rfl rfl ?_
  refine wo_gsT (v := (alV iv.i.op)) rfl rfl (fun z => ?_) (fun z => ?_)
  ·
   have ag := z
   try simp only [BS] at ag
   refine bJ (v := (.pointer (some ⟨N, 0, none⟩))) (cg rfl rfl) rfl rfl ?_
   refine fo rfl z ?_
   refine bJ (v := (.pointer (some ⟨N, 0, none⟩))) (cg rfl rfl) rfl rfl ?_
   refine fo rfl z ?_
   refine bJ (v := (iI iv.i.op)) (bh (i := 0) rfl rfl (HS.hc U (i := 0) rfl) rfl rfl) rfl rfl ?_
   refine fo rfl z ?_
   refine az (am rfl rfl rfl) rfl rfl (m3.jH ex iv.i.op (HS.call U) (by omega) hT) ?_
   rintro _ H8 ⟨x8, F8, ax, V, rfl, a3, a4, rfl⟩
   replace V : HS _ _ _ [_] _ := HS.back U rfl V
   refine fo rfl z ?_
   refine bJ (v := (.bool (aj iv.i.op).wa)) (ap_fv rfl rfl) rfl rfl ?_
   refine fo rfl z ?_
   refine wm (.bool (aj iv.i.op).wa) rfl rfl rfl ?_
   refine wo_gsF (v := (aj iv.i.op).wa) rfl rfl (fun A => ?_) (fun A => ?_)
   ·
    have al := A
    try simp only [BS] at al
    refine bJ (v := (.pointer (some ⟨N, 0, none⟩))) (cg rfl rfl) rfl rfl ?_
    refine fo rfl A ?_
    refine bJ (v := (.pointer (some ⟨N, 0, none⟩))) (cg rfl rfl) rfl rfl ?_
    refine fo rfl A ?_
    refine bJ (v := (iI iv.i.op)) (bh (i := 0) rfl rfl (HS.hc V (i := 0) rfl) rfl rfl) rfl rfl ?_
    refine fo rfl A ?_
    refine bJ (v := (.bool (iv.i.op == 6))) (ap_cmp rfl rfl rfl rfl) rfl rfl ?_
    refine fo rfl z ?_
    refine bJ (v := (.bool (iv.i.op == 6))) (j4 rfl A rfl) rfl rfl ?_
    refine bJ (v := (.bool (iv.i.op == 6))) (gO rfl z rfl) rfl rfl ?_
    refine gR ?_
    exact dD ⟨rfl, ⟨_, (fT fR ax), HS.sub V (List.Sublist.refl _)⟩, (Lu rfl (Lu rfl (Lu rfl (Lu rfl (Lu rfl (Lu rfl (Lu rfl (Lu rfl (Lu rfl (Lu rfl (Lu rfl (Lu rfl (Lu rfl (Lu rfl (Lu rfl (Lu rfl (Lu rfl Lr))))))))))))))))), (agC (congrArg Value.bool (show (iv.i.op == 6) = (alV iv.i.op && ((aj iv.i.op).wa || (iv.i.op == 6))) by simp only [↓z, ↓A, BT])) agN)⟩
   have al := A
   try simp only [BS] at al
   refine wo_gf0 rfl A rfl ?_
   refine wo_gf0 rfl A rfl ?_
   refine wo_gf0 rfl A rfl ?_
   refine fo rfl z ?_
   refine bJ (v := (.bool true)) (gO rfl A rfl) rfl rfl ?_
   refine bJ (v := (.bool true)) (gO rfl z rfl) rfl rfl ?_
   refine gR ?_
   exact dD ⟨rfl, ⟨_, (fT fR ax), HS.sub V (List.Sublist.refl _)⟩, (Lu rfl (Lu rfl (Lu rfl (Lu rfl (Lu rfl (Lu rfl (Lu rfl (Lu rfl (Lu rfl (Lu rfl (Lu rfl (Lu rfl (Lu rfl (Lu rfl (Lu rfl (Lu rfl (Lu rfl Lr))))))))))))))))), (agC (congrArg Value.bool (show true = (alV iv.i.op && ((aj iv.i.op).wa || (iv.i.op == 6))) by simp only [↓z, ↓A, BT])) agN)⟩
  have ag := z
  try simp only [BS] at ag
  refine gS rfl z rfl ?_
  refine gS rfl z rfl ?_
  refine gS rfl z rfl ?_
  refine gS rfl z rfl ?_
  refine gS rfl z rfl ?_
  refine wo_gn rfl rfl ?_
  refine wo_gn rfl rfl ?_
  refine wo_gn rfl rfl ?_
  refine wo_gn rfl rfl ?_
  refine gS rfl z rfl ?_
  refine bJ (v := (.bool false)) (j4 rfl z rfl) rfl rfl ?_
  refine gR ?_
  exact dD ⟨rfl, ⟨_, fR, HS.sub U (List.Sublist.refl _)⟩, (Lu rfl (Lu rfl (Lu rfl (Lu rfl (Lu rfl (Lu rfl (Lu rfl (Lu rfl (Lu rfl (Lu rfl (Lu rfl (Lu rfl (Lu rfl (Lu rfl (Lu rfl (Lu rfl (Lu rfl Lr))))))))))))))))), (agC (congrArg Value.bool (show false = (alV iv.i.op && ((aj iv.i.op).wa || (iv.i.op == 6))) by simp only [↓z, BT])) agN)⟩
 skip
 rintro g5 H5 ⟨F5, av, ad⟩
 refine aq 1 rfl ?_
 refine ap 1 2 (v := (alV iv.i.op && ((aj iv.i.op).wa || (iv.i.op == 6)))) rfl rfl rfl rfl (fun Z => ?_) (fun Z => ?_)
 ·
  have T := Z
  try simp only [BS] at T
  have hq := T
  refine aa ?_
  refine wRo 3 0 [(2, .o (iI iv.i.a))] 20 22 [] [(22, (iI iv.i.a))] (vA (ql 3 1 (HS.hc ad (i := 0) rfl) rfl rfl) trivial) rfl fun _ => ?_
  refine aC (aP (α := Int) (ps := [(0, (iI iv.i.a))]) (cells := [(iI iv.i.a)]) ([iv.i.a] : List Int) ad rfl rfl rfl (by kernel_rfl) ⟨[(iI iv.i.a)], [], rfl, ⟨rfl, by omega⟩, rfl⟩ rfl) rfl rfl ?_
  rintro _ bl a0 ⟨an, ay, rfl, a1, (a2 : HS _ _ _ [_, a0] _), _⟩
  refine wa (.slice an ([iv.i.a] : List Int).length ay) rfl rfl rfl ?_
  refine ab 1 rfl ?_
  refine ah ⟨.inr rfl, _, rfl, an, ay, ([iv.i.a] : List Int), a0, _, (av), (HS.only a2 (i := 1) rfl), rfl, a1, (by exact rwr_yes hq)⟩
 have T := Z
 try simp only [BS] at T
 have hq := T
 refine wR 1 [] 2 2 [] [(2, (.slice none 0 0))] trivial rfl fun _ => ?_
 refine ah ⟨.inr rfl, _, rfl, none, 0, ([] : List Int), [], _, (av), (HS.cons (HS.forget ad)), rfl, (OS.nil : OS _ _ _ []), (by exact rwr_no hq)⟩
theorem rsucc_c (ex : FuncId) {E : Option Addr} {T : Nat} (b : BlkT) {F : Fz} {H : Heap} {R : List Fp} (hs : HS (.of H []) F H [] R) (bk : SR F (.slice E b.ins.length T) b.ins) (bl : in64 b.fin) (bz : in64 b.reg) (b0 : in64 b.tgt) (b2 : in64 b.els) (hT : TB 37 tabC F) : C Tryd.prog 1 (KT 60 ex 37 tabC) 66 [(.agg ⟨[(.slice E b.ins.length T), (iI b.fin), (iI b.reg), (iI b.tgt), (iI b.els)]⟩)] H fun v H' => ∃ (ar : Option Addr) (kr : Nat) (r : List Int) (F' : Fz), Fz.le F F' ∧ HS (.of H []) F' H' [] R ∧ v = .slice ar r.length kr ∧ SR F' (.slice ar r.length kr) r ∧ r = bE b := by
 refine aJ Tryd.func66 rfl rfl ?_
 refine aq 1 rfl ?_
 refine aa ?_
 refine aC (be hs rfl rfl) rfl rfl ?_
 rintro _ H2 _ ⟨b1, rfl, (z : HS _ _ _ [[(b1, .cells [(.slice E b.ins.length T), (iI b.fin), (iI b.reg), (iI b.tgt), (iI b.els)] none false)]] _), _⟩
 refine wa (.slice none 0 0) rfl rfl rfl ?_
 refine ab 3 rfl ?_
 refine wR 3 [(1, .o (iI b.fin))] 3 4 [] [(4, (iI b.fin))] (vA (ql 3 1 (HS.hc z (i := 0) rfl) rfl rfl) trivial) rfl fun _ => ?_
 refine wR 1 [] 5 6 [] [(5, (.bool (b.fin == 1)))] trivial rfl fun _ => ?_
 refine ap 1 1 (v := (b.fin == 1)) rfl rfl rfl rfl (fun Z => ?_) (fun Z => ?_)
 ·
  have c5 := Z
  try simp only [BS] at c5
  refine aa ?_
  refine wRo 2 0 [(1, .o (iI b.tgt))] 7 8 [] [(8, (iI b.tgt))] (vA (ql 3 3 (HS.hc z (i := 0) rfl) rfl rfl) trivial) rfl fun _ => ?_
  refine aC (aP (α := Int) (ps := [(0, (iI b.tgt))]) (cells := [(iI b.tgt)]) ([b.tgt] : List Int) z rfl rfl rfl (by kernel_rfl) ⟨[(iI b.tgt)], [], rfl, ⟨rfl, by omega⟩, rfl⟩ rfl) rfl rfl ?_
  rintro _ H8 p7 ⟨a7, k7, rfl, a4, (a6 : HS _ _ _ [_, p7] _), _⟩
  refine wa (.slice a7 ([b.tgt] : List Int).length k7) rfl rfl rfl ?_
  refine ab 1 rfl ?_
  obtain ⟨F9, a3, al, a5, ch⟩ := OS.frz a4 a6 (i := 1) rfl
  have al : HS _ _ _ [_, []] _ := al
  refine ah ⟨.inr rfl, _, rfl, a7, k7, ([b.tgt] : List Int), _, (a3), (HS.forget al), rfl, a5, (by exact succ1 (by assumption))⟩
 have c5 := Z
 try simp only [BS] at c5
 refine wR 1 [] 10 11 [] [(10, (.bool (b.fin == 2)))] trivial rfl fun _ => ?_
 refine ap 1 3 (v := (b.fin == 2)) rfl rfl rfl rfl (fun J => ?_) (fun J => ?_)
 ·
  have V := J
  try simp only [BS] at V
  refine aa ?_
  refine wRo 2 0 [(1, .o (iI b.tgt))] 12 13 [] [(13, (iI b.tgt))] (vA (ql 3 3 (HS.hc z (i := 0) rfl) rfl rfl) trivial) rfl fun _ => ?_
  refine aC (aP (α := Int) (ps := [(0, (iI b.tgt))]) (cells := [(iI b.tgt)]) ([b.tgt] : List Int) z rfl rfl rfl (by kernel_rfl) ⟨[(iI b.tgt)], [], rfl, ⟨rfl, by omega⟩, rfl⟩ rfl) rfl rfl ?_
  rintro _ b8 a9 ⟨cc, ci, rfl, a0, (ag : HS _ _ _ [_, a9] _), _⟩
  refine wRo 2 3 [(4, .o (iI b.els))] 15 16 [] [(16, (iI b.els))] (vA (ql 3 4 (HS.hc ag (i := 0) rfl) rfl rfl) trivial) rfl fun _ => ?_
  obtain ⟨b6, ad, A, a1, b3⟩ := OS.frz a0 ag (i := 1) rfl
  have A : HS _ _ _ [_, []] _ := A
  replace hT := hT.mono ad
  refine az (am rfl rfl rfl) rfl rfl (m6.dT ex ([b.tgt] : List Int) b.els (HS.call A) a1 (by omega) hT (by simp)) ?_
  rintro _ b9 ⟨U, an, co, b7, ay, N, rfl, av, rfl⟩
  replace N : HS _ _ _ [_, _] _ := HS.back A rfl N
  refine wa (.slice U (eb ([b.tgt] : List Int) b.els).length an) rfl rfl rfl ?_
  refine ab 1 rfl ?_
  refine ah ⟨.inr rfl, _, rfl, U, an, eb ([b.tgt] : List Int) b.els, _, (fT (ad) ay), (HS.forget N), rfl, av, (by exact (succ2 (by assumption)).symm)⟩
 have V := J
 try simp only [BS] at V
 refine wR 1 [] 2 2 [] [(2, (.slice none 0 0))] trivial rfl fun _ => ?_
 refine ah ⟨.inr rfl, _, rfl, none, 0, ([] : List Int), _, fR, (HS.forget z), rfl, (SR.nil : SR F (.slice none 0 0) ([] : List Int)), (by exact succ0 (by omega))⟩
theorem rend_c (ex : FuncId) {A : Option Addr} {E : Nat} (b : BlkT) {F : Fz} {H : Heap} {R : List Fp} (hs : HS (.of H []) F H [] R) (al : SR F (.slice A b.ins.length E) b.ins) (an : in64 b.fin) (av : in64 b.reg) (ax : in64 b.tgt) (ay : in64 b.els) (hT : TB 37 tabC F) : C Tryd.prog 1 (KT 60 ex 37 tabC) 59 [(.agg ⟨[(.slice A b.ins.length E), (iI b.fin), (iI b.reg), (iI b.tgt), (iI b.els)]⟩)] H fun v H' => ∃ (ar : Option Addr) (kr : Nat) (r : List Int) (p : Fp) (F' : Fz), Fz.le F F' ∧ HS (.of H []) F' H' [p] R ∧ v = .slice ar r.length kr ∧ OS F' (.slice ar r.length kr) r p ∧ r = endV b := by
 refine aJ Tryd.func59 rfl rfl ?_
 refine aq 1 rfl ?_
 refine aa ?_
 refine aC (be hs rfl rfl) rfl rfl ?_
 rintro _ H2 _ ⟨b1, rfl, (z : HS _ _ _ [[(b1, .cells [(.slice A b.ins.length E), (iI b.fin), (iI b.reg), (iI b.tgt), (iI b.els)] none false)]] _), _⟩
 refine wa (.slice none 0 0) rfl rfl rfl ?_
 refine ab 3 rfl ?_
 refine wR 1 [(1, .o (iI b.fin)), (5, .o (iI b.fin))] 3 10 [] [(10, (.bool ((b.fin == 2) || (b.fin == 3))))] (vA (ql 3 1 (HS.hc z (i := 0) rfl) rfl rfl) (vA (fun (g1 : (b.fin == 2) = false) => (ql 3 1 (HS.hc z (i := 0) rfl) rfl rfl)) trivial)) rfl fun _ => ?_
 refine ap 1 2 (v := ((b.fin == 2) || (b.fin == 3))) rfl rfl rfl rfl (fun J => ?_) (fun J => ?_)
 ·
  have N := J
  try simp only [BS] at N
  refine aa ?_
  refine wRo 2 0 [(1, .o (iI b.reg))] 11 12 [] [(12, (iI b.reg))] (vA (ql 3 2 (HS.hc z (i := 0) rfl) rfl rfl) trivial) rfl fun _ => ?_
  refine aC (aP (α := Int) (ps := [(0, (iI b.reg))]) (cells := [(iI b.reg)]) ([b.reg] : List Int) z rfl rfl rfl (by kernel_rfl) ⟨[(iI b.reg)], [], rfl, ⟨rfl, by omega⟩, rfl⟩ rfl) rfl rfl ?_
  rintro _ H7 p6 ⟨T, Z, rfl, U, (V : HS _ _ _ [_, p6] _), _⟩
  refine wa (.slice T ([b.reg] : List Int).length Z) rfl rfl rfl ?_
  refine ab 1 rfl ?_
  refine ah ⟨.inr rfl, _, rfl, T, Z, ([b.reg] : List Int), p6, _, fR, (HS.only V (i := 1) rfl), rfl, U, (by exact (if_pos (by omega)).symm)⟩
 have N := J
 try simp only [BS] at N
 refine wR 1 [] 2 2 [] [(2, (.slice none 0 0))] trivial rfl fun _ => ?_
 refine ah ⟨.inr rfl, _, rfl, none, 0, ([] : List Int), [], _, fR, (HS.cons (HS.forget z)), rfl, (OS.nil : OS _ _ _ []), (by exact (if_neg (by omega)).symm)⟩
theorem gY (ex : FuncId) {a_a : Option Addr} {k_a : Nat} (a : List Int) {a_b : Option Addr} {k_b : Nat} (b : List Int) {F : Fz} {H : Heap} {R : List Fp} (hs : HS (.of H []) F H [] R) (ha : SR F (.slice a_a a.length k_a) a) (hb : SR F (.slice a_b b.length k_b) b) (hT : TB 37 tabC F) (hlen : a.length + b.length ≤ 1073741824) : C Tryd.prog 1 (KT 60 ex 37 tabC) 69 [(.slice a_a a.length k_a), (.slice a_b b.length k_b)] H fun v H' => ∃ (ar : Option Addr) (kr : Nat) (r : List Int) (F' : Fz), Fz.le F F' ∧ HS (.of H []) F' H' [] R ∧ v = .slice ar r.length kr ∧ SR F' (.slice ar r.length kr) r ∧ r = cv a b := by
 refine aJ Tryd.func69 rfl rfl ?_
 refine aq 1 rfl ?_
 refine wR 2 [] 4 4 [] [(4, (.slice none 0 0))] trivial rfl fun _ => ?_
 refine aa ?_
 refine wm (.slice a_a a.length k_a) rfl rfl rfl ?_
 have T := HS.snoc hs
 have T : HS _ _ _ [[]] _ := T
 refine aC (aW (α := Int) (q := 0) (OS.nil : OS F (.slice none 0 0) ([] : List Int) []) T rfl rfl rfl (SR.sv ha T) rfl rfl rfl rfl rfl rfl rfl (by (simp only [List.length_append, List.length_cons, List.length_nil]; omega))) rfl rfl ?_
 rintro _ H4 p3 ⟨a3, k3, rfl, ag, (a7 : HS _ _ _ [p3] _), _⟩
 have ag : OS F (.slice a3 a.length k3) a p3 := ag
 refine wa (.slice a3 a.length k3) rfl rfl rfl ?_
 refine ab 3 rfl ?_
 obtain ⟨F5, ad, al, a6, b1⟩ := OS.frz ag a7 (i := 0) rfl
 have al : HS _ _ _ [[]] _ := al
 refine wR 2 [] 1 0 [6] [(6, (iI 0))] trivial rfl fun _ => ?_
 refine aE (fun (mm : Nat) f H' => ∃ (o : List Int) (i : Nat) (z : Option Addr) (A : Nat) (F' : Fz), Fz.le F5 F' ∧ HS (Base.of H []) F' H' [[]] R ∧ SR F' (.slice z o.length A) o ∧ aH f [(1, (.slice a_b b.length k_b)), (4, (.slice none 0 0)), (5, (.slice z o.length A)), (6, (iI (i : Int)))] ∧ mm = b.length - i ∧ (i ≤ b.length) ∧ (o = cv a (b.take i))) _ ⟨a, 0, a3, k3, _, fR, al, a6, ⟨rfl, rfl, rfl, rfl, trivial⟩, rfl, (by omega), (by rfl)⟩ ?_
 rintro b2 f7 H7 ⟨o, i, z, A, F7, N, E, U, ay, rfl, h1, h2⟩ a8
 refine au _ ay (fun _ => ?_)
 clear ay
 replace hT := (hT.mono ad).mono N
 replace hb := (hb.mono ad).mono N
 have n4 : o.length ≤ a.length + b.length := by rw [h2]; exact Nat.le_trans dE (by simp; omega)
 refine aq 2 rfl ?_
 refine wR 1 [] 9 12 [] [(12, (.bool (decide ((i : Int) < (b.length : Int)))))] trivial rfl fun _ => ?_
 refine ap 3 5 (v := (decide ((i : Int) < (b.length : Int)))) rfl rfl rfl rfl (fun Z => ?_) (fun Z => ?_)
 ·
  have c9 := Z
  try simp only [BS] at c9
  refine aa ?_
  obtain ⟨bk, an⟩ := Sv.view (SR.sv hb E)
  have b0 := fI (an i)
  refine wRo 5 0 [(4, .o (iI (b.getD i 0)))] 15 19 [] [(15, (.slice z o.length A)), (19, (iI (b.getD i 0)))] (vA (Sv.ix (j := (i : Int)) (SR.sv hb E) (by omega) (by omega)) (vA (ql 3 0 (vI (an i) (by omega)) rfl rfl) trivial)) rfl fun _ => ?_
  refine az (am rfl rfl rfl) rfl rfl (m6.dT ex o (b.getD i 0) (HS.call E) U (by omega) hT (by omega)) ?_
  rintro _ bz ⟨V, av, b3, bl, a4, J, rfl, ax, rfl⟩
  replace J : HS _ _ _ [_] _ := HS.back E rfl J
  refine wa (.slice V (eb o (b.getD i 0)).length av) rfl rfl rfl ?_
  refine ab 2 rfl ?_
  refine wR 1 [] 13 14 [6] [(6, (iI ((i : Int) + 1)))] (vA (vi (n := (i : Int) + 1) (by omega)) trivial) rfl fun _ => ?_
  refine a8 _ _ _ ?_ ⟨eb o (b.getD i 0), i + 1, V, av, _, (fT (N) a4), J, ax, ⟨rfl, rfl, rfl, rfl, trivial⟩, rfl, (by omega), (by exact gC (by omega) h2)⟩
  omega
 have c9 := Z
 try simp only [BS] at c9
 refine wR 1 [] 4 4 [21] [(4, (.slice z o.length A))] trivial rfl fun _ => ?_
 refine ah ⟨.inr rfl, _, rfl, z, A, o, _, (fT (ad) N), (HS.forget E), rfl, U, (by exact uni_all (by omega) h2)⟩
theorem minus_c (ex : FuncId) {a_a : Option Addr} {k_a : Nat} (a : List Int) {a_b : Option Addr} {k_b : Nat} (b : List Int) {F : Fz} {H : Heap} {R : List Fp} (hs : HS (.of H []) F H [] R) (ha : SR F (.slice a_a a.length k_a) a) (hb : SR F (.slice a_b b.length k_b) b) (hT : TB 37 tabC F) (hlen : a.length ≤ 1073741824 ∧ b.length ≤ 1073741824) : C Tryd.prog 1 (KT 60 ex 37 tabC) 106 [(.slice a_a a.length k_a), (.slice a_b b.length k_b)] H fun v H' => ∃ (ar : Option Addr) (kr : Nat) (r : List Int) (p : Fp) (F' : Fz), Fz.le F F' ∧ HS (.of H []) F' H' [p] R ∧ v = .slice ar r.length kr ∧ OS F' (.slice ar r.length kr) r p ∧ r = iS a b := by
 refine aJ Tryd.func106 rfl rfl ?_
 refine aq 1 rfl ?_
 refine wR 2 [] 4 4 [] [(4, (.slice none 0 0))] trivial rfl fun _ => ?_
 refine wR 3 [] 1 0 [5] [(5, (.slice none 0 0))] trivial rfl fun _ => ?_
 refine wR 2 [] 1 0 [6] [(6, (iI 0))] trivial rfl fun _ => ?_
 have ag := HS.snoc hs
 have ag : HS _ _ _ [[]] _ := ag
 refine aE (fun (mm : Nat) f H' => ∃ (o : List Int) (i : Nat) (z : Option Addr) (A : Nat) (E : Fp) (F' : Fz), Fz.le F F' ∧ HS (Base.of H []) F' H' [E] R ∧ OS F' (.slice z o.length A) o E ∧ aH f [(0, (.slice a_a a.length k_a)), (1, (.slice a_b b.length k_b)), (4, (.slice none 0 0)), (5, (.slice z o.length A)), (6, (iI (i : Int)))] ∧ mm = a.length - i ∧ (i ≤ a.length) ∧ (o = iS (a.take i) b)) _ ⟨([] : List Int), 0, none, 0, [], _, fR, ag, (OS.nil : OS F (.slice none 0 0) ([] : List Int) []), ⟨rfl, rfl, rfl, rfl, rfl, trivial⟩, rfl, (by omega), (by rfl)⟩ ?_
 rintro b1 f4 H4 ⟨o, i, z, A, E, F4, N, J, T, ax, rfl, h1, h2⟩ a0
 refine au _ ax (fun _ => ?_)
 clear ax
 replace hT := hT.mono N
 replace ha := ha.mono N
 replace hb := hb.mono N
 have n4 : o.length ≤ a.length := by rw [h2]; exact Nat.le_trans min_len (by simp; omega)
 refine aq 2 rfl ?_
 refine wR 1 [] 7 10 [] [(10, (.bool (decide ((i : Int) < (a.length : Int)))))] trivial rfl fun _ => ?_
 refine ap 4 5 (v := (decide ((i : Int) < (a.length : Int)))) rfl rfl rfl rfl (fun Z => ?_) (fun Z => ?_)
 ·
  have c7 := Z
  try simp only [BS] at c7
  obtain ⟨bl, ay⟩ := Sv.view (SR.sv ha J)
  have g9 := fI (ay i)
  refine wR 1 [(4, .o (iI (a.getD i 0))), (5, .o (.bool (conV b (a.getD i 0))))] 13 19 [] [(19, (.bool (!(conV b (a.getD i 0)))))] (vA (Sv.ix (j := (i : Int)) (SR.sv ha J) (by omega) (by omega)) (vA (ql 3 0 (vI (ay i) (by omega)) rfl rfl) (vA (m6.gh ex b (a.getD i 0) (HS.call J) hb (by omega) hT (by omega)) trivial))) rfl fun _ => ?_
  refine ap 0 2 (v := (!(conV b (a.getD i 0)))) rfl rfl rfl rfl (fun U => ?_) (fun U => ?_)
  ·
   have V := U
   try simp only [BS] at V
   refine aa ?_
   obtain ⟨a8, al⟩ := Sv.view (SR.sv ha J)
   have bz := fI (al i)
   refine wRo 5 0 [(4, .o (iI (a.getD i 0)))] 20 24 [] [(20, (.slice z o.length A)), (24, (iI (a.getD i 0)))] (vA (Sv.ix (j := (i : Int)) (SR.sv ha J) (by omega) (by omega)) (vA (ql 3 0 (vI (al i) (by omega)) rfl rfl) trivial)) rfl fun _ => ?_
   refine aC (aP (α := Int) (ps := [(0, (iI (a.getD i 0)))]) (cells := [(iI (a.getD i 0))]) ([(a.getD i 0)] : List Int) J rfl rfl rfl (by kernel_rfl) ⟨[(iI (a.getD i 0))], [], rfl, ⟨rfl, by omega⟩, rfl⟩ rfl) rfl rfl ?_
   rintro _ a9 a7 ⟨bk, b0, rfl, a4, (ad : HS _ _ _ [E, a7] _), _⟩
   refine aC (aW (α := Int) (q := 0) T ad rfl rfl rfl (OS.sv a4 ad (i := 1) rfl) rfl rfl rfl rfl rfl rfl rfl (by (simp only [List.length_append, List.length_cons, List.length_nil]; omega))) rfl rfl ?_
   rintro _ bb a2 ⟨av, a1, rfl, a5, (a6 : HS _ _ _ [a2, _] _), _⟩
   refine wa (.slice av (o ++ ([(a.getD i 0)] : List Int)).length a1) rfl rfl rfl ?_
   refine ab 2 rfl ?_
   refine wR 1 [] 11 12 [6] [(6, (iI ((i : Int) + 1)))] (vA (vi (n := (i : Int) + 1) (by omega)) trivial) rfl fun _ => ?_
   refine a0 _ _ _ ?_ ⟨o ++ ([(a.getD i 0)] : List Int), i + 1, av, a1, a2, _, (N), (HS.sub a6 (List.sublist_append_left _ _)), a5, ⟨rfl, rfl, rfl, rfl, rfl, trivial⟩, rfl, (by omega), (by exact (min_step (by omega) h2).1 (by assumption))⟩
   omega
  have V := U
  try simp only [BS] at V
  refine wR 1 [] 11 12 [6] [(6, (iI ((i : Int) + 1)))] (vA (vi (n := (i : Int) + 1) (by omega)) trivial) rfl fun _ => ?_
  refine a0 _ _ _ ?_ ⟨o, i + 1, z, A, E, _, (N), J, T, ⟨rfl, rfl, rfl, rfl, rfl, trivial⟩, rfl, (by omega), (by exact (min_step (by omega) h2).2 (by assumption))⟩
  omega
 have c7 := Z
 try simp only [BS] at c7
 refine wR 1 [] 4 4 [27] [(4, (.slice z o.length A))] trivial rfl fun _ => ?_
 refine ah ⟨.inr rfl, _, rfl, z, A, o, E, _, (N), (HS.only J (i := 0) rfl), rfl, T, (by rw [h2, List.take_of_length_le (by omega)])⟩
end Go.Proofs.YtknafdcgpaejlaaDoor.ma
