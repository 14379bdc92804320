/-
 What instructions read and write, what follows a block, unions and differences of sets: the program and the reference, each by a symbolic run. No condition but bounds on lengths.
-/
import Derived.Test.YtknafdcgpaejlaaDoorZSM6
import Derived.Test.YtknafdcgpaejlaaDoorZSRD
import Derived.Test.YtknafdcgpaejlaaDoorZSRC
noncomputable section
namespace Go.Proofs.YtknafdcgpaejlaaDoor.ma
open Go.R
set_option maxRecDepth 10000
set_option linter.unusedVariables false
set_option linter.unusedSimpArgs false
open m1 m2 m3 m4 m5 m6
abbrev Asc (l : List Int) : Prop := l.Pairwise (· < ·)
def gE (a l : List Int) : List Int := l.foldl fK a
def minV (a b : List Int) : List Int := a.filter fun x => !jd b x
theorem asc_at {l : List Int} (h : Asc l) {i j : Nat} (hij : i < j) (hj : j < l.length) : l.getD i 0 < l.getD j 0 := by
 have := (List.pairwise_iff_getElem.1 h) i j (by omega) hj hij
 rw [List.getD_eq_getElem?_getD, List.getD_eq_getElem?_getD, List.getElem?_eq_getElem hj, List.getElem?_eq_getElem (show i < l.length by omega)]; exact this
theorem pre_lt {l : List Int} {n : Int} : ∀ x ∈ l.take (gf l n), x < n := by
 intro x hx
 have e : l.take (gf l n) = l.takeWhile (fun x => decide (x < n)) := by
  unfold gf
  exact (List.prefix_iff_eq_take.1 (List.takeWhile_prefix _)).symm
 rw [e] at hx
 have := List.all_eq_true.1 (List.all_takeWhile (p := fun x => decide (x < n)) (l := l)) x hx
 simpa using this
theorem pre_at {l : List Int} {n : Int} (h : gf l n < l.length) : ¬ l.getD (gf l n) 0 < n := by
 induction l with
 | nil => simp at h
 | cons x l ih =>
  unfold gf at h ⊢
  by_cases hx : x < n
  ·
   rw [List.takeWhile_cons_of_pos (by simpa using hx)] at h ⊢
   simp only [List.length_cons, List.getD_cons_succ] at h ⊢
   exact ih (by unfold gf; omega)
  rw [List.takeWhile_cons_of_neg (by simpa using hx)]
  simpa using hx
theorem pre_ge {l : List Int} {n : Int} (ha : Asc l) : ∀ x ∈ l.drop (gf l n), n ≤ x := by
 intro x hx
 obtain ⟨i, hi, rfl⟩ := List.mem_iff_getElem.1 hx
 rw [List.getElem_drop]
 rw [List.length_drop] at hi
 have A := pre_at (l := l) (n := n) (by omega)
 rw [List.getD_eq_getElem?_getD, List.getElem?_eq_getElem (show gf l n < l.length by omega)] at A
 rcases Nat.eq_zero_or_pos i with rfl | hp
 ·
  simp only [Nat.add_zero]; simpa using A
 have := (List.pairwise_iff_getElem.1 ha) (gf l n) (gf l n + i) (by omega) (by omega) (by omega)
 simp only [Option.getD_some] at A
 omega
theorem ins_asc {l : List Int} {n : Int} (h : Asc l) : Asc (fK l n) := by
 unfold fK
 split
 ·
  exact h
 rename_i hc
 have hge := pre_ge (n := n) h
 have hlt := pre_lt (l := l) (n := n)
 refine List.pairwise_append.2 ⟨List.pairwise_append.2 ⟨h.sublist (List.take_sublist _ _), List.pairwise_singleton _ _, fun a ha b hb => ?_⟩, h.sublist (List.drop_sublist _ _), fun a ha b hb => ?_⟩
 ·
  rw [List.mem_singleton] at hb; subst hb; exact hlt a ha
 have hn : n < b := by
  have I := hge b hb
  rcases Int.lt_or_eq_of_le I with A | A
  ·
   exact A
  exfalso
  obtain ⟨i, hi, rfl⟩ := List.mem_iff_getElem.1 hb
  rw [List.length_drop] at hi
  rw [List.getElem_drop] at A
  apply hc
  refine ⟨by omega, ?_⟩
  have E := pre_at (l := l) (n := n) (by omega)
  rw [List.getD_eq_getElem?_getD, List.getElem?_eq_getElem (show gf l n < l.length by omega)] at E ⊢
  simp only [Option.getD_some] at E ⊢
  rcases Nat.eq_zero_or_pos i with rfl | hp
  ·
   simpa using A.symm
  have := (List.pairwise_iff_getElem.1 h) (gf l n) (gf l n + i) (by omega) (by omega) (by omega)
  omega
 rcases List.mem_append.1 ha with ha | ha
 ·
  have := hlt a ha; omega
 rw [List.mem_singleton] at ha; subst ha; exact hn
theorem ins_mem {l : List Int} {n x : Int} : x ∈ fK l n ↔ x = n ∨ x ∈ l := by
 unfold fK
 split
 ·
  rename_i h
  constructor
  ·
   exact .inr
  rintro (rfl | A)
  ·
   rw [← h.2, List.getD_eq_getElem?_getD, List.getElem?_eq_getElem h.1]; exact List.getElem_mem h.1
  exact A
 rw [List.mem_append, List.mem_append, List.mem_singleton]
 constructor
 ·
  rintro ((h | h) | h)
  ·
   exact .inr (List.mem_of_mem_take h)
  ·
   exact .inl h
  exact .inr (List.mem_of_mem_drop h)
 rintro (h | h)
 ·
  exact .inl (.inr h)
 rw [← List.take_append_drop (gf l n) l] at h
 rcases List.mem_append.1 h with h | h
 ·
  exact .inl (.inl h)
 exact .inr h
theorem uni_asc {l : List Int} : ∀ {a : List Int}, Asc a → Asc (gE a l) := by
 induction l with
 | nil => exact fun h => h
 | cons x l ih => exact fun h => ih (ins_asc h)
theorem uni_mem {l : List Int} {x : Int} : ∀ {a : List Int}, x ∈ gE a l ↔ x ∈ a ∨ x ∈ l := by
 induction l with
 | nil => intro a; simp [gE]
 | cons y l ih =>
  intro a
  have : gE a (y :: l) = gE (fK a y) l := rfl
  rw [this, ih, ins_mem, List.mem_cons]
  constructor
  ·
   rintro ((h | h) | h)
   ·
    exact .inr (.inl h)
   ·
    exact .inl h
   exact .inr (.inr h)
  rintro (h | h | h)
  ·
   exact .inl (.inr h)
  ·
   exact .inl (.inl h)
  exact .inr h
theorem uni_len {l : List Int} : ∀ {a : List Int}, (gE a l).length ≤ a.length + l.length := by
 induction l with
 | nil => intro a; exact Nat.le_refl _
 | cons y l ih =>
  intro a
  have A := ih (a := fK a y)
  have E := ins_len (l := a) (n := y)
  have : gE a (y :: l) = gE (fK a y) l := rfl
  rw [this, List.length_cons]; omega
theorem uni_snoc {a l : List Int} {x : Int} : gE a (l ++ [x]) = fK (gE a l) x := by unfold gE; rw [List.foldl_append]; rfl
theorem bn {α : Type} {d : α} {l : List α} {i : Nat} (h : i < l.length) : l.take (i + 1) = l.take i ++ [l.getD i d] := by
 rw [List.take_add_one, List.getElem?_eq_getElem h, List.getD_eq_getElem?_getD, List.getElem?_eq_getElem h]; rfl
theorem uni_step {a l o : List Int} {i : Nat} (h : i < l.length) (ho : o = gE a (l.take i)) : fK o (l.getD i 0) = gE a (l.take (i + 1)) := by rw [bn h (d := 0), uni_snoc, ho]
theorem uni_all {a l o : List Int} {i : Nat} (h : l.length ≤ i) (ho : o = gE a (l.take i)) : o = gE a l := by rw [ho, List.take_of_length_le h]
theorem pre_eqR {l : List Int} {n : Int} {k : Nat} (ha : Asc l) (hk : k ≤ l.length) (E : ∀ j, k ≤ j → j < l.length → n ≤ l.getD j 0) (I : 0 < k → l.getD (k - 1) 0 < n) : k = gf l n := by
 refine pre_eq hk (fun j hj => ?_) (fun hk' => by have := E k (Nat.le_refl _) hk'; omega)
 have J := I (by omega)
 rcases Nat.lt_or_ge j (k - 1) with A | A
 ·
  have := asc_at ha A (by omega); omega
 have : j = k - 1 := by omega
 subst this; exact J
theorem ge_step {l : List Int} {n : Int} {k : Nat} (h : ∀ j, k ≤ j → j < l.length → n ≤ l.getD j 0) (E : n ≤ l.getD (k - 1) 0) : ∀ j, k - 1 ≤ j → j < l.length → n ≤ l.getD j 0 := fun j N I => by
 rcases Nat.lt_or_ge j k with A | A
 ·
  have J : j = k - 1 := by omega
  subst J; exact E
 exact h j A I
theorem cp_ins {l : List Int} {n : Int} {k : Nat} (hk : k = gf l n) (hle : k ≤ l.length) (h : ¬ (k < l.length ∧ l.getD k 0 = n)) : (cpL (l ++ [0]) (k + 1) ((l ++ [0]).drop k)).set k n = fK l n := by
 have e : cpL (l ++ [0]) (k + 1) ((l ++ [0]).drop k) = (l ++ [0]).take (k + 1) ++ l.drop k := by
  unfold cpL
  have E : ((l ++ [0]).drop k).length = l.length + 1 - k := by simp
  have A : (l ++ [(0 : Int)]).length = l.length + 1 := by simp
  rw [E, A, show min (l.length + 1 - k) (l.length + 1 - (k + 1)) = l.length - k by omega, show k + 1 + (l.length - k) = l.length + 1 by omega]
  rw [show List.drop (l.length + 1) (l ++ [(0 : Int)]) = [] from List.drop_of_length_le (by rw [A]; exact Nat.le_refl _), List.append_nil]
  congr 1
  rw [List.drop_append, List.take_append, List.length_drop, show l.length + 1 - (k + 1) = l.length - k by omega, Nat.sub_self, List.take_zero, List.append_nil, List.take_of_length_le (by rw [List.length_drop]; omega)]
 rw [e, ← ins_new hk h, List.append_assoc, List.take_add_one]
 rw [List.set_append]
 have I : (List.take k (l ++ [0])) = l.take k := by rw [List.take_append, Nat.sub_eq_zero_of_le hle, List.take_zero, List.append_nil]
 have J : (l ++ [(0 : Int)])[k]?.toList = [(l ++ [(0 : Int)]).getD k 0] := by
  rw [List.getD_eq_getElem?_getD, List.getElem?_eq_getElem (show k < (l ++ [(0 : Int)]).length by simp; omega)]; rfl
 rw [I, J]
 have N : (List.take k l ++ [(l ++ [(0 : Int)]).getD k 0]).length = k + 1 := by simp; omega
 rw [if_pos (by rw [N]; omega), List.set_append, if_neg (by rw [List.length_take]; omega), List.length_take, show k - min k l.length = 0 by omega]
 simp
def readsL (v : VInT) : List Int := (if (aN v.i.op).ra then [v.i.a] else []) ++ ((if (aN v.i.op).rb then [v.i.b] else []) ++ ((if v.i.op = 11 ∨ v.i.op = 12 then [v.i.c] else []) ++ (if v.i.op = 6 then v.args else [])))
def aD (v : VInT) : List Int := if alV v.i.op then gE [] (readsL v) else []
def ab (v : VInT) : List Int := if alV v.i.op = true ∧ ((aN v.i.op).wa = true ∨ v.i.op = 6 ∨ v.i.op = 38) then [v.i.a] else []
def br (b : BlkT) : List Int := if b.fin = 1 then [b.tgt] else if b.fin = 2 then fK [b.tgt] b.els else []
def endV (b : BlkT) : List Int := if b.fin = 2 ∨ b.fin = 3 then [b.reg] else []
theorem reads_no {v : VInT} (h : alV v.i.op = false) : [] = aD v := by unfold aD; rw [h]; rfl
theorem reads_yes {v : VInT} {l : List Int} (h : alV v.i.op = true) (hl : l = readsL v) : gE [] l = aD v := by unfold aD; rw [h, hl]; rfl
theorem fS {a : Int} {p : Prop} [Decidable p] : (if p then [a] else []).length ≤ 1 := by split <;> simp
theorem writes_no {v : VInT} (h : alV v.i.op = false) : [] = ab v := by unfold ab; rw [if_neg (by simp [h])]
theorem writes_yes {v : VInT} (h : alV v.i.op = true) (A : (aN v.i.op).wa = true ∨ v.i.op = 6 ∨ v.i.op = 38) : [v.i.a] = ab v := by unfold ab; rw [if_pos ⟨h, A⟩]
theorem writes_not {v : VInT} (h : ¬ ((aN v.i.op).wa = true ∨ v.i.op = 6 ∨ v.i.op = 38)) : [] = ab v := by unfold ab; rw [if_neg fun hh => h hh.2]
theorem succ1 {b : BlkT} (h : b.fin = 1) : [b.tgt] = br b := by unfold br; rw [if_pos h]
theorem succ2 {b : BlkT} (h : b.fin = 2) : br b = fK [b.tgt] b.els := by unfold br; rw [if_neg (by omega), if_pos h]
theorem succ0 {b : BlkT} (h : b.fin ≠ 1 ∧ b.fin ≠ 2) : [] = br b := by unfold br; rw [if_neg h.1, if_neg h.2]
theorem eH {a b o : List Int} {i : Nat} (h : i < a.length) (ho : o = minV (a.take i) b) : (jd b (a.getD i 0) = false → o ++ [a.getD i 0] = minV (a.take (i + 1)) b) ∧ (jd b (a.getD i 0) = true → o = minV (a.take (i + 1)) b) := by
 unfold minV at ho ⊢
 rw [bn h (d := 0), List.filter_append, ← ho]
 constructor
 ·
  intro hc; rw [List.filter_cons, hc]; rfl
 intro hc; rw [List.filter_cons, hc]; simp
theorem min_len {a b : List Int} : (minV a b).length ≤ a.length := List.length_filter_le _ _
set_option maxHeartbeats 1000000 in
theorem unique_c (ex : FuncId) {a_l : Option Addr} {k_l : Nat} (l : List Int) {F : Fz} {H : Heap} {R : List Fp} (hs : HS (.of H []) F H [] R) (hl : SR F (.slice a_l l.length k_l) l) (hT : TB 37 tabC F) (hlen : l.length ≤ 1048600) : C Tryd.prog 1 (KT 60 ex 37 tabC) 101 [(.slice a_l l.length k_l)] H fun v H' => ∃ (ar : Option Addr) (kr : Nat) (r : List Int) (p : Fp) (F' : Fz), Fz.le F F' ∧ HS (.of H []) F' H' [p] R ∧ v = .slice ar r.length kr ∧ OS F' (.slice ar r.length kr) r p ∧ r = gE [] l := by
 refine aM Tryd.func101 rfl rfl ?_
 refine am 1 rfl ?_
 refine wR 2 [] 2 2 [] [(2, (.slice none 0 0))] trivial rfl fun _ => ?_
 refine wR 3 [] 1 0 [3] [(3, (.slice none 0 0))] trivial rfl fun _ => ?_
 refine wR 2 [] 7 9 [] [(7, (.slice a_l l.length k_l)), (8, (iI (l.length : Int))), (9, (iI 0))] trivial rfl fun _ => ?_
 have a8 := HS.snoc hs
 have a8 : HS _ _ _ [[]] _ := a8
 refine ak (fun (mm : Nat) f H' => ∃ (ow : List Int) (i : Nat) (A : Option Addr) (E : Nat) (J : Fp) (F' : Fz), Fz.le F F' ∧ HS (Base.of H []) F' H' [J] R ∧ OS F' (.slice A ow.length E) ow J ∧ aH f [(2, (.slice none 0 0)), (3, (.slice A ow.length E)), (7, (.slice a_l l.length k_l)), (8, (iI (l.length : Int))), (9, (iI (i : Int)))] ∧ mm = l.length - i ∧ (i ≤ l.length) ∧ (ow = gE [] (l.take i))) _ ⟨([] : List Int), 0, none, 0, [], _, fR, a8, (OS.nil : OS F (.slice none 0 0) ([] : List Int) []), ⟨rfl, rfl, rfl, rfl, rfl, trivial⟩, rfl, (by omega), (by rfl)⟩ ?_
 rintro f2 f4 H4 ⟨ow, i, A, E, J, F4, a1, O, I, b3, rfl, h1, h2⟩ b5
 refine aq _ b3 (fun _ => ?_)
 clear b3
 replace hl := hl.mono a1
 have hasc : Asc ow := h2 ▸ uni_asc List.Pairwise.nil
 have hle : ow.length ≤ i := by rw [h2]; exact Nat.le_trans uni_len (by simp; omega)
 refine am 1 rfl ?_
 refine wR 2 [] 10 10 [] [(10, (.bool (decide ((i : Int) < (l.length : Int)))))] trivial rfl fun _ => ?_
 refine au 4 5 (v := (decide ((i : Int) < (l.length : Int)))) rfl rfl rfl rfl (fun a4 => ?_) (fun a4 => ?_)
 ·
  have c7 := a4
  try simp only [BS] at c7
  obtain ⟨e4, b4⟩ := Sv.view (SR.sv hl O)
  have g9 := fI (b4 i)
  refine wR 2 [(1, .o (iI (l.getD i 0)))] 11 12 [5] [(5, (iI (l.getD i 0)))] (vA (Sv.ix (j := (i : Int)) (SR.sv hl O) (by omega) (by omega)) (vA (ql 3 0 (vI (b4 i) (by omega)) rfl rfl) trivial)) rfl fun _ => ?_
  refine wR 3 [] 13 14 [6] [(6, (iI (ow.length : Int)))] trivial rfl fun _ => ?_
  refine ak (fun (mm : Nat) f H' => ∃ (k : Nat), H' = H4 ∧ aH f [(2, (.slice none 0 0)), (3, (.slice A ow.length E)), (5, (iI (l.getD i 0))), (6, (iI (k : Int))), (7, (.slice a_l l.length k_l)), (8, (iI (l.length : Int))), (9, (iI (i : Int))), (10, (.bool (decide ((i : Int) < (l.length : Int)))))] ∧ mm = k + 1 ∧ (k ≤ ow.length) ∧ (∀ j, k ≤ j → j < ow.length → l.getD i 0 ≤ ow.getD j 0)) _ ⟨ow.length, rfl, ⟨rfl, rfl, rfl, rfl, rfl, rfl, rfl, rfl, trivial⟩, rfl, (by omega), (by intro j h5 h6; omega)⟩ ?_
  rintro et e5 H4 ⟨k, rfl, a6, rfl, h3, h4⟩ c3
  refine aq _ a6 (fun _ => ?_)
  clear a6
  refine am 2 rfl ?_
  obtain ⟨d2, a9⟩ := Sv.view (OS.sv I O (i := 0) rfl)
  have e6 := fI (a9 (k - 1))
  refine wR 1 [(5, .e ((k - 1 : Nat) : Int)), (7, .o (iI (ow.getD (k - 1) 0)))] 15 25 [] [(25, (.bool ((decide ((0 : Int) < (k : Int))) && (decide ((l.getD i 0) ≤ (ow.getD (k - 1) 0))))))] (vA (fun (V : (decide ((0 : Int) < (k : Int))) = true) => (ve (n := (k : Int) - 1) (m := ((k - 1 : Nat) : Int)) (by (try simp only [BS] at V); omega) (by (try simp only [BS] at V); omega))) (vA (fun (V : (decide ((0 : Int) < (k : Int))) = true) => (Sv.ix (j := ((k - 1 : Nat) : Int)) (OS.sv I O (i := 0) rfl) (by (try simp only [BS] at V); omega) (by (try simp only [BS] at V); omega))) (vA (fun (V : (decide ((0 : Int) < (k : Int))) = true) => (ql 3 0 (vI (a9 (k - 1)) (by (try simp only [BS] at V); omega)) rfl rfl)) trivial))) rfl fun _ => ?_
  refine au 2 6 (v := ((decide ((0 : Int) < (k : Int))) && (decide ((l.getD i 0) ≤ (ow.getD (k - 1) 0))))) rfl rfl rfl rfl (fun an => ?_) (fun an => ?_)
  ·
   have a2 := an
   try simp only [BS] at a2
   refine wR 2 [(1, .e ((k - 1 : Nat) : Int))] 26 27 [6] [(6, (iI ((k - 1 : Nat) : Int)))] (vA (ve (n := (k : Int) - 1) (m := ((k - 1 : Nat) : Int)) (by omega) (by omega)) trivial) rfl fun _ => ?_
   refine c3 _ _ _ ?_ ⟨k - 1, rfl, ⟨rfl, rfl, rfl, rfl, rfl, rfl, rfl, rfl, trivial⟩, rfl, (by omega), (by exact ge_step h4 (by omega))⟩
   omega
  have a2 := an
  try simp only [BS] at a2
  have hk := pre_eqR hasc h3 h4 (by omega)
  obtain ⟨ea, bb⟩ := Sv.view (OS.sv I O (i := 0) rfl)
  have fd := fI (bb k)
  refine wR 1 [(8, .o (iI (ow.getD k 0)))] 28 39 [] [(39, (.bool ((decide ((k : Int) < (ow.length : Int))) && ((ow.getD k 0) == (l.getD i 0)))))] (vA (fun (V : (decide ((k : Int) < (ow.length : Int))) = true) => (Sv.ix (j := (k : Int)) (OS.sv I O (i := 0) rfl) (by (try simp only [BS] at V); omega) (by (try simp only [BS] at V); omega))) (vA (fun (V : (decide ((k : Int) < (ow.length : Int))) = true) => (ql 3 0 (vI (bb k) (by (try simp only [BS] at V); omega)) rfl rfl)) trivial)) rfl fun _ => ?_
  refine au 3 2 (v := ((decide ((k : Int) < (ow.length : Int))) && ((ow.getD k 0) == (l.getD i 0)))) rfl rfl rfl rfl (fun av => ?_) (fun av => ?_)
  ·
   have a3 := av
   try simp only [BS] at a3
   refine wR 1 [] 9 9 [55] [(9, (iI ((i : Int) + 1)))] (vA (vi (n := (i : Int) + 1) (by omega)) trivial) rfl fun _ => ?_
   refine b5 _ _ _ ?_ ⟨ow, i + 1, A, E, J, _, (a1), O, I, ⟨rfl, rfl, rfl, rfl, rfl, trivial⟩, rfl, (by omega), (by (rw [← uni_step (by omega) h2]; exact ins_same hk (by omega) (by omega)))⟩
   omega
  have a3 := av
  try simp only [BS] at a3
  refine aa ?_
  refine wm (.slice A ow.length E) rfl rfl rfl ?_
  refine aK (bF (α := Int) (ps := [(0, (iI 0))]) (cells := [(iI 0)]) ([0] : List Int) O rfl rfl rfl (by kernel_rfl) ⟨[(iI 0)], [], rfl, ⟨rfl, by omega⟩, rfl⟩ rfl) rfl rfl ?_
  rintro _ ez dn ⟨e1, fi, rfl, ci, (a7 : HS _ _ _ [J, dn] _), _⟩
  refine aK (ca (α := Int) (q := 0) I a7 rfl rfl rfl (OS.sv ci a7 (i := 1) rfl) rfl rfl rfl rfl rfl rfl rfl (by (simp only [List.length_append, List.length_cons, List.length_nil]; omega))) rfl rfl ?_
  rintro _ c8 b6 ⟨T, U, rfl, aw, (ay : HS _ _ _ [b6, _] _), _⟩
  refine wa (.slice T (ow ++ ([0] : List Int)).length U) rfl rfl rfl ?_
  refine aj 2 rfl ?_
  have la : (ow ++ ([0] : List Int)).length = ow.length + 1 := by simp
  refine bL rfl ?_
  refine fm (.slice T (ow ++ ([0] : List Int)).length U) rfl rfl rfl ?_
  refine fm (iI (k : Int)) rfl rfl rfl ?_
  refine wfv (v := (iI ((k : Int) + 1))) (ap_add rfl rfl (w_i64 (n := (k : Int) + 1) (by omega))) ?_
  refine dC (id := .r) (rs_cutX (α := Int) (i := k + 1) aw ay.log0 (q := 0) rfl rfl rfl rfl (optN (by omega)) (by omega)) rfl rfl (by rintro _ _ _ ⟨_, _, _, hH, _⟩; simp only at hH; subst hH; exact did_r fun b hb => absurd hb List.not_mem_nil) (kb rfl) ?_
  rintro _ _ _ ⟨e2, f0, rfl, Z, es, bk⟩ c4 b0
  simp only at Z; replace Z := Z.symm; subst Z
  have al := HS.lg ay.log0 ay b0
  generalize ({ { c8 with log := [] } with log := c4 } : Heap) = cc at al ⊢
  refine fm (.slice T (ow ++ ([0] : List Int)).length U) rfl rfl rfl ?_
  refine fm (iI (k : Int)) rfl rfl rfl ?_
  refine dC (id := .r) (rs_cutX (α := Int) (i := k) aw al.log0 (q := 0) rfl rfl rfl rfl (optN (by omega)) (by omega)) rfl rfl (by rintro _ _ _ ⟨_, _, _, hH, _⟩; simp only at hH; subst hH; exact did_r fun b hb => absurd hb List.not_mem_nil) (kb rfl) ?_
  rintro _ _ _ ⟨e3, f1, rfl, ad, co, ds⟩ c5 b1
  simp only at ad; replace ad := ad.symm; subst ad
  have a0 := HS.lg al.log0 al b1
  generalize ({ { cc with log := [] } with log := c5 } : Heap) = dv at a0 ⊢
  refine dC (id := .x (b6.map Prod.fst)) (rs_cp (α := Int) (i := k + 1) aw a0.log0 (q := 0) rfl rfl bk (by omega) co rfl rfl rfl) rfl rfl (by rintro _ _ b7 ⟨rfl, ag, _, hwr⟩; exact d3 rfl rfl (Wr.did hwr)) (kb rfl) ?_
  rintro _ c9 b7 ⟨rfl, ag, N, _⟩ c6 b2
  replace N := HS.lg N a0 b2
  generalize ({ c9 with log := c6 } : Heap) = d1 at N ⊢
  have N : HS _ _ _ [b7, _] _ := N
  have em := OS.len' ag
  refine d8 ?_
  refine am 1 rfl ?_
  refine aa ?_
  refine wRo 4 0 [] 51 54 [] [(53, (iI (l.getD i 0))), (54, (.pointer (some ⟨sB (.slice T (ow ++ ([0] : List Int)).length U), sO (.slice T (ow ++ ([0] : List Int)).length U) + k * Rp.sz Int, none⟩)))] (vA (Sv.ix (j := (k : Int)) (OS.sv ag N (i := 0) rfl) (by omega) (by omega)) trivial) rfl fun _ => ?_
  refine aT (ei (α := Int) (j := k) (off := 0) (q := 0) (l.getD i 0) ag N rfl rfl rfl rfl rfl rfl rfl rfl (aY (x := (0 : Int)) (by omega)) rfl (by rintro cs ⟨rfl, _⟩; exact ⟨Nat.le_of_ble_eq_true rfl, rfl, by omega⟩)) rfl ?_
  rintro _ e0 b9 ⟨ax, (c0 : HS _ _ _ [b9, _] _), _⟩
  have dt := OS.len' ax
  refine aj 2 rfl ?_
  refine wR 1 [] 9 9 [55] [(9, (iI ((i : Int) + 1)))] (vA (vi (n := (i : Int) + 1) (by omega)) trivial) rfl fun _ => ?_
  refine b5 _ _ _ ?_ ⟨(cpL (ow ++ ([0] : List Int)) (k + 1) ((ow ++ ([0] : List Int)).drop k)).set k (l.getD i 0), i + 1, T, U, b9, _, (a1), (HS.sub c0 (List.sublist_append_left _ _)), (OS.norm ax), (agC rfl (agC (show Value.slice T (ow ++ ([0] : List Int)).length U = Value.slice T ((cpL (ow ++ ([0] : List Int)) (k + 1) ((ow ++ ([0] : List Int)).drop k)).set k (l.getD i 0)).length U by rw [OS.len' ax]) ⟨rfl, rfl, rfl, trivial⟩)), rfl, (by omega), (by (rw [cp_ins hk h3 (by omega)]; exact uni_step (by omega) h2))⟩
  omega
 have c7 := a4
 try simp only [BS] at c7
 refine wR 1 [] 2 2 [56] [(2, (.slice A ow.length E))] trivial rfl fun _ => ?_
 refine az ⟨.inr rfl, _, rfl, A, E, ow, J, _, (a1), (HS.only O (i := 0) rfl), rfl, I, (by exact uni_all (by omega) h2)⟩
set_option maxHeartbeats 1000000 in
theorem jk (ex : FuncId) {Z : Option Addr} {ad : Nat} (iv : VInT) {F : Fz} {H : Heap} {R : List Fp} (hs : HS (.of H []) F H [] R) (hA : in64 iv.i.op) (hB : in64 iv.i.a) (hC : in64 iv.i.b) (hD : in64 iv.i.c) (hE : in64 iv.i.n) (A : SR F (.slice Z iv.args.length ad) iv.args) (hT : TB 37 tabC F) (hlen : iv.args.length ≤ 1048576) : C Tryd.prog 1 (KT 60 ex 37 tabC) 57 [(.agg ⟨[(iI iv.i.op), (iI iv.i.a), (iI iv.i.b), (iI iv.i.c), (iI iv.i.n), (.slice Z iv.args.length ad)]⟩)] H fun v H' => ∃ (ar : Option Addr) (kr : Nat) (r : List Int) (p : Fp) (F' : Fz), Fz.le F F' ∧ HS (.of H []) F' H' [p] R ∧ v = .slice ar r.length kr ∧ OS F' (.slice ar r.length kr) r p ∧ r = aD iv := by
 refine aM Tryd.func57 rfl rfl ?_
 refine am 1 rfl ?_
 refine aa ?_
 refine aK (cF hs rfl rfl) rfl rfl ?_
 rintro _ H2 _ ⟨b1, rfl, (a6 : HS _ _ _ [[(b1, .cells [(iI iv.i.op), (iI iv.i.a), (iI iv.i.b), (iI iv.i.c), (iI iv.i.n), (.slice Z iv.args.length ad)] none false)]] _), _⟩
 refine wa (.slice none 0 0) rfl rfl rfl ?_
 refine aj 3 rfl ?_
 refine wR 1 [(2, .o (iI iv.i.op)), (3, .o (.bool (alV iv.i.op)))] 6 10 [] [(10, (.bool (!(alV iv.i.op))))] (vA (ql 3 0 (HS.hc a6 (i := 0) rfl) rfl rfl) (vA (m1.jl ex iv.i.op H2) trivial)) rfl fun _ => ?_
 refine au 1 2 (v := (!(alV iv.i.op))) rfl rfl rfl rfl (fun c8 => ?_) (fun c8 => ?_)
 ·
  have c4 := c8
  try simp only [BS] at c4
  refine wR 1 [] 2 2 [] [(2, (.slice none 0 0))] trivial rfl fun _ => ?_
  refine az ⟨.inr rfl, _, rfl, none, 0, ([] : List Int), [], _, fR, (HS.cons (HS.forget a6)), rfl, (OS.nil : OS _ _ _ []), (by exact reads_no (by assumption))⟩
 have c4 := c8
 try simp only [BS] at c4
 refine aa ?_
 refine wRo 3 0 [(2, .o (iI iv.i.op))] 12 14 [] [(14, (iI iv.i.op))] (vA (ql 3 0 (HS.hc a6 (i := 0) rfl) rfl rfl) trivial) rfl fun _ => ?_
 refine aE (aB rfl rfl rfl) rfl rfl (m1.mInfo_c ex iv.i.op (HS.call a6) (by omega) hT) ?_
 rintro _ H7 ⟨x7, o7, F7, dk, em, rfl, hm, hn, rfl, rfl⟩
 replace em : HS _ _ _ [_] _ := HS.back a6 rfl em
 replace hT := hT.mono dk
 replace A := A.mono dk
 refine wRo 3 4 [] 16 17 [11] [(16, (.agg ⟨[(.string ⟨⟨(aN iv.i.op).name.b⟩⟩), (iI (aN iv.i.op).form), (.bool (aN iv.i.op).ra), (.bool (aN iv.i.op).wa), (.bool (aN iv.i.op).rb), (.bool (aN iv.i.op).mt), (iI (aN iv.i.op).words)]⟩)), (17, (.bool (infO iv.i.op)))] trivial rfl fun _ => ?_
 refine aK (bx em rfl) rfl rfl ?_
 rintro _ hS _ ⟨b9, rfl, (g9 : HS _ _ _ [_, [(b9, .cells [(.string ⟨⟨[]⟩⟩), (iI 0), (.bool false), (.bool false), (.bool false), (.bool false), (iI 0)] none false)]] _), _⟩
 refine aT (aP (q := 1) g9 rfl rfl rfl rfl rfl rfl rfl rfl rfl) rfl ?_
 rintro _ hV _ ⟨(dv : HS _ _ _ [_, [(b9, .cells [(.string ⟨⟨(aN iv.i.op).name.b⟩⟩), (iI (aN iv.i.op).form), (.bool (aN iv.i.op).ra), (.bool (aN iv.i.op).wa), (.bool (aN iv.i.op).rb), (.bool (aN iv.i.op).mt), (iI (aN iv.i.op).words)] none false)]] _), _⟩
 refine wa (.bool (infO iv.i.op)) rfl rfl rfl ?_
 refine aj 2 rfl ?_
 refine wR 3 [] 1 0 [5] [(5, (.slice none 0 0))] trivial rfl fun _ => ?_
 refine wR 1 [(1, .o (.bool (aN iv.i.op).ra))] 18 19 [] [(19, (.bool (aN iv.i.op).ra))] (vA (ql 4 2 (HS.hc dv (i := 1) rfl) rfl rfl) trivial) rfl fun _ => ?_
 have av := HS.snoc dv
 have av : HS _ _ _ [_, _, []] _ := av
 let cc : Fp := [(b1, .cells [(iI iv.i.op), (iI iv.i.a), (iI iv.i.b), (iI iv.i.c), (iI iv.i.n), (.slice Z iv.args.length ad)] none false)]
 let ch : Fp := [(b9, .cells [(.string ⟨⟨(aN iv.i.op).name.b⟩⟩), (iI (aN iv.i.op).form), (.bool (aN iv.i.op).ra), (.bool (aN iv.i.op).wa), (.bool (aN iv.i.op).rb), (.bool (aN iv.i.op).mt), (iI (aN iv.i.op).words)] none false)]
 refine cG (fun f H' => ∃ (l1 : List Int) (E : Option Addr) (N : Nat) (U : Fp) (F' : Fz), Fz.le F7 F' ∧ HS (Base.of H []) F' H' [cc, ch, U] R ∧ OS F' (.slice E l1.length N) l1 U ∧ aH f [(1, (.pointer (some ⟨b1, 0, none⟩))), (2, (.slice none 0 0)), (3, (.pointer (some ⟨b9, 0, none⟩))), (5, (.slice E l1.length N))] ∧ (l1 = if (aN iv.i.op).ra = true then [iv.i.a] else [])) (fun es => ?_) ?_
 ·
  refine au 0 0 (v := (aN iv.i.op).ra) rfl rfl rfl rfl (fun bb => ?_) (fun bb => ?_)
  ·
   have c3 := bb
   try simp only [BS] at c3
   refine aa ?_
   refine wRo 4 0 [(3, .o (iI iv.i.a))] 20 23 [] [(20, (.slice none 0 0)), (23, (iI iv.i.a))] (vA (ql 3 1 (HS.hc av (i := 0) rfl) rfl rfl) trivial) rfl fun _ => ?_
   refine aK (bF (α := Int) (ps := [(0, (iI iv.i.a))]) (cells := [(iI iv.i.a)]) ([iv.i.a] : List Int) av rfl rfl rfl (by kernel_rfl) ⟨[(iI iv.i.a)], [], rfl, ⟨rfl, by omega⟩, rfl⟩ rfl) rfl rfl ?_
   rintro _ hX hp ⟨ib, i2, rfl, g2, (d1 : HS _ _ _ [_, _, _, hp] _), _⟩
   refine aK (ca (α := Int) (q := 2) (OS.nil : OS F7 (.slice none 0 0) ([] : List Int) []) d1 rfl rfl rfl (OS.sv g2 d1 (i := 3) rfl) rfl rfl rfl rfl rfl rfl rfl (by (simp only [List.length_append, List.length_cons, List.length_nil]; omega))) rfl rfl ?_
   rintro _ h0 e4 ⟨ci, e1, rfl, b6, (ha : HS _ _ _ [_, _, e4, _] _), _⟩
   have b6 : OS F7 (.slice ci ([iv.i.a] : List Int).length e1) ([iv.i.a] : List Int) e4 := b6
   refine wa (.slice ci ([iv.i.a] : List Int).length e1) rfl rfl rfl ?_
   refine aj 0 rfl ?_
   exact es _ _ ⟨([iv.i.a] : List Int), ci, e1, e4, _, fR, (HS.sub ha (List.sublist_append_left _ _)), b6, ⟨rfl, rfl, rfl, rfl, trivial⟩, (by (rw [if_pos (by first | assumption | omega)]; done))⟩
  have c3 := bb
  try simp only [BS] at c3
  exact es _ _ ⟨([] : List Int), none, 0, [], _, fR, av, (OS.nil : OS F7 (.slice none 0 0) ([] : List Int) []), ⟨rfl, rfl, rfl, rfl, trivial⟩, (by (rw [if_neg (by first | omega | (intro hh; simp_all; done))]; done))⟩
 skip
 rintro il hW ⟨l1, E, N, U, hj, b3, a4, a7, dl, q1⟩
 refine aq _ dl (fun _ => ?_)
 clear dl
 replace hT := hT.mono b3
 replace A := A.mono b3
 have n1 : l1.length ≤ 1 := by rw [q1]; exact fS
 refine am 3 rfl ?_
 refine wR 1 [(1, .o (.bool (aN iv.i.op).rb))] 26 27 [] [(27, (.bool (aN iv.i.op).rb))] (vA (ql 4 4 (HS.hc a4 (i := 1) rfl) rfl rfl) trivial) rfl fun _ => ?_
 refine cG (fun f H' => ∃ (l2 : List Int) (I : Option Addr) (O : Nat) (V : Fp) (F' : Fz), Fz.le hj F' ∧ HS (Base.of H []) F' H' [cc, ch, V] R ∧ OS F' (.slice I l2.length O) l2 V ∧ aH f [(1, (.pointer (some ⟨b1, 0, none⟩))), (2, (.slice none 0 0)), (5, (.slice I l2.length O))] ∧ (l2 = l1 ++ if (aN iv.i.op).rb = true then [iv.i.b] else [])) (fun et => ?_) ?_
 ·
  refine au 0 0 (v := (aN iv.i.op).rb) rfl rfl rfl rfl (fun bk => ?_) (fun bk => ?_)
  ·
   have c5 := bk
   try simp only [BS] at c5
   refine aa ?_
   refine wRo 4 0 [(3, .o (iI iv.i.b))] 28 31 [] [(28, (.slice E l1.length N)), (31, (iI iv.i.b))] (vA (ql 3 2 (HS.hc a4 (i := 0) rfl) rfl rfl) trivial) rfl fun _ => ?_
   refine aK (bF (α := Int) (ps := [(0, (iI iv.i.b))]) (cells := [(iI iv.i.b)]) ([iv.i.b] : List Int) a4 rfl rfl rfl (by kernel_rfl) ⟨[(iI iv.i.b)], [], rfl, ⟨rfl, by omega⟩, rfl⟩ rfl) rfl rfl ?_
   rintro _ h2 hr ⟨ih, i3, rfl, g3, (d2 : HS _ _ _ [_, _, U, hr] _), _⟩
   refine aK (ca (α := Int) (q := 2) a7 d2 rfl rfl rfl (OS.sv g3 d2 (i := 3) rfl) rfl rfl rfl rfl rfl rfl rfl (by (simp only [List.length_append, List.length_cons, List.length_nil]; omega))) rfl rfl ?_
   rintro _ h3 f5 ⟨fi, f2, rfl, g4, (hb : HS _ _ _ [_, _, f5, _] _), _⟩
   refine wa (.slice fi (l1 ++ ([iv.i.b] : List Int)).length f2) rfl rfl rfl ?_
   refine aj 0 rfl ?_
   exact et _ _ ⟨l1 ++ ([iv.i.b] : List Int), fi, f2, f5, _, fR, (HS.sub hb (List.sublist_append_left _ _)), g4, ⟨rfl, rfl, rfl, trivial⟩, (by (rw [if_pos (by first | assumption | omega)]; done))⟩
  have c5 := bk
  try simp only [BS] at c5
  exact et _ _ ⟨l1, E, N, U, _, fR, a4, a7, ⟨rfl, rfl, rfl, trivial⟩, (by (rw [if_neg (by first | omega | (intro hh; simp_all; done)), List.append_nil]))⟩
 skip
 rintro it h1 ⟨l2, I, O, V, hk, b4, aw, a8, dn, q2⟩
 refine aq _ dn (fun _ => ?_)
 clear dn
 replace hT := hT.mono b4
 replace A := A.mono b4
 have n2 : l2.length ≤ 2 := by rw [q2, List.length_append]; exact Nat.add_le_add n1 fS
 refine am 3 rfl ?_
 refine wR 1 [(2, .o (iI iv.i.op)), (7, .o (iI iv.i.op))] 34 43 [] [(43, (.bool ((iv.i.op == 11) || (iv.i.op == 12))))] (vA (ql 3 0 (HS.hc aw (i := 0) rfl) rfl rfl) (vA (fun (g1 : (iv.i.op == 11) = false) => (ql 3 0 (HS.hc aw (i := 0) rfl) rfl rfl)) trivial)) rfl fun _ => ?_
 refine cG (fun f H' => ∃ (l3 : List Int) (J : Option Addr) (T : Nat) (an : Fp) (F' : Fz), Fz.le hk F' ∧ HS (Base.of H []) F' H' [cc, ch, an] R ∧ OS F' (.slice J l3.length T) l3 an ∧ aH f [(1, (.pointer (some ⟨b1, 0, none⟩))), (2, (.slice none 0 0)), (5, (.slice J l3.length T))] ∧ (l3 = l2 ++ if iv.i.op = 11 ∨ iv.i.op = 12 then [iv.i.c] else [])) (fun ez => ?_) ?_
 ·
  refine au 0 0 (v := ((iv.i.op == 11) || (iv.i.op == 12))) rfl rfl rfl rfl (fun b0 => ?_) (fun b0 => ?_)
  ·
   have c6 := b0
   try simp only [BS] at c6
   refine aa ?_
   refine wRo 4 0 [(3, .o (iI iv.i.c))] 44 47 [] [(44, (.slice I l2.length O)), (47, (iI iv.i.c))] (vA (ql 3 3 (HS.hc aw (i := 0) rfl) rfl rfl) trivial) rfl fun _ => ?_
   refine aK (bF (α := Int) (ps := [(0, (iI iv.i.c))]) (cells := [(iI iv.i.c)]) ([iv.i.c] : List Int) aw rfl rfl rfl (by kernel_rfl) ⟨[(iI iv.i.c)], [], rfl, ⟨rfl, by omega⟩, rfl⟩ rfl) rfl rfl ?_
   rintro _ h5 ht ⟨ik, ja, rfl, g5, (ea : HS _ _ _ [_, _, V, ht] _), _⟩
   refine aK (ca (α := Int) (q := 2) a8 ea rfl rfl rfl (OS.sv g5 ea (i := 3) rfl) rfl rfl rfl rfl rfl rfl rfl (by (simp only [List.length_append, List.length_cons, List.length_nil]; omega))) rfl rfl ?_
   rintro _ h6 f6 ⟨f0, f3, rfl, g6, (he : HS _ _ _ [_, _, f6, _] _), _⟩
   refine wa (.slice f0 (l2 ++ ([iv.i.c] : List Int)).length f3) rfl rfl rfl ?_
   refine aj 0 rfl ?_
   exact ez _ _ ⟨l2 ++ ([iv.i.c] : List Int), f0, f3, f6, _, fR, (HS.sub he (List.sublist_append_left _ _)), g6, ⟨rfl, rfl, rfl, trivial⟩, (by (rw [if_pos (by first | assumption | omega)]; done))⟩
  have c6 := b0
  try simp only [BS] at c6
  exact ez _ _ ⟨l2, I, O, V, _, fR, aw, a8, ⟨rfl, rfl, rfl, trivial⟩, (by (rw [if_neg (by first | omega | (intro hh; simp_all; done)), List.append_nil]))⟩
 skip
 rintro iz h4 ⟨l3, J, T, an, hl, b5, ax, a9, ds, q3⟩
 refine aq _ ds (fun _ => ?_)
 clear ds
 replace hT := hT.mono b5
 replace A := A.mono b5
 have n3 : l3.length ≤ 3 := by rw [q3, List.length_append]; exact Nat.add_le_add n2 fS
 refine am 3 rfl ?_
 refine wR 1 [(2, .o (iI iv.i.op))] 50 53 [] [(53, (.bool (iv.i.op == 6)))] (vA (ql 3 0 (HS.hc ax (i := 0) rfl) rfl rfl) trivial) rfl fun _ => ?_
 refine cG (fun f H' => ∃ (l4 : List Int) (ag : Option Addr) (al : Nat) (a2 : Fp) (F' : Fz), Fz.le hl F' ∧ HS (Base.of H []) F' H' [cc, ch, a2] R ∧ OS F' (.slice ag l4.length al) l4 a2 ∧ aH f [(2, (.slice none 0 0)), (5, (.slice ag l4.length al))] ∧ (l4 = l3 ++ if iv.i.op = 6 then iv.args else [])) (fun e0 => ?_) ?_
 ·
  refine au 0 0 (v := (iv.i.op == 6)) rfl rfl rfl rfl (fun b2 => ?_) (fun b2 => ?_)
  ·
   have c7 := b2
   try simp only [BS] at c7
   refine aa ?_
   refine wRo 3 0 [(2, .o (.slice Z iv.args.length ad))] 54 56 [] [(54, (.slice J l3.length T)), (56, (.slice Z iv.args.length ad))] (vA (ql 25 5 (HS.hc ax (i := 0) rfl) rfl rfl) trivial) rfl fun _ => ?_
   refine aK (ca (α := Int) (q := 2) a9 ax rfl rfl rfl (SR.sv A ax) rfl rfl rfl rfl rfl rfl rfl (by omega)) rfl rfl ?_
   rintro _ h8 f8 ⟨f1, f4, rfl, g7, (hg : HS _ _ _ [_, _, f8] _), _⟩
   refine wa (.slice f1 (l3 ++ iv.args).length f4) rfl rfl rfl ?_
   refine aj 0 rfl ?_
   exact e0 _ _ ⟨l3 ++ iv.args, f1, f4, f8, _, fR, hg, g7, ⟨rfl, rfl, trivial⟩, (by (rw [if_pos (by first | assumption | omega)]; done))⟩
  have c7 := b2
  try simp only [BS] at c7
  exact e0 _ _ ⟨l3, J, T, an, _, fR, ax, a9, ⟨rfl, rfl, trivial⟩, (by (rw [if_neg (by first | omega | (intro hh; simp_all; done)), List.append_nil]))⟩
 skip
 rintro i1 h7 ⟨l4, ag, al, a2, hK, c9, hf, e3, dt, q4⟩
 refine aq _ dt (fun _ => ?_)
 clear dt
 have n4 : l4.length ≤ 1048579 := by rw [q4, List.length_append]; (have hq : (if iv.i.op = 6 then iv.args else []).length ≤ iv.args.length := by split <;> first | exact Nat.le_refl _ | exact Nat.zero_le _); omega
 refine am 2 rfl ?_
 refine aa ?_
 refine wm (.slice ag l4.length al) rfl rfl rfl ?_
 obtain ⟨hQ, dd, a5, g8, hG⟩ := OS.frz e3 hf (i := 2) rfl
 have a5 : HS _ _ _ [_, _, _] _ := a5
 replace hT := (hT.mono c9).mono dd
 refine aE (aB rfl rfl rfl) rfl rfl (unique_c ex l4 (HS.call a5) g8 hT (by omega)) ?_
 rintro _ h9 ⟨co, e2, jb, f9, hR, g0, b7, rfl, fd, rfl⟩
 replace b7 : HS _ _ _ [_, _, _, f9] _ := HS.back a5 rfl b7
 refine wa (.slice co (gE [] l4).length e2) rfl rfl rfl ?_
 refine aj 1 rfl ?_
 refine az ⟨.inr rfl, _, rfl, co, e2, gE [] l4, f9, _, (fT (fT (fT (fT (fT (fT (dk) b3) b4) b5) c9) dd) g0), (HS.only b7 (i := 3) rfl), rfl, fd, (by exact reads_yes (by assumption) (by simp only [q4, q3, q2, q1, readsL, List.append_assoc]))⟩
set_option maxHeartbeats 1000000 in
theorem fk (ex : FuncId) {E : Option Addr} {I : Nat} (iv : VInT) {F : Fz} {H : Heap} {R : List Fp} (hs : HS (.of H []) F H [] R) (a1 : in64 iv.i.op) (a2 : in64 iv.i.a) (a3 : in64 iv.i.b) (a4 : in64 iv.i.c) (a5 : in64 iv.i.n) (a6 : SR F (.slice E iv.args.length I) iv.args) (hT : TB 37 tabC F) : C Tryd.prog 1 (KT 60 ex 37 tabC) 52 [(.agg ⟨[(iI iv.i.op), (iI iv.i.a), (iI iv.i.b), (iI iv.i.c), (iI iv.i.n), (.slice E iv.args.length I)]⟩)] H fun v H' => ∃ (ar : Option Addr) (kr : Nat) (r : List Int) (p : Fp) (F' : Fz), Fz.le F F' ∧ HS (.of H []) F' H' [p] R ∧ v = .slice ar r.length kr ∧ OS F' (.slice ar r.length kr) r p ∧ r = ab iv := by
 refine aM Tryd.func52 rfl rfl ?_
 refine am 1 rfl ?_
 refine aa ?_
 refine aK (cF hs rfl rfl) rfl rfl ?_
 rintro _ H2 _ ⟨b1, rfl, (J : HS _ _ _ [[(b1, .cells [(iI iv.i.op), (iI iv.i.a), (iI iv.i.b), (iI iv.i.c), (iI iv.i.n), (.slice E iv.args.length I)] none false)]] _), _⟩
 refine wa (.slice none 0 0) rfl rfl rfl ?_
 refine aj 3 rfl ?_
 refine wR 1 [(2, .o (iI iv.i.op)), (3, .o (.bool (alV iv.i.op)))] 5 9 [] [(9, (.bool (!(alV iv.i.op))))] (vA (ql 3 0 (HS.hc J (i := 0) rfl) rfl rfl) (vA (m1.jl ex iv.i.op H2) trivial)) rfl fun _ => ?_
 refine au 1 2 (v := (!(alV iv.i.op))) rfl rfl rfl rfl (fun T => ?_) (fun T => ?_)
 ·
  have c4 := T
  try simp only [BS] at c4
  refine wR 1 [] 2 2 [] [(2, (.slice none 0 0))] trivial rfl fun _ => ?_
  refine az ⟨.inr rfl, _, rfl, none, 0, ([] : List Int), [], _, fR, (HS.cons (HS.forget J)), rfl, (OS.nil : OS _ _ _ []), (by exact writes_no (by assumption))⟩
 have c4 := T
 try simp only [BS] at c4
 refine aa ?_
 refine wRo 3 0 [(2, .o (iI iv.i.op))] 11 13 [] [(13, (iI iv.i.op))] (vA (ql 3 0 (HS.hc J (i := 0) rfl) rfl rfl) trivial) rfl fun _ => ?_
 refine aE (aB rfl rfl rfl) rfl rfl (m1.mInfo_c ex iv.i.op (HS.call J) (by omega) hT) ?_
 rintro _ H7 ⟨x7, o7, F7, Z, U, rfl, ay, a0, rfl, rfl⟩
 replace U : HS _ _ _ [_] _ := HS.back J rfl U
 refine wRo 3 4 [] 15 16 [10] [(15, (.agg ⟨[(.string ⟨⟨(aN iv.i.op).name.b⟩⟩), (iI (aN iv.i.op).form), (.bool (aN iv.i.op).ra), (.bool (aN iv.i.op).wa), (.bool (aN iv.i.op).rb), (.bool (aN iv.i.op).mt), (iI (aN iv.i.op).words)]⟩)), (16, (.bool (infO iv.i.op)))] trivial rfl fun _ => ?_
 refine aK (bx U rfl) rfl rfl ?_
 rintro _ bb _ ⟨b9, rfl, (av : HS _ _ _ [_, [(b9, .cells [(.string ⟨⟨[]⟩⟩), (iI 0), (.bool false), (.bool false), (.bool false), (.bool false), (iI 0)] none false)]] _), _⟩
 refine aT (aP (q := 1) av rfl rfl rfl rfl rfl rfl rfl rfl rfl) rfl ?_
 rintro _ bk _ ⟨(A : HS _ _ _ [_, [(b9, .cells [(.string ⟨⟨(aN iv.i.op).name.b⟩⟩), (iI (aN iv.i.op).form), (.bool (aN iv.i.op).ra), (.bool (aN iv.i.op).wa), (.bool (aN iv.i.op).rb), (.bool (aN iv.i.op).mt), (iI (aN iv.i.op).words)] none false)]] _), _⟩
 refine wa (.bool (infO iv.i.op)) rfl rfl rfl ?_
 refine aj 3 rfl ?_
 refine wR 1 [(1, .o (.bool (aN iv.i.op).wa)), (5, .o (iI iv.i.op)), (11, .o (iI iv.i.op))] 17 30 [] [(30, (.bool (((aN iv.i.op).wa || (iv.i.op == 6)) || (iv.i.op == 38))))] (vA (ql 4 3 (HS.hc A (i := 1) rfl) rfl rfl) (vA (fun (g1 : (aN iv.i.op).wa = false) => (ql 3 0 (HS.hc A (i := 0) rfl) rfl rfl)) (vA (fun (g1 : ((aN iv.i.op).wa || (iv.i.op == 6)) = false) => (ql 3 0 (HS.hc A (i := 0) rfl) rfl rfl)) trivial))) rfl fun _ => ?_
 refine au 1 2 (v := (((aN iv.i.op).wa || (iv.i.op == 6)) || (iv.i.op == 38))) rfl rfl rfl rfl (fun N => ?_) (fun N => ?_)
 ·
  have O := N
  try simp only [BS] at O
  refine aa ?_
  refine wRo 3 0 [(2, .o (iI iv.i.a))] 31 33 [] [(33, (iI iv.i.a))] (vA (ql 3 1 (HS.hc A (i := 0) rfl) rfl rfl) trivial) rfl fun _ => ?_
  refine aK (bF (α := Int) (ps := [(0, (iI iv.i.a))]) (cells := [(iI iv.i.a)]) ([iv.i.a] : List Int) A rfl rfl rfl (by kernel_rfl) ⟨[(iI iv.i.a)], [], rfl, ⟨rfl, by omega⟩, rfl⟩ rfl) rfl rfl ?_
  rintro _ b0 ag ⟨V, ad, rfl, an, (aw : HS _ _ _ [_, _, ag] _), _⟩
  refine wa (.slice V ([iv.i.a] : List Int).length ad) rfl rfl rfl ?_
  refine aj 1 rfl ?_
  refine az ⟨.inr rfl, _, rfl, V, ad, ([iv.i.a] : List Int), ag, _, (Z), (HS.only aw (i := 2) rfl), rfl, an, (by exact writes_yes (by assumption) (or_assoc.1 (by assumption)))⟩
 have O := N
 try simp only [BS] at O
 refine wR 1 [] 2 2 [] [(2, (.slice none 0 0))] trivial rfl fun _ => ?_
 refine az ⟨.inr rfl, _, rfl, none, 0, ([] : List Int), [], _, (Z), (HS.cons (HS.forget A)), rfl, (OS.nil : OS _ _ _ []), (by exact writes_not (by simp_all))⟩
theorem vsucc_c (ex : FuncId) {I : Option Addr} {O : Nat} (b : BlkT) {F : Fz} {H : Heap} {R : List Fp} (hs : HS (.of H []) F H [] R) (a8 : SR F (.slice I b.ins.length O) b.ins) (a9 : in64 b.fin) (bb : in64 b.reg) (bk : in64 b.tgt) (b0 : in64 b.els) (hT : TB 37 tabC F) : C Tryd.prog 1 (KT 60 ex 37 tabC) 133 [(.agg ⟨[(.slice I b.ins.length O), (iI b.fin), (iI b.reg), (iI b.tgt), (iI b.els)]⟩)] H fun v H' => ∃ (ar : Option Addr) (kr : Nat) (r : List Int) (p : Fp) (F' : Fz), Fz.le F F' ∧ HS (.of H []) F' H' [p] R ∧ v = .slice ar r.length kr ∧ OS F' (.slice ar r.length kr) r p ∧ r = br b := by
 refine aM Tryd.func133 rfl rfl ?_
 refine am 1 rfl ?_
 refine aa ?_
 refine aK (cF hs rfl rfl) rfl rfl ?_
 rintro _ H2 _ ⟨b1, rfl, (A : HS _ _ _ [[(b1, .cells [(.slice I b.ins.length O), (iI b.fin), (iI b.reg), (iI b.tgt), (iI b.els)] none false)]] _), _⟩
 refine wa (.slice none 0 0) rfl rfl rfl ?_
 refine aj 3 rfl ?_
 refine wR 3 [(1, .o (iI b.fin))] 3 4 [] [(4, (iI b.fin))] (vA (ql 3 1 (HS.hc A (i := 0) rfl) rfl rfl) trivial) rfl fun _ => ?_
 refine wR 1 [] 5 6 [] [(5, (.bool (b.fin == 1)))] trivial rfl fun _ => ?_
 refine au 1 1 (v := (b.fin == 1)) rfl rfl rfl rfl (fun V => ?_) (fun V => ?_)
 ·
  have c5 := V
  try simp only [BS] at c5
  refine aa ?_
  refine wRo 2 0 [(1, .o (iI b.tgt))] 7 8 [] [(8, (iI b.tgt))] (vA (ql 3 3 (HS.hc A (i := 0) rfl) rfl rfl) trivial) rfl fun _ => ?_
  refine aK (bF (α := Int) (ps := [(0, (iI b.tgt))]) (cells := [(iI b.tgt)]) ([b.tgt] : List Int) A rfl rfl rfl (by kernel_rfl) ⟨[(iI b.tgt)], [], rfl, ⟨rfl, by omega⟩, rfl⟩ rfl) rfl rfl ?_
  rintro _ H8 p7 ⟨a7, k7, rfl, a1, (a2 : HS _ _ _ [_, p7] _), _⟩
  refine wa (.slice a7 ([b.tgt] : List Int).length k7) rfl rfl rfl ?_
  refine aj 1 rfl ?_
  refine az ⟨.inr rfl, _, rfl, a7, k7, ([b.tgt] : List Int), p7, _, fR, (HS.only a2 (i := 1) rfl), rfl, a1, (by exact succ1 (by assumption))⟩
 have c5 := V
 try simp only [BS] at c5
 refine wR 1 [] 10 11 [] [(10, (.bool (b.fin == 2)))] trivial rfl fun _ => ?_
 refine au 1 3 (v := (b.fin == 2)) rfl rfl rfl rfl (fun J => ?_) (fun J => ?_)
 ·
  have U := J
  try simp only [BS] at U
  refine aa ?_
  refine wRo 4 0 [(1, .o (iI b.tgt)), (3, .o (iI b.els))] 12 15 [] [(13, (iI b.tgt)), (15, (iI b.els))] (vA (ql 3 3 (HS.hc A (i := 0) rfl) rfl rfl) (vA (ql 3 4 (HS.hc A (i := 0) rfl) rfl rfl) trivial)) rfl fun _ => ?_
  refine aK (bF (α := Int) (ps := [(0, (iI b.tgt)), (1, (iI b.els))]) (cells := [(iI b.tgt), (iI b.els)]) ([b.tgt, b.els] : List Int) A rfl rfl rfl (by kernel_rfl) ⟨[(iI b.tgt)], [(iI b.els)], rfl, ⟨rfl, by omega⟩, ⟨[(iI b.els)], [], rfl, ⟨rfl, by omega⟩, rfl⟩⟩ rfl) rfl rfl ?_
  rintro _ b5 a4 ⟨b7, b9, rfl, aw, (ay : HS _ _ _ [_, a4] _), _⟩
  obtain ⟨b3, Z, E, ax, b2⟩ := OS.frz aw ay (i := 1) rfl
  have E : HS _ _ _ [_, []] _ := E
  replace hT := hT.mono Z
  refine aE (aB rfl rfl rfl) rfl rfl (unique_c ex ([b.tgt, b.els] : List Int) (HS.call E) ax hT (by simp)) ?_
  rintro _ b6 ⟨T, ad, cc, al, b4, av, N, rfl, ag, rfl⟩
  replace N : HS _ _ _ [_, _, al] _ := HS.back E rfl N
  refine wa (.slice T (gE [] ([b.tgt, b.els] : List Int)).length ad) rfl rfl rfl ?_
  refine aj 1 rfl ?_
  refine az ⟨.inr rfl, _, rfl, T, ad, gE [] ([b.tgt, b.els] : List Int), al, _, (fT (Z) av), (HS.only N (i := 2) rfl), rfl, ag, (by exact (succ2 (by assumption)).symm)⟩
 have U := J
 try simp only [BS] at U
 refine wR 1 [] 2 2 [] [(2, (.slice none 0 0))] trivial rfl fun _ => ?_
 refine az ⟨.inr rfl, _, rfl, none, 0, ([] : List Int), [], _, fR, (HS.cons (HS.forget A)), rfl, (OS.nil : OS _ _ _ []), (by exact succ0 (by omega))⟩
end Go.Proofs.YtknafdcgpaejlaaDoor.ma
