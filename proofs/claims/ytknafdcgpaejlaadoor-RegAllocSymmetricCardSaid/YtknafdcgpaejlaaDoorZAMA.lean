/-
 What instructions read and write, what follows a block, unions and differences of sets: the program and the reference, each by a symbolic run. No condition but bounds on lengths.
-/
import Derived.Test.YtknafdcgpaejlaaDoorZAM6
import Derived.Test.YtknafdcgpaejlaaDoorZARD
noncomputable section
namespace Go.Proofs.YtknafdcgpaejlaaDoor.ma
open Go.R
set_option maxRecDepth 10000
set_option linter.unusedVariables false
open m1 m2 m3 m4 m5 m6
abbrev Asc (l : List Int) : Prop := l.Pairwise (· < ·)
def uniV (a l : List Int) : List Int := l.foldl insV a
def minV (a b : List Int) : List Int := a.filter fun x => !conV b x
theorem asc_at {l : List Int} (h : Asc l) {i j : Nat} (hij : i < j) (hj : j < l.length) : l.getD i 0 < l.getD j 0 := by
 have := (List.pairwise_iff_getElem.1 h) i j (by omega) hj hij
 rw [List.getD_eq_getElem?_getD, List.getD_eq_getElem?_getD, List.getElem?_eq_getElem hj, List.getElem?_eq_getElem (show i < l.length by omega)]; exact this
theorem pre_lt {l : List Int} {n : Int} : ∀ x ∈ l.take (preV l n), x < n := by
 intro x hx
 have e : l.take (preV l n) = l.takeWhile (fun x => decide (x < n)) := by
  unfold preV
  exact (List.prefix_iff_eq_take.1 (List.takeWhile_prefix _)).symm
 rw [e] at hx
 have := List.all_eq_true.1 (List.all_takeWhile (p := fun x => decide (x < n)) (l := l)) x hx
 simpa using this
theorem pre_at {l : List Int} {n : Int} (h : preV l n < l.length) : ¬ l.getD (preV l n) 0 < n := by
 induction l with
 | nil => simp at h
 | cons x l ih =>
  unfold preV at h ⊢
  by_cases hx : x < n
  ·
   rw [List.takeWhile_cons_of_pos (by simpa using hx)] at h ⊢
   simp only [List.length_cons, List.getD_cons_succ] at h ⊢
   exact ih (by unfold preV; omega)
  ·
   rw [List.takeWhile_cons_of_neg (by simpa using hx)]
   simpa using hx
theorem pre_ge {l : List Int} {n : Int} (ha : Asc l) : ∀ x ∈ l.drop (preV l n), n ≤ x := by
 intro x hx
 obtain ⟨i, hi, rfl⟩ := List.mem_iff_getElem.1 hx
 rw [List.getElem_drop]
 rw [List.length_drop] at hi
 have z := pre_at (l := l) (n := n) (by omega)
 rw [List.getD_eq_getElem?_getD, List.getElem?_eq_getElem (show preV l n < l.length by omega)] at z
 rcases Nat.eq_zero_or_pos i with rfl | hp
 ·
  simp only [Nat.add_zero]; simpa using z
 ·
  have := (List.pairwise_iff_getElem.1 ha) (preV l n) (preV l n + i) (by omega) (by omega) (by omega)
  simp only [Option.getD_some] at z
  omega
theorem ins_asc {l : List Int} {n : Int} (h : Asc l) : Asc (insV l n) := by
 unfold insV
 split
 ·
  exact h
 ·
  rename_i hc
  have hge := pre_ge (n := n) h
  have hlt := pre_lt (l := l) (n := n)
  refine List.pairwise_append.2 ⟨List.pairwise_append.2 ⟨h.sublist (List.take_sublist _ _), List.pairwise_singleton _ _, fun a ha b hb => ?_⟩, h.sublist (List.drop_sublist _ _), fun a ha b hb => ?_⟩
  ·
   rw [List.mem_singleton] at hb; subst hb; exact hlt a ha
  ·
   have hn : n < b := by
    have E := hge b hb
    rcases Int.lt_or_eq_of_le E with z | z
    ·
     exact z
    ·
     exfalso
     obtain ⟨i, hi, rfl⟩ := List.mem_iff_getElem.1 hb
     rw [List.length_drop] at hi
     rw [List.getElem_drop] at z
     apply hc
     refine ⟨by omega, ?_⟩
     have A := pre_at (l := l) (n := n) (by omega)
     rw [List.getD_eq_getElem?_getD, List.getElem?_eq_getElem (show preV l n < l.length by omega)] at A ⊢
     simp only [Option.getD_some] at A ⊢
     rcases Nat.eq_zero_or_pos i with rfl | hp
     ·
      simpa using z.symm
     ·
      have := (List.pairwise_iff_getElem.1 h) (preV l n) (preV l n + i) (by omega) (by omega) (by omega)
      omega
   rcases List.mem_append.1 ha with ha | ha
   ·
    have := hlt a ha; omega
   ·
    rw [List.mem_singleton] at ha; subst ha; exact hn
theorem ins_mem {l : List Int} {n x : Int} : x ∈ insV l n ↔ x = n ∨ x ∈ l := by
 unfold insV
 split
 ·
  rename_i h
  constructor
  ·
   exact .inr
  ·
   rintro (rfl | z)
   ·
    rw [← h.2, List.getD_eq_getElem?_getD, List.getElem?_eq_getElem h.1]; exact List.getElem_mem h.1
   ·
    exact z
 ·
  rw [List.mem_append, List.mem_append, List.mem_singleton]
  constructor
  ·
   rintro ((h | h) | h)
   ·
    exact .inr (List.mem_of_mem_take h)
   ·
    exact .inl h
   ·
    exact .inr (List.mem_of_mem_drop h)
  ·
   rintro (h | h)
   ·
    exact .inl (.inr h)
   ·
    rw [← List.take_append_drop (preV l n) l] at h
    rcases List.mem_append.1 h with h | h
    ·
     exact .inl (.inl h)
    ·
     exact .inr h
theorem uni_asc {l : List Int} : ∀ {a : List Int}, Asc a → Asc (uniV a l) := by
 induction l with
 | nil => exact fun h => h
 | cons x l ih => exact fun h => ih (ins_asc h)
theorem uni_mem {l : List Int} {x : Int} : ∀ {a : List Int}, x ∈ uniV a l ↔ x ∈ a ∨ x ∈ l := by
 induction l with
 | nil => intro a; simp [uniV]
 | cons y l ih =>
  intro a
  have : uniV a (y :: l) = uniV (insV a y) l := rfl
  rw [this, ih, ins_mem, List.mem_cons]
  constructor
  ·
   rintro ((h | h) | h)
   ·
    exact .inr (.inl h)
   ·
    exact .inl h
   ·
    exact .inr (.inr h)
  ·
   rintro (h | h | h)
   ·
    exact .inl (.inr h)
   ·
    exact .inl (.inl h)
   ·
    exact .inr h
theorem uni_len {l : List Int} : ∀ {a : List Int}, (uniV a l).length ≤ a.length + l.length := by
 induction l with
 | nil => intro a; exact Nat.le_refl _
 | cons y l ih =>
  intro a
  have z := ih (a := insV a y)
  have A := ins_len (l := a) (n := y)
  have : uniV a (y :: l) = uniV (insV a y) l := rfl
  rw [this, List.length_cons]; omega
theorem uni_snoc {a l : List Int} {x : Int} : uniV a (l ++ [x]) = insV (uniV a l) x := by unfold uniV; rw [List.foldl_append]; rfl
theorem take_snoc {α : Type} {d : α} {l : List α} {i : Nat} (h : i < l.length) : l.take (i + 1) = l.take i ++ [l.getD i d] := by
 rw [List.take_add_one, List.getElem?_eq_getElem h, List.getD_eq_getElem?_getD, List.getElem?_eq_getElem h]; rfl
theorem uni_step {a l o : List Int} {i : Nat} (h : i < l.length) (ho : o = uniV a (l.take i)) : insV o (l.getD i 0) = uniV a (l.take (i + 1)) := by rw [take_snoc h (d := 0), uni_snoc, ho]
theorem uni_all {a l o : List Int} {i : Nat} (h : l.length ≤ i) (ho : o = uniV a (l.take i)) : o = uniV a l := by rw [ho, List.take_of_length_le h]
theorem pre_eqR {l : List Int} {n : Int} {k : Nat} (ha : Asc l) (hk : k ≤ l.length) (A : ∀ j, k ≤ j → j < l.length → n ≤ l.getD j 0) (E : 0 < k → l.getD (k - 1) 0 < n) : k = preV l n := by
 refine pre_eq hk (fun j hj => ?_) (fun hk' => by have := A k (Nat.le_refl _) hk'; omega)
 have I := E (by omega)
 rcases Nat.lt_or_ge j (k - 1) with z | z
 ·
  have := asc_at ha z (by omega); omega
 ·
  have : j = k - 1 := by omega
  subst this; exact I
theorem ge_step {l : List Int} {n : Int} {k : Nat} (h : ∀ j, k ≤ j → j < l.length → n ≤ l.getD j 0) (A : n ≤ l.getD (k - 1) 0) : ∀ j, k - 1 ≤ j → j < l.length → n ≤ l.getD j 0 := fun j J E => by
 rcases Nat.lt_or_ge j k with z | z
 ·
  have I : j = k - 1 := by omega
  subst I; exact A
 ·
  exact h j z E
theorem cp_ins {l : List Int} {n : Int} {k : Nat} (hk : k = preV l n) (hle : k ≤ l.length) (h : ¬ (k < l.length ∧ l.getD k 0 = n)) : (cpL (l ++ [0]) (k + 1) ((l ++ [0]).drop k)).set k n = insV l n := by
 have e : cpL (l ++ [0]) (k + 1) ((l ++ [0]).drop k) = (l ++ [0]).take (k + 1) ++ l.drop k := by
  unfold cpL
  have A : ((l ++ [0]).drop k).length = l.length + 1 - k := by simp
  have z : (l ++ [(0 : Int)]).length = l.length + 1 := by simp
  rw [A, z, show min (l.length + 1 - k) (l.length + 1 - (k + 1)) = l.length - k by omega, show k + 1 + (l.length - k) = l.length + 1 by omega]
  rw [show List.drop (l.length + 1) (l ++ [(0 : Int)]) = [] from List.drop_of_length_le (by rw [z]; exact Nat.le_refl _), List.append_nil]
  congr 1
  rw [List.drop_append, List.take_append, List.length_drop, show l.length + 1 - (k + 1) = l.length - k by omega, Nat.sub_self, List.take_zero, List.append_nil, List.take_of_length_le (by rw [List.length_drop]; omega)]
 rw [e, ← ins_new hk h, List.append_assoc, List.take_add_one]
 rw [List.set_append]
 have E : (List.take k (l ++ [0])) = l.take k := by rw [List.take_append, Nat.sub_eq_zero_of_le hle, List.take_zero, List.append_nil]
 have I : (l ++ [(0 : Int)])[k]?.toList = [(l ++ [(0 : Int)]).getD k 0] := by
  rw [List.getD_eq_getElem?_getD, List.getElem?_eq_getElem (show k < (l ++ [(0 : Int)]).length by simp; omega)]; rfl
 rw [E, I]
 have J : (List.take k l ++ [(l ++ [(0 : Int)]).getD k 0]).length = k + 1 := by simp; omega
 rw [if_pos (by rw [J]; omega), List.set_append, if_neg (by rw [List.length_take]; omega), List.length_take, show k - min k l.length = 0 by omega]
 simp
def readsL (v : VInT) : List Int := (if (infV v.i.op).ra then [v.i.a] else []) ++ ((if (infV v.i.op).rb then [v.i.b] else []) ++ ((if v.i.op = 11 ∨ v.i.op = 12 then [v.i.c] else []) ++ (if v.i.op = 6 then v.args else [])))
def readsV (v : VInT) : List Int := if alV v.i.op then uniV [] (readsL v) else []
def writesV (v : VInT) : List Int := if alV v.i.op = true ∧ ((infV v.i.op).wa = true ∨ v.i.op = 6 ∨ v.i.op = 38) then [v.i.a] else []
def succV (b : BlkT) : List Int := if b.fin = 1 then [b.tgt] else if b.fin = 2 then insV [b.tgt] b.els else []
def endV (b : BlkT) : List Int := if b.fin = 2 ∨ b.fin = 3 then [b.reg] else []
theorem reads_no {v : VInT} (h : alV v.i.op = false) : [] = readsV v := by unfold readsV; rw [h]; rfl
theorem reads_yes {v : VInT} {l : List Int} (h : alV v.i.op = true) (hl : l = readsL v) : uniV [] l = readsV v := by unfold readsV; rw [h, hl]; rfl
theorem one_len {a : Int} {p : Prop} [Decidable p] : (if p then [a] else []).length ≤ 1 := by split <;> simp
theorem writes_no {v : VInT} (h : alV v.i.op = false) : [] = writesV v := by unfold writesV; rw [if_neg (by simp [h])]
theorem writes_yes {v : VInT} (h : alV v.i.op = true) (z : (infV v.i.op).wa = true ∨ v.i.op = 6 ∨ v.i.op = 38) : [v.i.a] = writesV v := by unfold writesV; rw [if_pos ⟨h, z⟩]
theorem writes_not {v : VInT} (h : ¬ ((infV v.i.op).wa = true ∨ v.i.op = 6 ∨ v.i.op = 38)) : [] = writesV v := by unfold writesV; rw [if_neg fun hh => h hh.2]
theorem succ1 {b : BlkT} (h : b.fin = 1) : [b.tgt] = succV b := by unfold succV; rw [if_pos h]
theorem succ2 {b : BlkT} (h : b.fin = 2) : succV b = insV [b.tgt] b.els := by unfold succV; rw [if_neg (by omega), if_pos h]
theorem succ0 {b : BlkT} (h : b.fin ≠ 1 ∧ b.fin ≠ 2) : [] = succV b := by unfold succV; rw [if_neg h.1, if_neg h.2]
theorem min_step {a b o : List Int} {i : Nat} (h : i < a.length) (ho : o = minV (a.take i) b) : (conV b (a.getD i 0) = false → o ++ [a.getD i 0] = minV (a.take (i + 1)) b) ∧ (conV b (a.getD i 0) = true → o = minV (a.take (i + 1)) b) := by
 unfold minV at ho ⊢
 rw [take_snoc h (d := 0), List.filter_append, ← ho]
 constructor
 ·
  intro hc; rw [List.filter_cons, hc]; rfl
 ·
  intro hc; rw [List.filter_cons, hc]; simp
theorem min_len {a b : List Int} : (minV a b).length ≤ a.length := List.length_filter_le _ _
set_option maxHeartbeats 1000000 in
theorem unique_c (ex : FuncId) {a_l : Option Addr} {k_l : Nat} (l : List Int) {F : Fz} {H : Heap} {R : List Fp} (hs : HS (.of H []) F H [] R) (hl : SR F (.slice a_l l.length k_l) l) (hT : TB 37 tabC F) (hlen : l.length ≤ 1048600) : C Tryd.prog 1 (KT 60 ex 37 tabC) 101 [(.slice a_l l.length k_l)] H fun v H' => ∃ (ar : Option Addr) (kr : Nat) (r : List Int) (p : Fp) (F' : Fz), Fz.le F F' ∧ HS (.of H []) F' H' [p] R ∧ v = .slice ar r.length kr ∧ OS F' (.slice ar r.length kr) r p ∧ r = uniV [] l := by
 refine c_enter Tryd.func101 rfl rfl ?_
 refine wk_foc 1 rfl ?_
 refine wr 2 [] 2 2 [] [(2, (.slice none 0 0))] trivial (by kernel_rfl) rfl fun _ => ?_
 refine wr 3 [] 1 0 [3] [(3, (.slice none 0 0))] trivial (by kernel_rfl) rfl fun _ => ?_
 refine wr 2 [] 7 9 [] [(7, (.slice a_l l.length k_l)), (8, (.int .i64 (l.length : Int))), (9, (.int .i64 0))] trivial (by kernel_rfl) rfl fun _ => ?_
 have aw := HS.snoc hs
 have aw : HS _ _ _ [[]] _ := aw
 refine wk_loop_inv (fun (mm : Nat) f H' => ∃ (ow : List Int) (i : Nat) (z : Option Addr) (A : Nat) (I : Fp) (F' : Fz), Fz.le F F' ∧ HS (Base.of H []) F' H' [I] R ∧ OS F' (.slice z ow.length A) ow I ∧ agrees f [(2, (.slice none 0 0)), (3, (.slice z ow.length A)), (7, (.slice a_l l.length k_l)), (8, (.int .i64 (l.length : Int))), (9, (.int .i64 (i : Int)))] ∧ mm = l.length - i ∧ (i ≤ l.length) ∧ (ow = uniV [] (l.take i))) _ ⟨([] : List Int), 0, none, 0, [], _, (Fz.le_refl _), aw, (OS.nil : OS F (.slice none 0 0) ([] : List Int) []), (agC rfl (agC rfl (agC rfl (agC rfl (agC rfl agN))))), rfl, (by first | assumption | omega | (simp at *; omega)), (by rfl)⟩ ?_
 rintro bj f4 H4 ⟨ow, i, z, A, I, F4, an, N, E, aD, rfl, h1, h2⟩ aF
 refine wk_canon _ aD (fun _ => ?_)
 clear aD
 replace hl := hl.mono an
 have hasc : Asc ow := h2 ▸ uni_asc List.Pairwise.nil
 have hle : ow.length ≤ i := by rw [h2]; exact Nat.le_trans uni_len (by simp; omega)
 refine wk_foc 1 rfl ?_
 refine wr 2 [] 10 10 [] [(10, (.bool (decide ((i : Int) < (l.length : Int)))))] trivial (by kernel_rfl) rfl fun _ => ?_
 refine wk_if 4 5 (v := (decide ((i : Int) < (l.length : Int)))) rfl rfl rfl rfl (fun au => ?_) (fun au => ?_)
 ·
  have c7 := au
  try simp only [BS] at c7
  obtain ⟨bb, aE⟩ := Sv.view (SR.sv hl N)
  have g9 := fI (aE i)
  refine wr 2 [(1, .o (.int .i64 (l.getD i 0)))] 11 12 [5] [(5, (.int .i64 (l.getD i 0)))] (vA (Sv.ix (j := (i : Int)) (SR.sv hl N) (by omega) (by omega)) (vA (ql 3 0 (vI (aE i) (by omega)) rfl rfl) trivial)) (by kernel_rfl) rfl fun _ => ?_
  refine wr 3 [] 13 14 [6] [(6, (.int .i64 (ow.length : Int)))] trivial (by kernel_rfl) rfl fun _ => ?_
  refine wk_loop_inv (fun (mm : Nat) f H' => ∃ (k : Nat), H' = H4 ∧ agrees f [(2, (.slice none 0 0)), (3, (.slice z ow.length A)), (5, (.int .i64 (l.getD i 0))), (6, (.int .i64 (k : Int))), (7, (.slice a_l l.length k_l)), (8, (.int .i64 (l.length : Int))), (9, (.int .i64 (i : Int))), (10, (.bool (decide ((i : Int) < (l.length : Int)))))] ∧ mm = k + 1 ∧ (k ≤ ow.length) ∧ (∀ j, k ≤ j → j < ow.length → l.getD i 0 ≤ ow.getD j 0)) _ ⟨ow.length, rfl, (agC rfl (agC rfl (agC rfl (agC rfl (agC rfl (agC rfl (agC rfl (agC rfl agN)))))))), rfl, (by first | assumption | omega | (simp at *; omega)), (by intro j h5 h6; omega)⟩ ?_
  rintro a5 bc H4 ⟨k, rfl, av, rfl, h3, h4⟩ aO
  refine wk_canon _ av (fun _ => ?_)
  clear av
  refine wk_foc 2 rfl ?_
  obtain ⟨a1, ax⟩ := Sv.view (OS.sv E N (i := 0) rfl)
  have bd := fI (ax (k - 1))
  refine wr 1 [(5, .e ((k - 1 : Nat) : Int)), (7, .o (.int .i64 (ow.getD (k - 1) 0)))] 15 25 [] [(25, (.bool ((decide ((0 : Int) < (k : Int))) && (decide ((l.getD i 0) ≤ (ow.getD (k - 1) 0))))))] (vA (fun (U : (decide ((0 : Int) < (k : Int))) = true) => (ve (n := (k : Int) - 1) (m := ((k - 1 : Nat) : Int)) (by (try simp only [BS] at U); omega) (by (try simp only [BS] at U); omega))) (vA (fun (U : (decide ((0 : Int) < (k : Int))) = true) => (Sv.ix (j := ((k - 1 : Nat) : Int)) (OS.sv E N (i := 0) rfl) (by (try simp only [BS] at U); omega) (by (try simp only [BS] at U); omega))) (vA (fun (U : (decide ((0 : Int) < (k : Int))) = true) => (ql 3 0 (vI (ax (k - 1)) (by (try simp only [BS] at U); omega)) rfl rfl)) trivial))) (by kernel_rfl) rfl fun _ => ?_
  refine wk_if 2 6 (v := ((decide ((0 : Int) < (k : Int))) && (decide ((l.getD i 0) ≤ (ow.getD (k - 1) 0))))) rfl rfl rfl rfl (fun ae => ?_) (fun ae => ?_)
  ·
   have ap := ae
   try simp only [BS] at ap
   refine wr 2 [(1, .e ((k - 1 : Nat) : Int))] 26 27 [6] [(6, (.int .i64 ((k - 1 : Nat) : Int)))] (vA (ve (n := (k : Int) - 1) (m := ((k - 1 : Nat) : Int)) (by omega) (by omega)) trivial) (by kernel_rfl) rfl fun _ => ?_
   refine aO _ _ _ ?_ ⟨k - 1, rfl, (agC rfl (agC rfl (agC rfl (agC rfl (agC rfl (agC rfl (agC rfl (agC rfl agN)))))))), rfl, (by first | assumption | omega | (simp at *; omega)), (by exact ge_step h4 (by omega))⟩
   omega
  ·
   have ap := ae
   try simp only [BS] at ap
   have hk := pre_eqR hasc h3 h4 (by omega)
   obtain ⟨a2, ay⟩ := Sv.view (OS.sv E N (i := 0) rfl)
   have be := fI (ay k)
   refine wr 1 [(8, .o (.int .i64 (ow.getD k 0)))] 28 39 [] [(39, (.bool ((decide ((k : Int) < (ow.length : Int))) && ((ow.getD k 0) == (l.getD i 0)))))] (vA (fun (U : (decide ((k : Int) < (ow.length : Int))) = true) => (Sv.ix (j := (k : Int)) (OS.sv E N (i := 0) rfl) (by (try simp only [BS] at U); omega) (by (try simp only [BS] at U); omega))) (vA (fun (U : (decide ((k : Int) < (ow.length : Int))) = true) => (ql 3 0 (vI (ay k) (by (try simp only [BS] at U); omega)) rfl rfl)) trivial)) (by kernel_rfl) rfl fun _ => ?_
   refine wk_if 3 2 (v := ((decide ((k : Int) < (ow.length : Int))) && ((ow.getD k 0) == (l.getD i 0)))) rfl rfl rfl rfl (fun ag => ?_) (fun ag => ?_)
   ·
    have aq := ag
    try simp only [BS] at aq
    refine wr 1 [] 9 9 [55] [(9, (.int .i64 ((i : Int) + 1)))] (vA (vi (n := (i : Int) + 1) (by omega)) trivial) (by kernel_rfl) rfl fun _ => ?_
    refine aF _ _ _ ?_ ⟨ow, i + 1, z, A, I, _, (an), N, E, (agC rfl (agC rfl (agC rfl (agC rfl (agC rfl agN))))), rfl, (by first | assumption | omega | (simp at *; omega)), (by first | (rw [cp_ins hk h3 (by omega)]; exact uni_step (by omega) h2) | (rw [← uni_step (by omega) h2]; exact ins_same hk (by omega) (by omega)))⟩
    omega
   ·
    have aq := ag
    try simp only [BS] at aq
    refine wk_region ?_
    refine wm (.slice z ow.length A) rfl rfl rfl ?_
    refine wo_rs (rs_lit (α := Int) (ps := [(0, (.int .i64 0))]) (cells := [(.int .i64 0)]) ([0] : List Int) N rfl rfl rfl (by kernel_rfl) ⟨[(.int .i64 0)], [], rfl, ⟨rfl, by omega⟩, rfl⟩ rfl) rfl rfl ?_
    rintro _ a6 aW ⟨a8, bf, rfl, aM, ab, _⟩
    have ab : HS _ _ _ [I, aW] _ := ab
    refine wo_rs (rs_app (α := Int) (q := 0) E ab rfl rfl rfl (OS.sv aM ab (i := 1) rfl) rfl rfl rfl rfl rfl rfl rfl (by first | omega | (simp only [List.length_append, List.length_cons, List.length_nil]; omega))) rfl rfl ?_
    rintro _ aS aG ⟨O, T, rfl, aj, V, _⟩
    have V : HS _ _ _ [aG, _] _ := V
    refine wa (.slice O (ow ++ ([0] : List Int)).length T) rfl rfl rfl ?_
    refine wo_end 2 rfl ?_
    have la : (ow ++ ([0] : List Int)).length = ow.length + 1 := by simp
    refine wf_region rfl ?_
    refine fm (.slice O (ow ++ ([0] : List Int)).length T) rfl rfl rfl ?_
    refine fm (.int .i64 (k : Int)) rfl rfl rfl ?_
    refine wf_pure (v := (.int .i64 ((k : Int) + 1))) (id := .v) (ap_add rfl rfl (w_i64 (n := (k : Int) + 1) (by omega))) rfl rfl (did_v rfl) (okD_v _) ?_
    refine wf_rs (id := .r) (rs_cutX (α := Int) (i := k + 1) aj V.log0 (q := 0) rfl rfl rfl rfl (optN (by omega)) (by omega)) rfl rfl (by rintro _ _ _ ⟨_, _, _, hH, _⟩; simp only at hH; subst hH; exact did_r fun b hb => absurd hb List.not_mem_nil) (⟨.inl rfl, ⟨.inl rfl, ⟨.inl rfl, trivial⟩⟩⟩) ?_
    rintro _ _ _ ⟨a9, bg, rfl, Y, a4, az⟩ aP aA
    simp only at Y; replace Y := Y.symm; subst Y
    have ad := HS.lg V.log0 V aA
    generalize ({ { aS with log := [] } with log := aP } : Heap) = aJ at ad ⊢
    refine fm (.slice O (ow ++ ([0] : List Int)).length T) rfl rfl rfl ?_
    refine fm (.int .i64 (k : Int)) rfl rfl rfl ?_
    refine wf_rs (id := .r) (rs_cutX (α := Int) (i := k) aj ad.log0 (q := 0) rfl rfl rfl rfl (optN (by omega)) (by omega)) rfl rfl (by rintro _ _ _ ⟨_, _, _, hH, _⟩; simp only at hH; subst hH; exact did_r fun b hb => absurd hb List.not_mem_nil) (⟨.inl rfl, ⟨.inl rfl, ⟨.inr trivial, ⟨.inr trivial, ⟨.inr trivial, ⟨.inr trivial, trivial⟩⟩⟩⟩⟩⟩) ?_
    rintro _ _ _ ⟨ba, bh, rfl, Z, aN, aX⟩ aQ aB
    simp only at Z; replace Z := Z.symm; subst Z
    have al := HS.lg ad.log0 ad aB
    generalize ({ { aJ with log := [] } with log := aQ } : Heap) = aZ at al ⊢
    refine wf_rs (id := .x (aG.map Prod.fst)) (rs_cp (α := Int) (i := k + 1) aj al.log0 (q := 0) rfl rfl az (by omega) aN rfl rfl rfl) rfl rfl (by rintro _ _ aH ⟨rfl, aa, _, hwr⟩; exact did_x rfl rfl (Wr.did hwr)) (⟨.inl rfl, ⟨.inl rfl, ⟨.inl rfl, ⟨.inl rfl, ⟨.inl rfl, ⟨.inl rfl, ⟨.inl rfl, trivial⟩⟩⟩⟩⟩⟩⟩) ?_
    rintro _ aT aH ⟨rfl, aa, J, _⟩ aR aC
    replace J := HS.lg J al aC
    generalize ({ aT with log := aR } : Heap) = a0 at J ⊢
    have J : HS _ _ _ [aH, _] _ := J
    have a3 := OS.len' aa
    refine wf_nil ?_
    refine wk_foc 1 rfl ?_
    refine wk_region ?_
    refine wro 4 0 [] 51 54 [] [(53, (.int .i64 (l.getD i 0))), (54, (.pointer (some ⟨sB (.slice O (ow ++ ([0] : List Int)).length T), sO (.slice O (ow ++ ([0] : List Int)).length T) + k * Rp.sz Int, none⟩)))] (vA (Sv.ix (j := (k : Int)) (OS.sv aa J (i := 0) rfl) (by omega) (by omega)) trivial) (by kernel_rfl) rfl fun _ => ?_
    refine wo_rk (rs_st (α := Int) (j := k) (off := 0) (q := 0) (l.getD i 0) aa J rfl rfl rfl rfl rfl rfl rfl rfl (getD_at (x := (0 : Int)) (by omega)) rfl (by rintro cs ⟨rfl, _⟩; exact ⟨Nat.le_of_ble_eq_true rfl, rfl, by omega⟩)) rfl ?_
    rintro _ a7 aI ⟨ak, am, _⟩
    have am : HS _ _ _ [aI, _] _ := am
    have aY := OS.len' ak
    refine wo_end 2 rfl ?_
    refine wr 1 [] 9 9 [55] [(9, (.int .i64 ((i : Int) + 1)))] (vA (vi (n := (i : Int) + 1) (by omega)) trivial) (by kernel_rfl) rfl fun _ => ?_
    refine aF _ _ _ ?_ ⟨(cpL (ow ++ ([0] : List Int)) (k + 1) ((ow ++ ([0] : List Int)).drop k)).set k (l.getD i 0), i + 1, O, T, aI, _, (an), (HS.sub am (List.sublist_append_left _ _)), (OS.norm ak), (agC rfl (agC (show Value.slice O (ow ++ ([0] : List Int)).length T = Value.slice O ((cpL (ow ++ ([0] : List Int)) (k + 1) ((ow ++ ([0] : List Int)).drop k)).set k (l.getD i 0)).length T by rw [OS.len' ak]) (agC rfl (agC rfl (agC rfl agN))))), rfl, (by first | assumption | omega | (simp at *; omega)), (by first | (rw [cp_ins hk h3 (by omega)]; exact uni_step (by omega) h2) | (rw [← uni_step (by omega) h2]; exact ins_same hk (by omega) (by omega)))⟩
    omega
 ·
  have c7 := au
  try simp only [BS] at c7
  refine wr 1 [] 2 2 [56] [(2, (.slice z ow.length A))] trivial (by kernel_rfl) rfl fun _ => ?_
  refine wk_ret ⟨.inr rfl, _, rfl, z, A, ow, I, _, (an), (HS.only N (i := 0) rfl), rfl, E, (by exact uni_all (by omega) h2)⟩
set_option maxHeartbeats 1000000 in
theorem vreads_c (ex : FuncId) {z : Option Addr} {E : Nat} (iv : VInT) {F : Fz} {H : Heap} {R : List Fp} (hs : HS (.of H []) F H [] R) (bS : in64 iv.i.op) (bT : in64 iv.i.a) (bU : in64 iv.i.b) (bV : in64 iv.i.c) (bW : in64 iv.i.n) (A : SR F (.slice z iv.args.length E) iv.args) (hT : TB 37 tabC F) (hlen : iv.args.length ≤ 1048576) : C Tryd.prog 1 (KT 60 ex 37 tabC) 57 [(.agg ⟨[(.int .i64 iv.i.op), (.int .i64 iv.i.a), (.int .i64 iv.i.b), (.int .i64 iv.i.c), (.int .i64 iv.i.n), (.slice z iv.args.length E)]⟩)] H fun v H' => ∃ (ar : Option Addr) (kr : Nat) (r : List Int) (p : Fp) (F' : Fz), Fz.le F F' ∧ HS (.of H []) F' H' [p] R ∧ v = .slice ar r.length kr ∧ OS F' (.slice ar r.length kr) r p ∧ r = readsV iv := by
 refine c_enter Tryd.func57 rfl rfl ?_
 refine wk_foc 1 rfl ?_
 refine wk_region ?_
 refine wo_rs (rs_box hs rfl rfl) rfl rfl ?_
 rintro _ H2 _ ⟨b1, rfl, ae, _⟩
 have ae : HS _ _ _ [[(b1, .cells [(.int .i64 iv.i.op), (.int .i64 iv.i.a), (.int .i64 iv.i.b), (.int .i64 iv.i.c), (.int .i64 iv.i.n), (.slice z iv.args.length E)] none false)]] _ := ae
 refine wa (.slice none 0 0) rfl rfl rfl ?_
 refine wo_end 3 rfl ?_
 refine wr 1 [(2, .o (.int .i64 iv.i.op)), (3, .o (.bool (alV iv.i.op)))] 6 10 [] [(10, (.bool (!(alV iv.i.op))))] (vA (ql 3 0 (HS.hc ae (i := 0) rfl) rfl rfl) (vA (m1.valw_c_q ex iv.i.op H2) trivial)) (by kernel_rfl) rfl fun _ => ?_
 refine wk_if 1 2 (v := (!(alV iv.i.op))) rfl rfl rfl rfl (fun aY => ?_) (fun aY => ?_)
 ·
  have c4 := aY
  try simp only [BS] at c4
  refine wr 1 [] 2 2 [] [(2, (.slice none 0 0))] trivial (by kernel_rfl) rfl fun _ => ?_
  refine wk_ret ⟨.inr rfl, _, rfl, none, 0, ([] : List Int), [], _, (Fz.le_refl _), (HS.cons (HS.forget ae)), rfl, (OS.nil : OS _ _ _ []), (by exact reads_no (by assumption))⟩
 ·
  have c4 := aY
  try simp only [BS] at c4
  refine wk_region ?_
  refine wro 3 0 [(2, .o (.int .i64 iv.i.op))] 12 14 [] [(14, (.int .i64 iv.i.op))] (vA (ql 3 0 (HS.hc ae (i := 0) rfl) rfl rfl) trivial) (by kernel_rfl) rfl fun _ => ?_
  refine wo_call (ap_call rfl rfl rfl) rfl rfl (m1.mInfo_c ex iv.i.op (HS.call ae) (by omega) hT) ?_
  rintro _ H7 ⟨x7, o7, F7, a1, aA, rfl, bJ, bK, rfl, rfl⟩
  replace aA := HS.back ae rfl aA
  have aA : HS _ _ _ [_] _ := aA
  replace hT := hT.mono a1
  replace A := A.mono a1
  refine wro 3 4 [] 16 17 [11] [(16, (.agg ⟨[(.string ⟨⟨(infV iv.i.op).name.b⟩⟩), (.int .i64 (infV iv.i.op).form), (.bool (infV iv.i.op).ra), (.bool (infV iv.i.op).wa), (.bool (infV iv.i.op).rb), (.bool (infV iv.i.op).mt), (.int .i64 (infV iv.i.op).words)]⟩)), (17, (.bool (infO iv.i.op)))] trivial (by kernel_rfl) rfl fun _ => ?_
  refine wo_rs (rs_new aA rfl) rfl rfl ?_
  rintro _ b5 _ ⟨b9, rfl, aN, _⟩
  have aN : HS _ _ _ [_, [(b9, .cells [(.string ⟨⟨[]⟩⟩), (.int .i64 0), (.bool false), (.bool false), (.bool false), (.bool false), (.int .i64 0)] none false)]] _ := aN
  refine wo_rk (rs_rec (q := 1) aN rfl rfl rfl rfl rfl rfl rfl rfl rfl) rfl ?_
  rintro _ b6 _ ⟨aq, _⟩
  have aq : HS _ _ _ [_, [(b9, .cells [(.string ⟨⟨(infV iv.i.op).name.b⟩⟩), (.int .i64 (infV iv.i.op).form), (.bool (infV iv.i.op).ra), (.bool (infV iv.i.op).wa), (.bool (infV iv.i.op).rb), (.bool (infV iv.i.op).mt), (.int .i64 (infV iv.i.op).words)] none false)]] _ := aq
  refine wa (.bool (infO iv.i.op)) rfl rfl rfl ?_
  refine wo_end 2 rfl ?_
  refine wr 3 [] 1 0 [5] [(5, (.slice none 0 0))] trivial (by kernel_rfl) rfl fun _ => ?_
  refine wr 1 [(1, .o (.bool (infV iv.i.op).ra))] 18 19 [] [(19, (.bool (infV iv.i.op).ra))] (vA (ql 4 2 (HS.hc aq (i := 1) rfl) rfl rfl) trivial) (by kernel_rfl) rfl fun _ => ?_
  have ad := HS.snoc aq
  have ad : HS _ _ _ [_, _, []] _ := ad
  refine wk_join (fun f H' => ∃ (l1 : List Int) (I : Option Addr) (O : Nat) (V : Fp) (F' : Fz), Fz.le F7 F' ∧ HS (Base.of H []) F' H' [[(b1, .cells [(.int .i64 iv.i.op), (.int .i64 iv.i.a), (.int .i64 iv.i.b), (.int .i64 iv.i.c), (.int .i64 iv.i.n), (.slice z iv.args.length E)] none false)], [(b9, .cells [(.string ⟨⟨(infV iv.i.op).name.b⟩⟩), (.int .i64 (infV iv.i.op).form), (.bool (infV iv.i.op).ra), (.bool (infV iv.i.op).wa), (.bool (infV iv.i.op).rb), (.bool (infV iv.i.op).mt), (.int .i64 (infV iv.i.op).words)] none false)], V] R ∧ OS F' (.slice I l1.length O) l1 V ∧ agrees f [(1, (.pointer (some ⟨b1, 0, none⟩))), (2, (.slice none 0 0)), (3, (.pointer (some ⟨b9, 0, none⟩))), (5, (.slice I l1.length O))] ∧ (l1 = if (infV iv.i.op).ra = true then [iv.i.a] else [])) (fun a6 => ?_) ?_
  ·
   refine wk_if 0 0 (v := (infV iv.i.op).ra) rfl rfl rfl rfl (fun aF => ?_) (fun aF => ?_)
   ·
    have aU := aF
    try simp only [BS] at aU
    refine wk_region ?_
    refine wro 4 0 [(3, .o (.int .i64 iv.i.a))] 20 23 [] [(20, (.slice none 0 0)), (23, (.int .i64 iv.i.a))] (vA (ql 3 1 (HS.hc ad (i := 0) rfl) rfl rfl) trivial) (by kernel_rfl) rfl fun _ => ?_
    refine wo_rs (rs_lit (α := Int) (ps := [(0, (.int .i64 iv.i.a))]) (cells := [(.int .i64 iv.i.a)]) ([iv.i.a] : List Int) ad rfl rfl rfl (by kernel_rfl) ⟨[(.int .i64 iv.i.a)], [], rfl, ⟨rfl, by omega⟩, rfl⟩ rfl) rfl rfl ?_
    rintro _ b8 bL ⟨cm, cv, rfl, bw, av, _⟩
    have av : HS _ _ _ [_, _, _, bL] _ := av
    refine wo_rs (rs_app (α := Int) (q := 2) (OS.nil : OS F7 (.slice none 0 0) ([] : List Int) []) av rfl rfl rfl (OS.sv bw av (i := 3) rfl) rfl rfl rfl rfl rfl rfl rfl (by first | omega | (simp only [List.length_append, List.length_cons, List.length_nil]; omega))) rfl rfl ?_
    rintro _ ca bd ⟨aS, ba, rfl, aM, aO, _⟩
    have aO : HS _ _ _ [_, _, bd, _] _ := aO
    have aM : OS F7 (.slice aS ([iv.i.a] : List Int).length ba) ([iv.i.a] : List Int) bd := aM
    refine wa (.slice aS ([iv.i.a] : List Int).length ba) rfl rfl rfl ?_
    refine wo_end 0 rfl ?_
    exact a6 _ _ ⟨([iv.i.a] : List Int), aS, ba, bd, _, (Fz.le_refl _), (HS.sub aO (List.sublist_append_left _ _)), aM, (agC rfl (agC rfl (agC rfl (agC rfl agN)))), (by first | (rw [if_pos (by first | assumption | omega)]; done) | (rw [if_neg (by first | omega | (intro hh; simp_all; done))]; done) | (rw [if_neg (by first | omega | (intro hh; simp_all; done)), List.append_nil]))⟩
   ·
    have aU := aF
    try simp only [BS] at aU
    exact a6 _ _ ⟨([] : List Int), none, 0, [], _, (Fz.le_refl _), ad, (OS.nil : OS F7 (.slice none 0 0) ([] : List Int) []), (agC rfl (agC rfl (agC rfl (agC rfl agN)))), (by first | (rw [if_pos (by first | assumption | omega)]; done) | (rw [if_neg (by first | omega | (intro hh; simp_all; done))]; done) | (rw [if_neg (by first | omega | (intro hh; simp_all; done)), List.append_nil]))⟩
  ·
   rintro cp b7 ⟨l1, I, O, V, bF, aJ, au, aB, a2, q1⟩
   refine wk_canon _ a2 (fun _ => ?_)
   clear a2
   replace hT := hT.mono aJ
   replace A := A.mono aJ
   have n1 : l1.length ≤ 1 := by rw [q1]; exact one_len
   refine wk_foc 3 rfl ?_
   refine wr 1 [(1, .o (.bool (infV iv.i.op).rb))] 26 27 [] [(27, (.bool (infV iv.i.op).rb))] (vA (ql 4 4 (HS.hc au (i := 1) rfl) rfl rfl) trivial) (by kernel_rfl) rfl fun _ => ?_
   refine wk_join (fun f H' => ∃ (l2 : List Int) (J : Option Addr) (T : Nat) (Y : Fp) (F' : Fz), Fz.le bF F' ∧ HS (Base.of H []) F' H' [[(b1, .cells [(.int .i64 iv.i.op), (.int .i64 iv.i.a), (.int .i64 iv.i.b), (.int .i64 iv.i.c), (.int .i64 iv.i.n), (.slice z iv.args.length E)] none false)], [(b9, .cells [(.string ⟨⟨(infV iv.i.op).name.b⟩⟩), (.int .i64 (infV iv.i.op).form), (.bool (infV iv.i.op).ra), (.bool (infV iv.i.op).wa), (.bool (infV iv.i.op).rb), (.bool (infV iv.i.op).mt), (.int .i64 (infV iv.i.op).words)] none false)], Y] R ∧ OS F' (.slice J l2.length T) l2 Y ∧ agrees f [(1, (.pointer (some ⟨b1, 0, none⟩))), (2, (.slice none 0 0)), (5, (.slice J l2.length T))] ∧ (l2 = l1 ++ if (infV iv.i.op).rb = true then [iv.i.b] else [])) (fun a7 => ?_) ?_
   ·
    refine wk_if 0 0 (v := (infV iv.i.op).rb) rfl rfl rfl rfl (fun aG => ?_) (fun aG => ?_)
    ·
     have aV := aG
     try simp only [BS] at aV
     refine wk_region ?_
     refine wro 4 0 [(3, .o (.int .i64 iv.i.b))] 28 31 [] [(28, (.slice I l1.length O)), (31, (.int .i64 iv.i.b))] (vA (ql 3 2 (HS.hc au (i := 0) rfl) rfl rfl) trivial) (by kernel_rfl) rfl fun _ => ?_
     refine wo_rs (rs_lit (α := Int) (ps := [(0, (.int .i64 iv.i.b))]) (cells := [(.int .i64 iv.i.b)]) ([iv.i.b] : List Int) au rfl rfl rfl (by kernel_rfl) ⟨[(.int .i64 iv.i.b)], [], rfl, ⟨rfl, by omega⟩, rfl⟩ rfl) rfl rfl ?_
     rintro _ cc bM ⟨cn, cw, rfl, bx, aw, _⟩
     have aw : HS _ _ _ [_, _, V, bM] _ := aw
     refine wo_rs (rs_app (α := Int) (q := 2) aB aw rfl rfl rfl (OS.sv bx aw (i := 3) rfl) rfl rfl rfl rfl rfl rfl rfl (by first | omega | (simp only [List.length_append, List.length_cons, List.length_nil]; omega))) rfl rfl ?_
     rintro _ cd bn ⟨bg, bk, rfl, bz, aP, _⟩
     have aP : HS _ _ _ [_, _, bn, _] _ := aP
     refine wa (.slice bg (l1 ++ ([iv.i.b] : List Int)).length bk) rfl rfl rfl ?_
     refine wo_end 0 rfl ?_
     exact a7 _ _ ⟨l1 ++ ([iv.i.b] : List Int), bg, bk, bn, _, (Fz.le_refl _), (HS.sub aP (List.sublist_append_left _ _)), bz, (agC rfl (agC rfl (agC rfl agN))), (by first | (rw [if_pos (by first | assumption | omega)]; done) | (rw [if_neg (by first | omega | (intro hh; simp_all; done))]; done) | (rw [if_neg (by first | omega | (intro hh; simp_all; done)), List.append_nil]))⟩
    ·
     have aV := aG
     try simp only [BS] at aV
     exact a7 _ _ ⟨l1, I, O, V, _, (Fz.le_refl _), au, aB, (agC rfl (agC rfl (agC rfl agN))), (by first | (rw [if_pos (by first | assumption | omega)]; done) | (rw [if_neg (by first | omega | (intro hh; simp_all; done))]; done) | (rw [if_neg (by first | omega | (intro hh; simp_all; done)), List.append_nil]))⟩
   ·
    rintro cr cb ⟨l2, J, T, Y, bG, aK, ag, aC, a3, q2⟩
    refine wk_canon _ a3 (fun _ => ?_)
    clear a3
    replace hT := hT.mono aK
    replace A := A.mono aK
    have n2 : l2.length ≤ 2 := by rw [q2, List.length_append]; exact Nat.add_le_add n1 one_len
    refine wk_foc 3 rfl ?_
    refine wr 1 [(2, .o (.int .i64 iv.i.op)), (7, .o (.int .i64 iv.i.op))] 34 43 [] [(43, (.bool ((iv.i.op == 11) || (iv.i.op == 12))))] (vA (ql 3 0 (HS.hc ag (i := 0) rfl) rfl rfl) (vA (fun (g1 : (iv.i.op == 11) = false) => (ql 3 0 (HS.hc ag (i := 0) rfl) rfl rfl)) trivial)) (by kernel_rfl) rfl fun _ => ?_
    refine wk_join (fun f H' => ∃ (l3 : List Int) (N : Option Addr) (U : Nat) (ab : Fp) (F' : Fz), Fz.le bG F' ∧ HS (Base.of H []) F' H' [[(b1, .cells [(.int .i64 iv.i.op), (.int .i64 iv.i.a), (.int .i64 iv.i.b), (.int .i64 iv.i.c), (.int .i64 iv.i.n), (.slice z iv.args.length E)] none false)], [(b9, .cells [(.string ⟨⟨(infV iv.i.op).name.b⟩⟩), (.int .i64 (infV iv.i.op).form), (.bool (infV iv.i.op).ra), (.bool (infV iv.i.op).wa), (.bool (infV iv.i.op).rb), (.bool (infV iv.i.op).mt), (.int .i64 (infV iv.i.op).words)] none false)], ab] R ∧ OS F' (.slice N l3.length U) l3 ab ∧ agrees f [(1, (.pointer (some ⟨b1, 0, none⟩))), (2, (.slice none 0 0)), (5, (.slice N l3.length U))] ∧ (l3 = l2 ++ if iv.i.op = 11 ∨ iv.i.op = 12 then [iv.i.c] else [])) (fun a8 => ?_) ?_
    ·
     refine wk_if 0 0 (v := ((iv.i.op == 11) || (iv.i.op == 12))) rfl rfl rfl rfl (fun aH => ?_) (fun aH => ?_)
     ·
      have aW := aH
      try simp only [BS] at aW
      refine wk_region ?_
      refine wro 4 0 [(3, .o (.int .i64 iv.i.c))] 44 47 [] [(44, (.slice J l2.length T)), (47, (.int .i64 iv.i.c))] (vA (ql 3 3 (HS.hc ag (i := 0) rfl) rfl rfl) trivial) (by kernel_rfl) rfl fun _ => ?_
      refine wo_rs (rs_lit (α := Int) (ps := [(0, (.int .i64 iv.i.c))]) (cells := [(.int .i64 iv.i.c)]) ([iv.i.c] : List Int) ag rfl rfl rfl (by kernel_rfl) ⟨[(.int .i64 iv.i.c)], [], rfl, ⟨rfl, by omega⟩, rfl⟩ rfl) rfl rfl ?_
      rintro _ cg bN ⟨co, cx, rfl, bA, ax, _⟩
      have ax : HS _ _ _ [_, _, Y, bN] _ := ax
      refine wo_rs (rs_app (α := Int) (q := 2) aC ax rfl rfl rfl (OS.sv bA ax (i := 3) rfl) rfl rfl rfl rfl rfl rfl rfl (by first | omega | (simp only [List.length_append, List.length_cons, List.length_nil]; omega))) rfl rfl ?_
      rintro _ ch bo ⟨bh, bl, rfl, bB, aQ, _⟩
      have aQ : HS _ _ _ [_, _, bo, _] _ := aQ
      refine wa (.slice bh (l2 ++ ([iv.i.c] : List Int)).length bl) rfl rfl rfl ?_
      refine wo_end 0 rfl ?_
      exact a8 _ _ ⟨l2 ++ ([iv.i.c] : List Int), bh, bl, bo, _, (Fz.le_refl _), (HS.sub aQ (List.sublist_append_left _ _)), bB, (agC rfl (agC rfl (agC rfl agN))), (by first | (rw [if_pos (by first | assumption | omega)]; done) | (rw [if_neg (by first | omega | (intro hh; simp_all; done))]; done) | (rw [if_neg (by first | omega | (intro hh; simp_all; done)), List.append_nil]))⟩
     ·
      have aW := aH
      try simp only [BS] at aW
      exact a8 _ _ ⟨l2, J, T, Y, _, (Fz.le_refl _), ag, aC, (agC rfl (agC rfl (agC rfl agN))), (by first | (rw [if_pos (by first | assumption | omega)]; done) | (rw [if_neg (by first | omega | (intro hh; simp_all; done))]; done) | (rw [if_neg (by first | omega | (intro hh; simp_all; done)), List.append_nil]))⟩
    ·
     rintro ct ce ⟨l3, N, U, ab, bH, aL, ah, aD, a4, q3⟩
     refine wk_canon _ a4 (fun _ => ?_)
     clear a4
     replace hT := hT.mono aL
     replace A := A.mono aL
     have n3 : l3.length ≤ 3 := by rw [q3, List.length_append]; exact Nat.add_le_add n2 one_len
     refine wk_foc 3 rfl ?_
     refine wr 1 [(2, .o (.int .i64 iv.i.op))] 50 53 [] [(53, (.bool (iv.i.op == 6)))] (vA (ql 3 0 (HS.hc ah (i := 0) rfl) rfl rfl) trivial) (by kernel_rfl) rfl fun _ => ?_
     refine wk_join (fun f H' => ∃ (l4 : List Int) (Z : Option Addr) (aa : Nat) (an : Fp) (F' : Fz), Fz.le bH F' ∧ HS (Base.of H []) F' H' [[(b1, .cells [(.int .i64 iv.i.op), (.int .i64 iv.i.a), (.int .i64 iv.i.b), (.int .i64 iv.i.c), (.int .i64 iv.i.n), (.slice z iv.args.length E)] none false)], [(b9, .cells [(.string ⟨⟨(infV iv.i.op).name.b⟩⟩), (.int .i64 (infV iv.i.op).form), (.bool (infV iv.i.op).ra), (.bool (infV iv.i.op).wa), (.bool (infV iv.i.op).rb), (.bool (infV iv.i.op).mt), (.int .i64 (infV iv.i.op).words)] none false)], an] R ∧ OS F' (.slice Z l4.length aa) l4 an ∧ agrees f [(2, (.slice none 0 0)), (5, (.slice Z l4.length aa))] ∧ (l4 = l3 ++ if iv.i.op = 6 then iv.args else [])) (fun a9 => ?_) ?_
     ·
      refine wk_if 0 0 (v := (iv.i.op == 6)) rfl rfl rfl rfl (fun aI => ?_) (fun aI => ?_)
      ·
       have aX := aI
       try simp only [BS] at aX
       refine wk_region ?_
       refine wro 3 0 [(2, .o (.slice z iv.args.length E))] 54 56 [] [(54, (.slice N l3.length U)), (56, (.slice z iv.args.length E))] (vA (ql 25 5 (HS.hc ah (i := 0) rfl) rfl rfl) trivial) (by kernel_rfl) rfl fun _ => ?_
       refine wo_rs (rs_app (α := Int) (q := 2) aD ah rfl rfl rfl (SR.sv A ah) rfl rfl rfl rfl rfl rfl rfl (by first | omega | (simp only [List.length_append, List.length_cons, List.length_nil]; omega))) rfl rfl ?_
       rintro _ cj bp ⟨bj, bm, rfl, bC, aR, _⟩
       have aR : HS _ _ _ [_, _, bp] _ := aR
       refine wa (.slice bj (l3 ++ iv.args).length bm) rfl rfl rfl ?_
       refine wo_end 0 rfl ?_
       exact a9 _ _ ⟨l3 ++ iv.args, bj, bm, bp, _, (Fz.le_refl _), aR, bC, (agC rfl (agC rfl agN)), (by first | (rw [if_pos (by first | assumption | omega)]; done) | (rw [if_neg (by first | omega | (intro hh; simp_all; done))]; done) | (rw [if_neg (by first | omega | (intro hh; simp_all; done)), List.append_nil]))⟩
      ·
       have aX := aI
       try simp only [BS] at aX
       exact a9 _ _ ⟨l3, N, U, ab, _, (Fz.le_refl _), ah, aD, (agC rfl (agC rfl agN)), (by first | (rw [if_pos (by first | assumption | omega)]; done) | (rw [if_neg (by first | omega | (intro hh; simp_all; done))]; done) | (rw [if_neg (by first | omega | (intro hh; simp_all; done)), List.append_nil]))⟩
     ·
      rintro cu ci ⟨l4, Z, aa, an, b2, aZ, bE, bc, a5, q4⟩
      refine wk_canon _ a5 (fun _ => ?_)
      clear a5
      have n4 : l4.length ≤ 1048579 := by rw [q4, List.length_append]; (have hq : (if iv.i.op = 6 then iv.args else []).length ≤ iv.args.length := by split <;> first | exact Nat.le_refl _ | exact Nat.zero_le _); omega
      refine wk_foc 2 rfl ?_
      refine wk_region ?_
      refine wm (.slice Z l4.length aa) rfl rfl rfl ?_
      obtain ⟨b3, a0, ay, bD, bY⟩ := OS.frz bc bE (i := 2) rfl
      have ay : HS _ _ _ [_, _, _] _ := ay
      replace hT := (hT.mono aZ).mono a0
      refine wo_call (ap_call rfl rfl rfl) rfl rfl (unique_c ex l4 (HS.call ay) bD hT (by omega)) ?_
      rintro _ cl ⟨aT, bb, cy, br, b4, bu, aj, rfl, bf, rfl⟩
      replace aj := HS.back ay rfl aj
      have aj : HS _ _ _ [_, _, _, br] _ := aj
      refine wa (.slice aT (uniV [] l4).length bb) rfl rfl rfl ?_
      refine wo_end 1 rfl ?_
      refine wk_ret ⟨.inr rfl, _, rfl, aT, bb, uniV [] l4, br, _, (Fz.le_trans (Fz.le_trans (Fz.le_trans (Fz.le_trans (Fz.le_trans (Fz.le_trans (a1) aJ) aK) aL) aZ) a0) bu), (HS.only aj (i := 3) rfl), rfl, bf, (by exact reads_yes (by assumption) (by simp only [q4, q3, q2, q1, readsL, List.append_assoc]))⟩
set_option maxHeartbeats 1000000 in
theorem vwrites_c (ex : FuncId) {E : Option Addr} {I : Nat} (iv : VInT) {F : Fz} {H : Heap} {R : List Fp} (hs : HS (.of H []) F H [] R) (ak : in64 iv.i.op) (al : in64 iv.i.a) (am : in64 iv.i.b) (an : in64 iv.i.c) (ap : in64 iv.i.n) (aq : SR F (.slice E iv.args.length I) iv.args) (hT : TB 37 tabC F) : C Tryd.prog 1 (KT 60 ex 37 tabC) 52 [(.agg ⟨[(.int .i64 iv.i.op), (.int .i64 iv.i.a), (.int .i64 iv.i.b), (.int .i64 iv.i.c), (.int .i64 iv.i.n), (.slice E iv.args.length I)]⟩)] H fun v H' => ∃ (ar : Option Addr) (kr : Nat) (r : List Int) (p : Fp) (F' : Fz), Fz.le F F' ∧ HS (.of H []) F' H' [p] R ∧ v = .slice ar r.length kr ∧ OS F' (.slice ar r.length kr) r p ∧ r = writesV iv := by
 refine c_enter Tryd.func52 rfl rfl ?_
 refine wk_foc 1 rfl ?_
 refine wk_region ?_
 refine wo_rs (rs_box hs rfl rfl) rfl rfl ?_
 rintro _ H2 _ ⟨b1, rfl, A, _⟩
 have A : HS _ _ _ [[(b1, .cells [(.int .i64 iv.i.op), (.int .i64 iv.i.a), (.int .i64 iv.i.b), (.int .i64 iv.i.c), (.int .i64 iv.i.n), (.slice E iv.args.length I)] none false)]] _ := A
 refine wa (.slice none 0 0) rfl rfl rfl ?_
 refine wo_end 3 rfl ?_
 refine wr 1 [(2, .o (.int .i64 iv.i.op)), (3, .o (.bool (alV iv.i.op)))] 5 9 [] [(9, (.bool (!(alV iv.i.op))))] (vA (ql 3 0 (HS.hc A (i := 0) rfl) rfl rfl) (vA (m1.valw_c_q ex iv.i.op H2) trivial)) (by kernel_rfl) rfl fun _ => ?_
 refine wk_if 1 2 (v := (!(alV iv.i.op))) rfl rfl rfl rfl (fun V => ?_) (fun V => ?_)
 ·
  have c4 := V
  try simp only [BS] at c4
  refine wr 1 [] 2 2 [] [(2, (.slice none 0 0))] trivial (by kernel_rfl) rfl fun _ => ?_
  refine wk_ret ⟨.inr rfl, _, rfl, none, 0, ([] : List Int), [], _, (Fz.le_refl _), (HS.cons (HS.forget A)), rfl, (OS.nil : OS _ _ _ []), (by exact writes_no (by assumption))⟩
 ·
  have c4 := V
  try simp only [BS] at c4
  refine wk_region ?_
  refine wro 3 0 [(2, .o (.int .i64 iv.i.op))] 11 13 [] [(13, (.int .i64 iv.i.op))] (vA (ql 3 0 (HS.hc A (i := 0) rfl) rfl rfl) trivial) (by kernel_rfl) rfl fun _ => ?_
  refine wo_call (ap_call rfl rfl rfl) rfl rfl (m1.mInfo_c ex iv.i.op (HS.call A) (by omega) hT) ?_
  rintro _ H7 ⟨x7, o7, F7, Z, J, rfl, ah, aj, rfl, rfl⟩
  replace J := HS.back A rfl J
  have J : HS _ _ _ [_] _ := J
  refine wro 3 4 [] 15 16 [10] [(15, (.agg ⟨[(.string ⟨⟨(infV iv.i.op).name.b⟩⟩), (.int .i64 (infV iv.i.op).form), (.bool (infV iv.i.op).ra), (.bool (infV iv.i.op).wa), (.bool (infV iv.i.op).rb), (.bool (infV iv.i.op).mt), (.int .i64 (infV iv.i.op).words)]⟩)), (16, (.bool (infO iv.i.op)))] trivial (by kernel_rfl) rfl fun _ => ?_
  refine wo_rs (rs_new J rfl) rfl rfl ?_
  rintro _ ax _ ⟨b9, rfl, O, _⟩
  have O : HS _ _ _ [_, [(b9, .cells [(.string ⟨⟨[]⟩⟩), (.int .i64 0), (.bool false), (.bool false), (.bool false), (.bool false), (.int .i64 0)] none false)]] _ := O
  refine wo_rk (rs_rec (q := 1) O rfl rfl rfl rfl rfl rfl rfl rfl rfl) rfl ?_
  rintro _ ay _ ⟨z, _⟩
  have z : HS _ _ _ [_, [(b9, .cells [(.string ⟨⟨(infV iv.i.op).name.b⟩⟩), (.int .i64 (infV iv.i.op).form), (.bool (infV iv.i.op).ra), (.bool (infV iv.i.op).wa), (.bool (infV iv.i.op).rb), (.bool (infV iv.i.op).mt), (.int .i64 (infV iv.i.op).words)] none false)]] _ := z
  refine wa (.bool (infO iv.i.op)) rfl rfl rfl ?_
  refine wo_end 3 rfl ?_
  refine wr 1 [(1, .o (.bool (infV iv.i.op).wa)), (5, .o (.int .i64 iv.i.op)), (11, .o (.int .i64 iv.i.op))] 17 30 [] [(30, (.bool (((infV iv.i.op).wa || (iv.i.op == 6)) || (iv.i.op == 38))))] (vA (ql 4 3 (HS.hc z (i := 1) rfl) rfl rfl) (vA (fun (g1 : (infV iv.i.op).wa = false) => (ql 3 0 (HS.hc z (i := 0) rfl) rfl rfl)) (vA (fun (g1 : ((infV iv.i.op).wa || (iv.i.op == 6)) = false) => (ql 3 0 (HS.hc z (i := 0) rfl) rfl rfl)) trivial))) (by kernel_rfl) rfl fun _ => ?_
  refine wk_if 1 2 (v := (((infV iv.i.op).wa || (iv.i.op == 6)) || (iv.i.op == 38))) rfl rfl rfl rfl (fun N => ?_) (fun N => ?_)
  ·
   have U := N
   try simp only [BS] at U
   refine wk_region ?_
   refine wro 3 0 [(2, .o (.int .i64 iv.i.a))] 31 33 [] [(33, (.int .i64 iv.i.a))] (vA (ql 3 1 (HS.hc z (i := 0) rfl) rfl rfl) trivial) (by kernel_rfl) rfl fun _ => ?_
   refine wo_rs (rs_lit (α := Int) (ps := [(0, (.int .i64 iv.i.a))]) (cells := [(.int .i64 iv.i.a)]) ([iv.i.a] : List Int) z rfl rfl rfl (by kernel_rfl) ⟨[(.int .i64 iv.i.a)], [], rfl, ⟨rfl, by omega⟩, rfl⟩ rfl) rfl rfl ?_
   rintro _ az ab ⟨Y, aa, rfl, ae, T, _⟩
   have T : HS _ _ _ [_, _, ab] _ := T
   refine wa (.slice Y ([iv.i.a] : List Int).length aa) rfl rfl rfl ?_
   refine wo_end 1 rfl ?_
   refine wk_ret ⟨.inr rfl, _, rfl, Y, aa, ([iv.i.a] : List Int), ab, _, (Z), (HS.only T (i := 2) rfl), rfl, ae, (by exact writes_yes (by assumption) (or_assoc.1 (by assumption)))⟩
  ·
   have U := N
   try simp only [BS] at U
   refine wr 1 [] 2 2 [] [(2, (.slice none 0 0))] trivial (by kernel_rfl) rfl fun _ => ?_
   refine wk_ret ⟨.inr rfl, _, rfl, none, 0, ([] : List Int), [], _, (Z), (HS.cons (HS.forget z)), rfl, (OS.nil : OS _ _ _ []), (by exact writes_not (by simp_all))⟩
theorem vsucc_c (ex : FuncId) {I : Option Addr} {O : Nat} (b : BlkT) {F : Fz} {H : Heap} {R : List Fp} (hs : HS (.of H []) F H [] R) (au : SR F (.slice I b.ins.length O) b.ins) (av : in64 b.fin) (aw : in64 b.reg) (ax : in64 b.tgt) (ay : in64 b.els) (hT : TB 37 tabC F) : C Tryd.prog 1 (KT 60 ex 37 tabC) 133 [(.agg ⟨[(.slice I b.ins.length O), (.int .i64 b.fin), (.int .i64 b.reg), (.int .i64 b.tgt), (.int .i64 b.els)]⟩)] H fun v H' => ∃ (ar : Option Addr) (kr : Nat) (r : List Int) (p : Fp) (F' : Fz), Fz.le F F' ∧ HS (.of H []) F' H' [p] R ∧ v = .slice ar r.length kr ∧ OS F' (.slice ar r.length kr) r p ∧ r = succV b := by
 refine c_enter Tryd.func133 rfl rfl ?_
 refine wk_foc 1 rfl ?_
 refine wk_region ?_
 refine wo_rs (rs_box hs rfl rfl) rfl rfl ?_
 rintro _ H2 _ ⟨b1, rfl, z, _⟩
 have z : HS _ _ _ [[(b1, .cells [(.slice I b.ins.length O), (.int .i64 b.fin), (.int .i64 b.reg), (.int .i64 b.tgt), (.int .i64 b.els)] none false)]] _ := z
 refine wa (.slice none 0 0) rfl rfl rfl ?_
 refine wo_end 3 rfl ?_
 refine wr 3 [(1, .o (.int .i64 b.fin))] 3 4 [] [(4, (.int .i64 b.fin))] (vA (ql 3 1 (HS.hc z (i := 0) rfl) rfl rfl) trivial) (by kernel_rfl) rfl fun _ => ?_
 refine wr 1 [] 5 6 [] [(5, (.bool (b.fin == 1)))] trivial (by kernel_rfl) rfl fun _ => ?_
 refine wk_if 1 1 (v := (b.fin == 1)) rfl rfl rfl rfl (fun V => ?_) (fun V => ?_)
 ·
  have c5 := V
  try simp only [BS] at c5
  refine wk_region ?_
  refine wro 2 0 [(1, .o (.int .i64 b.tgt))] 7 8 [] [(8, (.int .i64 b.tgt))] (vA (ql 3 3 (HS.hc z (i := 0) rfl) rfl rfl) trivial) (by kernel_rfl) rfl fun _ => ?_
  refine wo_rs (rs_lit (α := Int) (ps := [(0, (.int .i64 b.tgt))]) (cells := [(.int .i64 b.tgt)]) ([b.tgt] : List Int) z rfl rfl rfl (by kernel_rfl) ⟨[(.int .i64 b.tgt)], [], rfl, ⟨rfl, by omega⟩, rfl⟩ rfl) rfl rfl ?_
  rintro _ H8 p7 ⟨a7, k7, rfl, al, Z, _⟩
  have Z : HS _ _ _ [_, p7] _ := Z
  refine wa (.slice a7 ([b.tgt] : List Int).length k7) rfl rfl rfl ?_
  refine wo_end 1 rfl ?_
  refine wk_ret ⟨.inr rfl, _, rfl, a7, k7, ([b.tgt] : List Int), p7, _, (Fz.le_refl _), (HS.only Z (i := 1) rfl), rfl, al, (by first | exact succ1 (by assumption) | exact (succ2 (by assumption)).symm | exact succ0 (by omega))⟩
 ·
  have c5 := V
  try simp only [BS] at c5
  refine wr 1 [] 10 11 [] [(10, (.bool (b.fin == 2)))] trivial (by kernel_rfl) rfl fun _ => ?_
  refine wk_if 1 3 (v := (b.fin == 2)) rfl rfl rfl rfl (fun J => ?_) (fun J => ?_)
  ·
   have U := J
   try simp only [BS] at U
   refine wk_region ?_
   refine wro 4 0 [(1, .o (.int .i64 b.tgt)), (3, .o (.int .i64 b.els))] 12 15 [] [(13, (.int .i64 b.tgt)), (15, (.int .i64 b.els))] (vA (ql 3 3 (HS.hc z (i := 0) rfl) rfl rfl) (vA (ql 3 4 (HS.hc z (i := 0) rfl) rfl rfl) trivial)) (by kernel_rfl) rfl fun _ => ?_
   refine wo_rs (rs_lit (α := Int) (ps := [(0, (.int .i64 b.tgt)), (1, (.int .i64 b.els))]) (cells := [(.int .i64 b.tgt), (.int .i64 b.els)]) ([b.tgt, b.els] : List Int) z rfl rfl rfl (by kernel_rfl) ⟨[(.int .i64 b.tgt)], [(.int .i64 b.els)], rfl, ⟨rfl, by omega⟩, ⟨[(.int .i64 b.els)], [], rfl, ⟨rfl, by omega⟩, rfl⟩⟩ rfl) rfl rfl ?_
   rintro _ aC an ⟨aE, aF, rfl, ah, N, _⟩
   have N : HS _ _ _ [_, an] _ := N
   obtain ⟨aA, Y, E, aj, az⟩ := OS.frz ah N (i := 1) rfl
   have E : HS _ _ _ [_, []] _ := E
   replace hT := hT.mono Y
   refine wo_call (ap_call rfl rfl rfl) rfl rfl (unique_c ex ([b.tgt, b.els] : List Int) (HS.call E) aj hT (by simp)) ?_
   rintro _ aD ⟨T, aa, aG, ad, aB, ag, A, rfl, ab, rfl⟩
   replace A := HS.back E rfl A
   have A : HS _ _ _ [_, _, ad] _ := A
   refine wa (.slice T (uniV [] ([b.tgt, b.els] : List Int)).length aa) rfl rfl rfl ?_
   refine wo_end 1 rfl ?_
   refine wk_ret ⟨.inr rfl, _, rfl, T, aa, uniV [] ([b.tgt, b.els] : List Int), ad, _, (Fz.le_trans (Y) ag), (HS.only A (i := 2) rfl), rfl, ab, (by first | exact succ1 (by assumption) | exact (succ2 (by assumption)).symm | exact succ0 (by omega))⟩
  ·
   have U := J
   try simp only [BS] at U
   refine wr 1 [] 2 2 [] [(2, (.slice none 0 0))] trivial (by kernel_rfl) rfl fun _ => ?_
   refine wk_ret ⟨.inr rfl, _, rfl, none, 0, ([] : List Int), [], _, (Fz.le_refl _), (HS.cons (HS.forget z)), rfl, (OS.nil : OS _ _ _ []), (by first | exact succ1 (by assumption) | exact (succ2 (by assumption)).symm | exact succ0 (by omega))⟩
end Go.Proofs.YtknafdcgpaejlaaDoor.ma
