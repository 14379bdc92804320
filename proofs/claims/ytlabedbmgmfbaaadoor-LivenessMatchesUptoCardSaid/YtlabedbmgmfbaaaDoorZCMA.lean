/-
 What instructions read and write, what follows a block, unions and differences of sets: the program and the reference, each by a symbolic run. No condition but bounds on lengths.
-/
import Derived.Test.YtlabedbmgmfbaaaDoorZCM6
import Derived.Test.YtlabedbmgmfbaaaDoorZCRD
noncomputable section
namespace Go.Proofs.YtlabedbmgmfbaaaDoor.ma
open Go.R
set_option maxRecDepth 10000
set_option linter.unusedVariables false
open m1 m2 m3 m4 m5 m6
abbrev Asc (l : List Int) : Prop := l.Pairwise (· < ·)
def cH (a l : List Int) : List Int := l.foldl fA a
def jI (a b : List Int) : List Int := a.filter fun x => !conV b x
theorem asc_at {l : List Int} (h : Asc l) {i j : Nat} (hij : i < j) (hj : j < l.length) : l.getD i 0 < l.getD j 0 := by
 have := (List.pairwise_iff_getElem.1 h) i j (by omega) hj hij
 rw [List.getD_eq_getElem?_getD, List.getD_eq_getElem?_getD, List.getElem?_eq_getElem hj, List.getElem?_eq_getElem (show i < l.length by omega)]; exact this
theorem pre_lt {l : List Int} {n : Int} : ∀ x ∈ l.take (gZ l n), x < n := by
 intro x hx
 have e : l.take (gZ l n) = l.takeWhile (fun x => decide (x < n)) := by
  unfold gZ
  exact (List.prefix_iff_eq_take.1 (List.takeWhile_prefix _)).symm
 rw [e] at hx
 have := List.all_eq_true.1 (List.all_takeWhile (p := fun x => decide (x < n)) (l := l)) x hx
 simpa using this
theorem pre_at {l : List Int} {n : Int} (h : gZ l n < l.length) : ¬ l.getD (gZ l n) 0 < n := by
 induction l with
 | nil => simp at h
 | cons x l ih =>
  unfold gZ at h ⊢
  by_cases hx : x < n
  ·
   rw [List.takeWhile_cons_of_pos (by simpa using hx)] at h ⊢
   simp only [List.length_cons, List.getD_cons_succ] at h ⊢
   exact ih (by unfold gZ; omega)
  ·
   rw [List.takeWhile_cons_of_neg (by simpa using hx)]
   simpa using hx
theorem pre_ge {l : List Int} {n : Int} (ha : Asc l) : ∀ x ∈ l.drop (gZ l n), n ≤ x := by
 intro x hx
 obtain ⟨i, hi, rfl⟩ := List.mem_iff_getElem.1 hx
 rw [List.getElem_drop]
 rw [List.length_drop] at hi
 have h0 := pre_at (l := l) (n := n) (by omega)
 rw [List.getD_eq_getElem?_getD, List.getElem?_eq_getElem (show gZ l n < l.length by omega)] at h0
 rcases Nat.eq_zero_or_pos i with rfl | hp
 ·
  simp only [Nat.add_zero]; simpa using h0
 ·
  have := (List.pairwise_iff_getElem.1 ha) (gZ l n) (gZ l n + i) (by omega) (by omega) (by omega)
  simp only [Option.getD_some] at h0
  omega
theorem ins_asc {l : List Int} {n : Int} (h : Asc l) : Asc (fA l n) := by
 unfold fA
 split
 ·
  exact h
 ·
  rename_i hc
  have hge := pre_ge (n := n) h
  have hlt := pre_lt (l := l) (n := n)
  refine List.pairwise_append.2 ⟨List.pairwise_append.2 ⟨h.sublist (List.take_sublist _ _), List.pairwise_singleton _ _, fun a ha b hb => ?_⟩, h.sublist (List.drop_sublist _ _), fun a ha b hb => ?_⟩
  ·
   rw [List.mem_singleton] at hb; subst hb; exact hlt a ha
  ·
   have hn : n < b := by
    have E := hge b hb
    rcases Int.lt_or_eq_of_le E with z | z
    ·
     exact z
    ·
     exfalso
     obtain ⟨i, hi, rfl⟩ := List.mem_iff_getElem.1 hb
     rw [List.length_drop] at hi
     rw [List.getElem_drop] at z
     apply hc
     refine ⟨by omega, ?_⟩
     have A := pre_at (l := l) (n := n) (by omega)
     rw [List.getD_eq_getElem?_getD, List.getElem?_eq_getElem (show gZ l n < l.length by omega)] at A ⊢
     simp only [Option.getD_some] at A ⊢
     rcases Nat.eq_zero_or_pos i with rfl | hp
     ·
      simpa using z.symm
     ·
      have := (List.pairwise_iff_getElem.1 h) (gZ l n) (gZ l n + i) (by omega) (by omega) (by omega)
      omega
   rcases List.mem_append.1 ha with ha | ha
   ·
    have := hlt a ha; omega
   ·
    rw [List.mem_singleton] at ha; subst ha; exact hn
theorem ins_mem {l : List Int} {n x : Int} : x ∈ fA l n ↔ x = n ∨ x ∈ l := by
 unfold fA
 split
 ·
  rename_i h
  constructor
  ·
   exact .inr
  ·
   rintro (rfl | z)
   ·
    rw [← h.2, List.getD_eq_getElem?_getD, List.getElem?_eq_getElem h.1]; exact List.getElem_mem h.1
   ·
    exact z
 ·
  rw [List.mem_append, List.mem_append, List.mem_singleton]
  constructor
  ·
   rintro ((h | h) | h)
   ·
    exact .inr (List.mem_of_mem_take h)
   ·
    exact .inl h
   ·
    exact .inr (List.mem_of_mem_drop h)
  ·
   rintro (h | h)
   ·
    exact .inl (.inr h)
   ·
    rw [← List.take_append_drop (gZ l n) l] at h
    rcases List.mem_append.1 h with h | h
    ·
     exact .inl (.inl h)
    ·
     exact .inr h
theorem uni_asc {l : List Int} : ∀ {a : List Int}, Asc a → Asc (cH a l) := by
 induction l with
 | nil => exact fun h => h
 | cons x l ih => exact fun h => ih (ins_asc h)
theorem uni_mem {l : List Int} {x : Int} : ∀ {a : List Int}, x ∈ cH a l ↔ x ∈ a ∨ x ∈ l := by
 induction l with
 | nil => intro a; simp [cH]
 | cons y l ih =>
  intro a
  have : cH a (y :: l) = cH (fA a y) l := rfl
  rw [this, ih, ins_mem, List.mem_cons]
  constructor
  ·
   rintro ((h | h) | h)
   ·
    exact .inr (.inl h)
   ·
    exact .inl h
   ·
    exact .inr (.inr h)
  ·
   rintro (h | h | h)
   ·
    exact .inl (.inr h)
   ·
    exact .inl (.inl h)
   ·
    exact .inr h
theorem ed {l : List Int} : ∀ {a : List Int}, (cH a l).length ≤ a.length + l.length := by
 induction l with
 | nil => intro a; exact Nat.le_refl _
 | cons y l ih =>
  intro a
  have z := ih (a := fA a y)
  have A := ins_len (l := a) (n := y)
  have : cH a (y :: l) = cH (fA a y) l := rfl
  rw [this, List.length_cons]; omega
theorem uni_snoc {a l : List Int} {x : Int} : cH a (l ++ [x]) = fA (cH a l) x := by unfold cH; rw [List.foldl_append]; rfl
theorem uni_app {a l m : List Int} : cH a (l ++ m) = cH (cH a l) m := by unfold cH; rw [List.foldl_append]
theorem dV {α : Type} {d : α} {l : List α} {i : Nat} (h : i < l.length) : l.take (i + 1) = l.take i ++ [l.getD i d] := by
 rw [List.take_add_one, List.getElem?_eq_getElem h, List.getD_eq_getElem?_getD, List.getElem?_eq_getElem h]; rfl
theorem fe {a l o : List Int} {i : Nat} (h : i < l.length) (ho : o = cH a (l.take i)) : fA o (l.getD i 0) = cH a (l.take (i + 1)) := by rw [dV h (d := 0), uni_snoc, ho]
theorem uni_all {a l o : List Int} {i : Nat} (h : l.length ≤ i) (ho : o = cH a (l.take i)) : o = cH a l := by rw [ho, List.take_of_length_le h]
theorem pre_eqR {l : List Int} {n : Int} {k : Nat} (ha : Asc l) (hk : k ≤ l.length) (A : ∀ j, k ≤ j → j < l.length → n ≤ l.getD j 0) (E : 0 < k → l.getD (k - 1) 0 < n) : k = gZ l n := by
 refine pre_eq hk (fun j hj => ?_) (fun hk' => by have := A k (Nat.le_refl _) hk'; omega)
 have J := E (by omega)
 rcases Nat.lt_or_ge j (k - 1) with z | z
 ·
  have := asc_at ha z (by omega); omega
 ·
  have : j = k - 1 := by omega
  subst this; exact J
theorem ge_step {l : List Int} {n : Int} {k : Nat} (h : ∀ j, k ≤ j → j < l.length → n ≤ l.getD j 0) (A : n ≤ l.getD (k - 1) 0) : ∀ j, k - 1 ≤ j → j < l.length → n ≤ l.getD j 0 := fun j N E => by
 rcases Nat.lt_or_ge j k with z | z
 ·
  have J : j = k - 1 := by omega
  subst J; exact A
 ·
  exact h j z E
theorem cp_ins {l : List Int} {n : Int} {k : Nat} (hk : k = gZ l n) (hle : k ≤ l.length) (h : ¬ (k < l.length ∧ l.getD k 0 = n)) : (cpL (l ++ [0]) (k + 1) ((l ++ [0]).drop k)).set k n = fA l n := by
 have e : cpL (l ++ [0]) (k + 1) ((l ++ [0]).drop k) = (l ++ [0]).take (k + 1) ++ l.drop k := by
  unfold cpL
  have A : ((l ++ [0]).drop k).length = l.length + 1 - k := by simp
  have z : (l ++ [(0 : Int)]).length = l.length + 1 := by simp
  rw [A, z, show min (l.length + 1 - k) (l.length + 1 - (k + 1)) = l.length - k by omega, show k + 1 + (l.length - k) = l.length + 1 by omega]
  rw [show List.drop (l.length + 1) (l ++ [(0 : Int)]) = [] from List.drop_of_length_le (by rw [z]; exact Nat.le_refl _), List.append_nil]
  congr 1
  rw [List.drop_append, List.take_append, List.length_drop, show l.length + 1 - (k + 1) = l.length - k by omega, Nat.sub_self, List.take_zero, List.append_nil, List.take_of_length_le (by rw [List.length_drop]; omega)]
 rw [e, ← ins_new hk h, List.append_assoc, List.take_add_one]
 rw [List.set_append]
 have E : (List.take k (l ++ [0])) = l.take k := by rw [List.take_append, Nat.sub_eq_zero_of_le hle, List.take_zero, List.append_nil]
 have J : (l ++ [(0 : Int)])[k]?.toList = [(l ++ [(0 : Int)]).getD k 0] := by
  rw [List.getD_eq_getElem?_getD, List.getElem?_eq_getElem (show k < (l ++ [(0 : Int)]).length by simp; omega)]; rfl
 rw [E, J]
 have N : (List.take k l ++ [(l ++ [(0 : Int)]).getD k 0]).length = k + 1 := by simp; omega
 rw [if_pos (by rw [N]; omega), List.set_append, if_neg (by rw [List.length_take]; omega), List.length_take, show k - min k l.length = 0 by omega]
 simp
def i7 (v : VInT) : List Int := (if (aH v.i.op).ra then [v.i.a] else []) ++ ((if (aH v.i.op).rb then [v.i.b] else []) ++ ((if v.i.op = 11 ∨ v.i.op = 12 then [v.i.c] else []) ++ (if v.i.op = 6 then v.args else [])))
def aW (v : VInT) : List Int := if alV v.i.op then cH [] (i7 v) else []
def aN (v : VInT) : List Int := if alV v.i.op = true ∧ ((aH v.i.op).wa = true ∨ v.i.op = 6 ∨ v.i.op = 38) then [v.i.a] else []
def aT (b : BlkT) : List Int := if b.fin = 1 then [b.tgt] else if b.fin = 2 then fA [b.tgt] b.els else []
def kQ (b : BlkT) : List Int := if b.fin = 2 ∨ b.fin = 3 then [b.reg] else []
theorem reads_no {v : VInT} (h : alV v.i.op = false) : [] = aW v := by unfold aW; rw [h]; rfl
theorem reads_yes {v : VInT} {l : List Int} (h : alV v.i.op = true) (hl : l = i7 v) : cH [] l = aW v := by unfold aW; rw [h, hl]; rfl
theorem rrT {l : List Int} {a : Int} {p : Prop} [Decidable p] (h : p) : fA l a = cH l (if p then [a] else []) := by rw [if_pos h]; rfl
theorem rrF {l : List Int} {a : Int} {p : Prop} [Decidable p] (h : ¬ p) : l = cH l (if p then [a] else []) := by rw [if_neg h]; rfl
theorem vra {op : Int} : (aE op).ra = (aH op).ra := by unfold aE; split <;> first | rfl | (rename_i h; subst h; rfl)
theorem vrb {op : Int} : (aE op).rb = (aH op).rb := by unfold aE; split <;> first | rfl | (rename_i h; subst h; rfl)
theorem vf4 {op : Int} (h : alV op = true) : (aE op).form = 4 ↔ op = 11 ∨ op = 12 := by
 unfold alV at h
 have h := of_decide_eq_true h
 by_cases z : op = 38
 ·
  subst z; decide
 ·
  have e : aE op = aH op := by unfold aE; rw [if_neg z]
  rw [e]
  obtain ⟨k, hk⟩ := ex37 (op := op) ⟨by omega, by omega⟩
  rw [hk]; clear hk; revert k; decide +kernel
theorem rr_end {v : VInT} {A E J N : List Int} {k : Nat} (hal : alV v.i.op = true) (T : A = cH [] (if (aH v.i.op).ra = true then [v.i.a] else [])) (U : E = cH A (if (aH v.i.op).rb = true then [v.i.b] else [])) (V : J = cH E (if v.i.op = 11 ∨ v.i.op = 12 then [v.i.c] else []))
  (Y : N = cH J (v.args.take k)) (Z : k = 0 ∨ v.i.op = 6) (h : v.i.op = 6 → v.args.length ≤ k) : N = aW v := by
 have e : v.args.take k = if v.i.op = 6 then v.args else [] := by
  by_cases z : v.i.op = 6
  ·
   rw [if_pos z, List.take_of_length_le (h z)]
  ·
   rw [if_neg z]
   have : k = 0 := by omega
   subst this; rfl
 unfold aW i7
 rw [if_pos hal, uni_app, uni_app, uni_app, ← T, ← U, ← V, ← e, ← Y]
theorem dX {a : Int} {p : Prop} [Decidable p] : (if p then [a] else []).length ≤ 1 := by split <;> simp
theorem rr_len {v : VInT} {z A E J : List Int} {k : Nat} (V : z = cH [] (if (aH v.i.op).ra = true then [v.i.a] else [])) (Y : A = cH z (if (aH v.i.op).rb = true then [v.i.b] else [])) (Z : E = cH A (if v.i.op = 11 ∨ v.i.op = 12 then [v.i.c] else []))
  (q4 : J = cH E (v.args.take k)) : J.length ≤ 3 + v.args.length := by
 have N : z.length ≤ 1 := by rw [V]; exact Nat.le_trans ed (by simpa using dX)
 have T : A.length ≤ 2 := by rw [Y]; exact Nat.le_trans ed (Nat.add_le_add N dX)
 have U : E.length ≤ 3 := by rw [Z]; exact Nat.le_trans ed (Nat.add_le_add T dX)
 rw [q4]; exact Nat.le_trans ed (Nat.add_le_add U (by rw [List.length_take]; omega))
theorem rr_len1 {v : VInT} {z : List Int} (A : z = cH [] (if (aH v.i.op).ra = true then [v.i.a] else [])) : z.length ≤ 1 := by rw [A]; exact Nat.le_trans ed (by simpa using dX)
theorem rr_len2 {v : VInT} {z A : List Int} (E : z.length ≤ 1) (J : A = cH z (if (aH v.i.op).rb = true then [v.i.b] else [])) : A.length ≤ 2 := by rw [J]; exact Nat.le_trans ed (Nat.add_le_add E dX)
theorem writes_no {v : VInT} (h : alV v.i.op = false) : [] = aN v := by unfold aN; rw [if_neg (by simp [h])]
theorem jM {v : VInT} (h : alV v.i.op = true) (z : (aH v.i.op).wa = true ∨ v.i.op = 6 ∨ v.i.op = 38) : [v.i.a] = aN v := by unfold aN; rw [if_pos ⟨h, z⟩]
theorem writes_not {v : VInT} (h : ¬ ((aH v.i.op).wa = true ∨ v.i.op = 6 ∨ v.i.op = 38)) : [] = aN v := by unfold aN; rw [if_neg fun hh => h hh.2]
theorem vwa {op : Int} : ((aE op).wa = true) ↔ ((aH op).wa = true ∨ op = 38) := by
 unfold aE
 split
 ·
  rename_i h; subst h; simp
 ·
  rename_i h; constructor
  ·
   exact .inl
  ·
   rintro (z | z)
   ·
    exact z
   ·
    exact absurd z h
theorem rwr_yes {v : VInT} (h : alV v.i.op = true ∧ ((aE v.i.op).wa = true ∨ v.i.op = 6)) : [v.i.a] = aN v := jM h.1 (by have := vwa (op := v.i.op); rcases h.2 with z | z; (rcases this.1 z with A | A); exact .inl A; exact .inr (.inr A); exact .inr (.inl z))
theorem rwr_no {v : VInT} (h : alV v.i.op = true → (aE v.i.op).wa = false ∧ v.i.op ≠ 6) : [] = aN v := by
 unfold aN
 rw [if_neg]
 rintro ⟨E, z⟩
 obtain ⟨A, J⟩ := h E
 have := vwa (op := v.i.op)
 rcases z with z | z | z
 ·
  rw [this.2 (.inl z)] at A; cases A
 ·
  exact J z
 ·
  rw [this.2 (.inr z)] at A; cases A
theorem succ1 {b : BlkT} (h : b.fin = 1) : [b.tgt] = aT b := by unfold aT; rw [if_pos h]
theorem succ2 {b : BlkT} (h : b.fin = 2) : aT b = fA [b.tgt] b.els := by unfold aT; rw [if_neg (by omega), if_pos h]
theorem succ0 {b : BlkT} (h : b.fin ≠ 1 ∧ b.fin ≠ 2) : [] = aT b := by unfold aT; rw [if_neg h.1, if_neg h.2]
theorem iD {a b o : List Int} {i : Nat} (h : i < a.length) (ho : o = jI (a.take i) b) : (conV b (a.getD i 0) = false → o ++ [a.getD i 0] = jI (a.take (i + 1)) b) ∧ (conV b (a.getD i 0) = true → o = jI (a.take (i + 1)) b) := by
 unfold jI at ho ⊢
 rw [dV h (d := 0), List.filter_append, ← ho]
 constructor
 ·
  intro hc; rw [List.filter_cons, hc]; rfl
 ·
  intro hc; rw [List.filter_cons, hc]; simp
theorem min_len {a b : List Int} : (jI a b).length ≤ a.length := List.length_filter_le _ _
set_option maxHeartbeats 1000000 in
theorem unique_c (ex : FuncId) {a_l : Option Addr} {k_l : Nat} (l : List Int) {F : Fz} {H : Heap} {R : List Fp} (hs : HS (.of H []) F H [] R) (hl : SR F (.slice a_l l.length k_l) l) (hT : TB 37 tabC F) (hlen : l.length ≤ 1048600) : C Tryd.prog 1 (KT 60 ex 37 tabC) 76 [(.slice a_l l.length k_l)] H fun v H' => ∃ (ar : Option Addr) (kr : Nat) (r : List Int) (p : Fp) (F' : Fz), Fz.le F F' ∧ HS (.of H []) F' H' [p] R ∧ v = .slice ar r.length kr ∧ OS F' (.slice ar r.length kr) r p ∧ r = cH [] l := by
 refine aG Tryd.func76 rfl rfl ?_
 refine aj 1 rfl ?_
 refine wR 2 [] 2 2 [] [(2, (.slice none 0 0))] trivial rfl fun _ => ?_
 refine wR 3 [] 1 0 [3] [(3, (.slice none 0 0))] trivial rfl fun _ => ?_
 refine wR 2 [] 7 9 [] [(7, (.slice a_l l.length k_l)), (8, (iI (l.length : Int))), (9, (iI 0))] trivial rfl fun _ => ?_
 have a7 := HS.snoc hs
 have a7 : HS _ _ _ [[]] _ := a7
 refine ap (fun (mm : Nat) f H' => ∃ (ow : List Int) (i : Nat) (z : Option Addr) (A : Nat) (J : Fp) (F' : Fz), Fz.le F F' ∧ HS (Base.of H []) F' H' [J] R ∧ OS F' (.slice z ow.length A) ow J ∧ aI f [(2, (.slice none 0 0)), (3, (.slice z ow.length A)), (7, (.slice a_l l.length k_l)), (8, (iI (l.length : Int))), (9, (iI (i : Int)))] ∧ mm = l.length - i ∧ (i ≤ l.length) ∧ (ow = cH [] (l.take i))) _ ⟨([] : List Int), 0, none, 0, [], _, fR, a7, (OS.nil : OS F (.slice none 0 0) ([] : List Int) []), (agC rfl (agC rfl (agC rfl (agC rfl (agC rfl agN))))), rfl, (by first | assumption | omega | (simp at *; omega)), (by rfl)⟩ ?_
 rintro e4 f4 H4 ⟨ow, i, z, A, J, F4, a3, T, E, b0, rfl, h1, h2⟩ b2
 refine au _ b0 (fun _ => ?_)
 clear b0
 replace hl := hl.mono a3
 have hasc : Asc ow := h2 ▸ uni_asc List.Pairwise.nil
 have hle : ow.length ≤ i := by rw [h2]; exact Nat.le_trans ed (by simp; omega)
 refine aj 1 rfl ?_
 refine wR 2 [] 10 10 [] [(10, (.bool (decide ((i : Int) < (l.length : Int)))))] trivial rfl fun _ => ?_
 refine ak 4 5 (v := (decide ((i : Int) < (l.length : Int)))) rfl rfl rfl rfl (fun c7 => ?_) (fun c7 => ?_)
 ·
  try simp only [BS] at c7
  obtain ⟨es, b1⟩ := Sv.view (SR.sv hl T)
  have g9 := fI (b1 i)
  refine wR 2 [(1, .o (iI (l.getD i 0)))] 11 12 [5] [(5, (iI (l.getD i 0)))] (vA (Sv.ix (j := (i : Int)) (SR.sv hl T) (by omega) (by omega)) (vA (ql 3 0 (vI (b1 i) (by omega)) rfl rfl) trivial)) rfl fun _ => ?_
  refine wR 3 [] 13 14 [6] [(6, (iI (ow.length : Int)))] trivial rfl fun _ => ?_
  refine ap (fun (mm : Nat) f H' => ∃ (k : Nat), H' = H4 ∧ aI f [(2, (.slice none 0 0)), (3, (.slice z ow.length A)), (5, (iI (l.getD i 0))), (6, (iI (k : Int))), (7, (.slice a_l l.length k_l)), (8, (iI (l.length : Int))), (9, (iI (i : Int))), (10, (.bool (decide ((i : Int) < (l.length : Int)))))] ∧ mm = k + 1 ∧ (k ≤ ow.length) ∧ (∀ j, k ≤ j → j < ow.length → l.getD i 0 ≤ ow.getD j 0)) _ ⟨ow.length, rfl, (agC rfl (agC rfl (agC rfl (agC rfl (agC rfl (agC rfl (agC rfl (agC rfl agN)))))))), rfl, (by first | assumption | omega | (simp at *; omega)), (by intro j h5 h6; omega)⟩ ?_
  rintro d1 et H4 ⟨k, rfl, a6, rfl, h3, h4⟩ ci
  refine au _ a6 (fun _ => ?_)
  clear a6
  refine aj 2 rfl ?_
  obtain ⟨dn, a8⟩ := Sv.view (OS.sv E T (i := 0) rfl)
  have ez := fI (a8 (k - 1))
  refine wR 1 [(5, .e ((k - 1 : Nat) : Int)), (7, .o (iI (ow.getD (k - 1) 0)))] 15 25 [] [(25, (.bool ((decide ((0 : Int) < (k : Int))) && (decide ((l.getD i 0) ≤ (ow.getD (k - 1) 0))))))] (vA (fun (Y : (decide ((0 : Int) < (k : Int))) = true) => (ve (n := (k : Int) - 1) (m := ((k - 1 : Nat) : Int)) (by (try simp only [BS] at Y); omega) (by (try simp only [BS] at Y); omega))) (vA (fun (Y : (decide ((0 : Int) < (k : Int))) = true) => (Sv.ix (j := ((k - 1 : Nat) : Int)) (OS.sv E T (i := 0) rfl) (by (try simp only [BS] at Y); omega) (by (try simp only [BS] at Y); omega))) (vA (fun (Y : (decide ((0 : Int) < (k : Int))) = true) => (ql 3 0 (vI (a8 (k - 1)) (by (try simp only [BS] at Y); omega)) rfl rfl)) trivial))) rfl fun _ => ?_
  refine ak 2 6 (v := ((decide ((0 : Int) < (k : Int))) && (decide ((l.getD i 0) ≤ (ow.getD (k - 1) 0))))) rfl rfl rfl rfl (fun a4 => ?_) (fun a4 => ?_)
  ·
   try simp only [BS] at a4
   refine wR 2 [(1, .e ((k - 1 : Nat) : Int))] 26 27 [6] [(6, (iI ((k - 1 : Nat) : Int)))] (vA (ve (n := (k : Int) - 1) (m := ((k - 1 : Nat) : Int)) (by omega) (by omega)) trivial) rfl fun _ => ?_
   refine ci _ _ _ ?_ ⟨k - 1, rfl, (agC rfl (agC rfl (agC rfl (agC rfl (agC rfl (agC rfl (agC rfl (agC rfl agN)))))))), rfl, (by first | assumption | omega | (simp at *; omega)), (by exact ge_step h4 (by omega))⟩
   omega
  ·
   try simp only [BS] at a4
   have hk := pre_eqR hasc h3 h4 (by omega)
   obtain ⟨ds, a9⟩ := Sv.view (OS.sv E T (i := 0) rfl)
   have e0 := fI (a9 k)
   refine wR 1 [(8, .o (iI (ow.getD k 0)))] 28 39 [] [(39, (.bool ((decide ((k : Int) < (ow.length : Int))) && ((ow.getD k 0) == (l.getD i 0)))))] (vA (fun (Y : (decide ((k : Int) < (ow.length : Int))) = true) => (Sv.ix (j := (k : Int)) (OS.sv E T (i := 0) rfl) (by (try simp only [BS] at Y); omega) (by (try simp only [BS] at Y); omega))) (vA (fun (Y : (decide ((k : Int) < (ow.length : Int))) = true) => (ql 3 0 (vI (a9 k) (by (try simp only [BS] at Y); omega)) rfl rfl)) trivial)) rfl fun _ => ?_
   refine ak 3 2 (v := ((decide ((k : Int) < (ow.length : Int))) && ((ow.getD k 0) == (l.getD i 0)))) rfl rfl rfl rfl (fun a5 => ?_) (fun a5 => ?_)
   ·
    try simp only [BS] at a5
    refine wR 1 [] 9 9 [55] [(9, (iI ((i : Int) + 1)))] (vA (vi (n := (i : Int) + 1) (by omega)) trivial) rfl fun _ => ?_
    refine b2 _ _ _ ?_ ⟨ow, i + 1, z, A, J, _, (a3), T, E, (agC rfl (agC rfl (agC rfl (agC rfl (agC rfl agN))))), rfl, (by first | assumption | omega | (simp at *; omega)), (by first | (rw [cp_ins hk h3 (by omega)]; exact fe (by omega) h2) | (rw [← fe (by omega) h2]; exact iG hk (by omega) (by omega)))⟩
    omega
   ·
    try simp only [BS] at a5
    refine aa ?_
    refine wm (.slice z ow.length A) rfl rfl rfl ?_
    refine aF (bA (α := Int) (ps := [(0, (iI 0))]) (cells := [(iI 0)]) ([0] : List Int) T rfl rfl rfl (by kernel_rfl) ⟨[(iI 0)], [], rfl, ⟨rfl, by omega⟩, rfl⟩ rfl) rfl rfl ?_
    rintro _ d2 c8 ⟨d4, e1, rfl, cc, av, _⟩
    have av : HS _ _ _ [J, c8] _ := av
    refine aF (bW (α := Int) (q := 0) E av rfl rfl rfl (OS.sv cc av (i := 1) rfl) rfl rfl rfl rfl rfl rfl rfl (by first | omega | (simp only [List.length_append, List.length_cons, List.length_nil]; omega))) rfl rfl ?_
    rintro _ c3 b3 ⟨U, V, rfl, ay, Z, _⟩
    have Z : HS _ _ _ [b3, _] _ := Z
    refine wa (.slice U (ow ++ ([0] : List Int)).length V) rfl rfl rfl ?_
    refine ae 2 rfl ?_
    have la : (ow ++ ([0] : List Int)).length = ow.length + 1 := by simp
    refine bc rfl ?_
    refine fm (.slice U (ow ++ ([0] : List Int)).length V) rfl rfl rfl ?_
    refine fm (iI (k : Int)) rfl rfl rfl ?_
    refine am (v := (iI ((k : Int) + 1))) (id := .v) (ap_add rfl rfl (w_i64 (n := (k : Int) + 1) (by omega))) rfl rfl (br rfl) (be _) ?_
    refine dC (id := .r) (rs_cutX (α := Int) (i := k + 1) ay Z.log0 (q := 0) rfl rfl rfl rfl (optN (by omega)) (by omega)) rfl rfl (by rintro _ _ _ ⟨_, _, _, hH, _⟩; simp only at hH; subst hH; exact did_r fun b hb => absurd hb List.not_mem_nil) (⟨.inl rfl, ⟨.inl rfl, ⟨.inl rfl, trivial⟩⟩⟩) ?_
    rintro _ _ _ ⟨ea, e2, rfl, ad, dv, bb⟩ cl bk
    simp only at ad; replace ad := ad.symm; subst ad
    have aw := HS.lg Z.log0 Z bk
    generalize ({ { c3 with log := [] } with log := cl } : Heap) = b6 at aw ⊢
    refine fm (.slice U (ow ++ ([0] : List Int)).length V) rfl rfl rfl ?_
    refine fm (iI (k : Int)) rfl rfl rfl ?_
    refine dC (id := .r) (rs_cutX (α := Int) (i := k) ay aw.log0 (q := 0) rfl rfl rfl rfl (optN (by omega)) (by omega)) rfl rfl (by rintro _ _ _ ⟨_, _, _, hH, _⟩; simp only at hH; subst hH; exact did_r fun b hb => absurd hb List.not_mem_nil) (⟨.inl rfl, ⟨.inl rfl, ⟨.inr trivial, ⟨.inr trivial, ⟨.inr trivial, ⟨.inr trivial, trivial⟩⟩⟩⟩⟩⟩) ?_
    rintro _ _ _ ⟨em, e3, rfl, al, ch, c9⟩ co bl
    simp only at al; replace al := al.symm; subst al
    have a1 := HS.lg aw.log0 aw bl
    generalize ({ { b6 with log := [] } with log := co } : Heap) = dk at a1 ⊢
    refine dC (id := .x (b3.map Prod.fst)) (rs_cp (α := Int) (i := k + 1) ay a1.log0 (q := 0) rfl rfl bb (by omega) ch rfl rfl rfl) rfl rfl (by rintro _ _ b4 ⟨rfl, an, _, hwr⟩; exact dP rfl rfl (Wr.did hwr)) (⟨.inl rfl, ⟨.inl rfl, ⟨.inl rfl, ⟨.inl rfl, ⟨.inl rfl, ⟨.inl rfl, ⟨.inl rfl, trivial⟩⟩⟩⟩⟩⟩⟩) ?_
    rintro _ c4 b4 ⟨rfl, an, N, _⟩ c0 bz
    replace N := HS.lg N a1 bz
    generalize ({ c4 with log := c0 } : Heap) = dl at N ⊢
    have N : HS _ _ _ [b4, _] _ := N
    have dt := OS.len' an
    refine cz ?_
    refine aj 1 rfl ?_
    refine aa ?_
    refine wRo 4 0 [] 51 54 [] [(53, (iI (l.getD i 0))), (54, (.pointer (some ⟨sB (.slice U (ow ++ ([0] : List Int)).length V), sO (.slice U (ow ++ ([0] : List Int)).length V) + k * Rp.sz Int, none⟩)))] (vA (Sv.ix (j := (k : Int)) (OS.sv an N (i := 0) rfl) (by omega) (by omega)) trivial) rfl fun _ => ?_
    refine aM (du (α := Int) (j := k) (off := 0) (q := 0) (l.getD i 0) an N rfl rfl rfl rfl rfl rfl rfl rfl (aS (x := (0 : Int)) (by omega)) rfl (by rintro cs ⟨rfl, _⟩; exact ⟨Nat.le_of_ble_eq_true rfl, rfl, by omega⟩)) rfl ?_
    rintro _ d3 b5 ⟨a0, a2, _⟩
    have a2 : HS _ _ _ [b5, _] _ := a2
    have dd := OS.len' a0
    refine ae 2 rfl ?_
    refine wR 1 [] 9 9 [55] [(9, (iI ((i : Int) + 1)))] (vA (vi (n := (i : Int) + 1) (by omega)) trivial) rfl fun _ => ?_
    refine b2 _ _ _ ?_ ⟨(cpL (ow ++ ([0] : List Int)) (k + 1) ((ow ++ ([0] : List Int)).drop k)).set k (l.getD i 0), i + 1, U, V, b5, _, (a3), (HS.sub a2 (List.sublist_append_left _ _)), (OS.norm a0), (agC rfl (agC (show Value.slice U (ow ++ ([0] : List Int)).length V = Value.slice U ((cpL (ow ++ ([0] : List Int)) (k + 1) ((ow ++ ([0] : List Int)).drop k)).set k (l.getD i 0)).length V by rw [OS.len' a0]) (agC rfl (agC rfl (agC rfl agN))))), rfl, (by first | assumption | omega | (simp at *; omega)), (by first | (rw [cp_ins hk h3 (by omega)]; exact fe (by omega) h2) | (rw [← fe (by omega) h2]; exact iG hk (by omega) (by omega)))⟩
    omega
 ·
  try simp only [BS] at c7
  refine wR 1 [] 2 2 [56] [(2, (.slice z ow.length A))] trivial rfl fun _ => ?_
  refine ag ⟨.inr rfl, _, rfl, z, A, ow, J, _, (a3), (HS.only T (i := 0) rfl), rfl, E, (by exact uni_all (by omega) h2)⟩
set_option maxHeartbeats 1000000 in
theorem vreads_c (ex : FuncId) {Z : Option Addr} {ad : Nat} (iv : VInT) {F : Fz} {H : Heap} {R : List Fp} (hs : HS (.of H []) F H [] R) (hm : in64 iv.i.op) (hn : in64 iv.i.a) (hp : in64 iv.i.b) (hr : in64 iv.i.c) (ht : in64 iv.i.n) (z : SR F (.slice Z iv.args.length ad) iv.args) (hT : TB 37 tabC F) (hlen : iv.args.length ≤ 1048576) : C Tryd.prog 1 (KT 60 ex 37 tabC) 45 [(.agg ⟨[(iI iv.i.op), (iI iv.i.a), (iI iv.i.b), (iI iv.i.c), (iI iv.i.n), (.slice Z iv.args.length ad)]⟩)] H fun v H' => ∃ (ar : Option Addr) (kr : Nat) (r : List Int) (p : Fp) (F' : Fz), Fz.le F F' ∧ HS (.of H []) F' H' [p] R ∧ v = .slice ar r.length kr ∧ OS F' (.slice ar r.length kr) r p ∧ r = aW iv := by
 refine aG Tryd.func45 rfl rfl ?_
 refine aj 1 rfl ?_
 refine aa ?_
 refine aF (bB hs rfl rfl) rfl rfl ?_
 rintro _ H2 _ ⟨b1, rfl, ax, _⟩
 let b4 : Fp := [(b1, .cells [(iI iv.i.op), (iI iv.i.a), (iI iv.i.b), (iI iv.i.c), (iI iv.i.n), (.slice Z iv.args.length ad)] none false)]
 have ax : HS _ _ _ [b4] _ := ax
 refine wa (.slice none 0 0) rfl rfl rfl ?_
 refine ae 3 rfl ?_
 refine wR 1 [(2, .o (iI iv.i.op)), (3, .o (.bool (alV iv.i.op)))] 6 10 [] [(10, (.bool (!(alV iv.i.op))))] (vA (ql 3 0 (HS.hc ax (i := 0) rfl) rfl rfl) (vA (m1.kw ex iv.i.op H2) trivial)) rfl fun _ => ?_
 refine ak 1 2 (v := (!(alV iv.i.op))) rfl rfl rfl rfl (fun c4 => ?_) (fun c4 => ?_)
 ·
  try simp only [BS] at c4
  refine wR 1 [] 2 2 [] [(2, (.slice none 0 0))] trivial rfl fun _ => ?_
  refine ag ⟨.inr rfl, _, rfl, none, 0, ([] : List Int), [], _, fR, (HS.cons (HS.forget ax)), rfl, (OS.nil : OS _ _ _ []), (by exact reads_no (by assumption))⟩
 ·
  try simp only [BS] at c4
  refine aa ?_
  refine wRo 3 0 [(2, .o (iI iv.i.op))] 12 14 [] [(14, (iI iv.i.op))] (vA (ql 3 0 (HS.hc ax (i := 0) rfl) rfl rfl) trivial) rfl fun _ => ?_
  refine aA (ah rfl rfl rfl) rfl rfl (m1.mInfo_c ex iv.i.op (HS.call ax) (by omega) hT) ?_
  rintro _ H7 ⟨x7, o7, F7, dn, bz, rfl, g9, ha, rfl, rfl⟩
  replace bz := HS.back ax rfl bz
  have bz : HS _ _ _ [_] _ := bz
  replace hT := hT.mono dn
  replace z := z.mono dn
  refine wRo 3 4 [] 16 17 [11] [(16, (.agg ⟨[(.string ⟨⟨(aH iv.i.op).name.b⟩⟩), (iI (aH iv.i.op).form), (.bool (aH iv.i.op).ra), (.bool (aH iv.i.op).wa), (.bool (aH iv.i.op).rb), (.bool (aH iv.i.op).mt), (iI (aH iv.i.op).words)]⟩)), (17, (.bool (infO iv.i.op)))] trivial rfl fun _ => ?_
  refine aF (bE bz rfl) rfl rfl ?_
  rintro _ hD _ ⟨b9, rfl, ci, _⟩
  have ci : HS _ _ _ [_, [(b9, .cells [(.string ⟨⟨[]⟩⟩), (iI 0), (.bool false), (.bool false), (.bool false), (.bool false), (iI 0)] none false)]] _ := ci
  refine aM (aD (q := 1) ci rfl rfl rfl rfl rfl rfl rfl rfl rfl) rfl ?_
  rintro _ hE _ ⟨a7, _⟩
  let b5 : Fp := [(b9, .cells [(.string ⟨⟨(aH iv.i.op).name.b⟩⟩), (iI (aH iv.i.op).form), (.bool (aH iv.i.op).ra), (.bool (aH iv.i.op).wa), (.bool (aH iv.i.op).rb), (.bool (aH iv.i.op).mt), (iI (aH iv.i.op).words)] none false)]
  have a7 : HS _ _ _ [_, b5] _ := a7
  refine wa (.bool (infO iv.i.op)) rfl rfl rfl ?_
  refine ae 2 rfl ?_
  refine wR 3 [] 1 0 [5] [(5, (.slice none 0 0))] trivial rfl fun _ => ?_
  refine wR 1 [(1, .o (.bool (aH iv.i.op).ra))] 18 19 [] [(19, (.bool (aH iv.i.op).ra))] (vA (ql 4 2 (HS.hc a7 (i := 1) rfl) rfl rfl) trivial) rfl fun _ => ?_
  have aw := HS.snoc a7
  have aw : HS _ _ _ [_, _, []] _ := aw
  refine bP (fun f H' => ∃ (l1 : List Int) (A : Option Addr) (N : Nat) (V : Fp) (F' : Fz), Fz.le F7 F' ∧ HS (Base.of H []) F' H' [b4, b5, V] R ∧ OS F' (.slice A l1.length N) l1 V ∧ aI f [(1, (.pointer (some ⟨b1, 0, none⟩))), (2, (.slice none 0 0)), (3, (.pointer (some ⟨b9, 0, none⟩))), (5, (.slice A l1.length N))] ∧ (l1 = if (aH iv.i.op).ra = true then [iv.i.a] else [])) (fun d2 => ?_) ?_
  ·
   refine ak 0 0 (v := (aH iv.i.op).ra) rfl rfl rfl rfl (fun c7 => ?_) (fun c7 => ?_)
   ·
    try simp only [BS] at c7
    refine aa ?_
    refine wRo 4 0 [(3, .o (iI iv.i.a))] 20 23 [] [(20, (.slice none 0 0)), (23, (iI iv.i.a))] (vA (ql 3 1 (HS.hc aw (i := 0) rfl) rfl rfl) trivial) rfl fun _ => ?_
    refine aF (bA (α := Int) (ps := [(0, (iI iv.i.a))]) (cells := [(iI iv.i.a)]) ([iv.i.a] : List Int) aw rfl rfl rfl (by kernel_rfl) ⟨[(iI iv.i.a)], [], rfl, ⟨rfl, by omega⟩, rfl⟩ rfl) rfl rfl ?_
    rintro _ hG hb ⟨hY, h7, rfl, f7, a9, _⟩
    have a9 : HS _ _ _ [_, _, _, hb] _ := a9
    refine aF (bW (α := Int) (q := 2) (OS.nil : OS F7 (.slice none 0 0) ([] : List Int) []) a9 rfl rfl rfl (OS.sv f7 a9 (i := 3) rfl) rfl rfl rfl rfl rfl rfl rfl (by first | omega | (simp only [List.length_append, List.length_cons, List.length_nil]; omega))) rfl rfl ?_
    rintro _ hH ez ⟨c5, em, rfl, ch, cl, _⟩
    have cl : HS _ _ _ [_, _, ez, _] _ := cl
    have ch : OS F7 (.slice c5 ([iv.i.a] : List Int).length em) ([iv.i.a] : List Int) ez := ch
    refine wa (.slice c5 ([iv.i.a] : List Int).length em) rfl rfl rfl ?_
    refine ae 0 rfl ?_
    exact d2 _ _ ⟨([iv.i.a] : List Int), c5, em, ez, _, fR, (HS.sub cl (List.sublist_append_left _ _)), ch, (agC rfl (agC rfl (agC rfl (agC rfl agN)))), (by first | (rw [if_pos (by first | assumption | omega)]; done) | (rw [if_neg (by first | omega | (intro hh; simp_all; done))]; done) | (rw [if_neg (by first | omega | (intro hh; simp_all; done)), List.append_nil]))⟩
   ·
    try simp only [BS] at c7
    exact d2 _ _ ⟨([] : List Int), none, 0, [], _, fR, aw, (OS.nil : OS F7 (.slice none 0 0) ([] : List Int) []), (agC rfl (agC rfl (agC rfl (agC rfl agN)))), (by first | (rw [if_pos (by first | assumption | omega)]; done) | (rw [if_neg (by first | omega | (intro hh; simp_all; done))]; done) | (rw [if_neg (by first | omega | (intro hh; simp_all; done)), List.append_nil]))⟩
  ·
   rintro h3 hF ⟨l1, A, N, V, g6, b6, a8, b0, ds, q1⟩
   refine au _ ds (fun _ => ?_)
   clear ds
   replace hT := hT.mono b6
   replace z := z.mono b6
   have n1 : l1.length ≤ 1 := by rw [q1]; exact dX
   refine aj 3 rfl ?_
   refine wR 1 [(1, .o (.bool (aH iv.i.op).rb))] 26 27 [] [(27, (.bool (aH iv.i.op).rb))] (vA (ql 4 4 (HS.hc a8 (i := 1) rfl) rfl rfl) trivial) rfl fun _ => ?_
   refine bP (fun f H' => ∃ (l2 : List Int) (E : Option Addr) (T : Nat) (Y : Fp) (F' : Fz), Fz.le g6 F' ∧ HS (Base.of H []) F' H' [b4, b5, Y] R ∧ OS F' (.slice E l2.length T) l2 Y ∧ aI f [(1, (.pointer (some ⟨b1, 0, none⟩))), (2, (.slice none 0 0)), (5, (.slice E l2.length T))] ∧ (l2 = l1 ++ if (aH iv.i.op).rb = true then [iv.i.b] else [])) (fun d3 => ?_) ?_
   ·
    refine ak 0 0 (v := (aH iv.i.op).rb) rfl rfl rfl rfl (fun c8 => ?_) (fun c8 => ?_)
    ·
     try simp only [BS] at c8
     refine aa ?_
     refine wRo 4 0 [(3, .o (iI iv.i.b))] 28 31 [] [(28, (.slice A l1.length N)), (31, (iI iv.i.b))] (vA (ql 3 2 (HS.hc a8 (i := 0) rfl) rfl rfl) trivial) rfl fun _ => ?_
     refine aF (bA (α := Int) (ps := [(0, (iI iv.i.b))]) (cells := [(iI iv.i.b)]) ([iv.i.b] : List Int) a8 rfl rfl rfl (by kernel_rfl) ⟨[(iI iv.i.b)], [], rfl, ⟨rfl, by omega⟩, rfl⟩ rfl) rfl rfl ?_
     rintro _ hK he ⟨h1, h8, rfl, f9, bb, _⟩
     have bb : HS _ _ _ [_, _, V, he] _ := bb
     refine aF (bW (α := Int) (q := 2) b0 bb rfl rfl rfl (OS.sv f9 bb (i := 3) rfl) rfl rfl rfl rfl rfl rfl rfl (by first | omega | (simp only [List.length_append, List.length_cons, List.length_nil]; omega))) rfl rfl ?_
     rintro _ hM f0 ⟨e3, e6, rfl, go, co, _⟩
     have co : HS _ _ _ [_, _, f0, _] _ := co
     refine wa (.slice e3 (l1 ++ ([iv.i.b] : List Int)).length e6) rfl rfl rfl ?_
     refine ae 0 rfl ?_
     exact d3 _ _ ⟨l1 ++ ([iv.i.b] : List Int), e3, e6, f0, _, fR, (HS.sub co (List.sublist_append_left _ _)), go, (agC rfl (agC rfl (agC rfl agN))), (by first | (rw [if_pos (by first | assumption | omega)]; done) | (rw [if_neg (by first | omega | (intro hh; simp_all; done))]; done) | (rw [if_neg (by first | omega | (intro hh; simp_all; done)), List.append_nil]))⟩
    ·
     try simp only [BS] at c8
     exact d3 _ _ ⟨l1, A, N, V, _, fR, a8, b0, (agC rfl (agC rfl (agC rfl agN))), (by first | (rw [if_pos (by first | assumption | omega)]; done) | (rw [if_neg (by first | omega | (intro hh; simp_all; done))]; done) | (rw [if_neg (by first | omega | (intro hh; simp_all; done)), List.append_nil]))⟩
   ·
    rintro h4 hI ⟨l2, E, T, Y, g7, b7, ay, b2, dt, q2⟩
    refine au _ dt (fun _ => ?_)
    clear dt
    replace hT := hT.mono b7
    replace z := z.mono b7
    have n2 : l2.length ≤ 2 := by rw [q2, List.length_append]; exact Nat.add_le_add n1 dX
    refine aj 3 rfl ?_
    refine wR 1 [(2, .o (iI iv.i.op)), (7, .o (iI iv.i.op))] 34 43 [] [(43, (.bool ((iv.i.op == 11) || (iv.i.op == 12))))] (vA (ql 3 0 (HS.hc ay (i := 0) rfl) rfl rfl) (vA (fun (g1 : (iv.i.op == 11) = false) => (ql 3 0 (HS.hc ay (i := 0) rfl) rfl rfl)) trivial)) rfl fun _ => ?_
    refine bP (fun f H' => ∃ (l3 : List Int) (J : Option Addr) (U : Nat) (av : Fp) (F' : Fz), Fz.le g7 F' ∧ HS (Base.of H []) F' H' [b4, b5, av] R ∧ OS F' (.slice J l3.length U) l3 av ∧ aI f [(1, (.pointer (some ⟨b1, 0, none⟩))), (2, (.slice none 0 0)), (5, (.slice J l3.length U))] ∧ (l3 = l2 ++ if iv.i.op = 11 ∨ iv.i.op = 12 then [iv.i.c] else [])) (fun d4 => ?_) ?_
    ·
     refine ak 0 0 (v := ((iv.i.op == 11) || (iv.i.op == 12))) rfl rfl rfl rfl (fun c9 => ?_) (fun c9 => ?_)
     ·
      try simp only [BS] at c9
      refine aa ?_
      refine wRo 4 0 [(3, .o (iI iv.i.c))] 44 47 [] [(44, (.slice E l2.length T)), (47, (iI iv.i.c))] (vA (ql 3 3 (HS.hc ay (i := 0) rfl) rfl rfl) trivial) rfl fun _ => ?_
      refine aF (bA (α := Int) (ps := [(0, (iI iv.i.c))]) (cells := [(iI iv.i.c)]) ([iv.i.c] : List Int) ay rfl rfl rfl (by kernel_rfl) ⟨[(iI iv.i.c)], [], rfl, ⟨rfl, by omega⟩, rfl⟩ rfl) rfl rfl ?_
      rintro _ hR hf ⟨h2, h9, rfl, g0, bk, _⟩
      have bk : HS _ _ _ [_, _, Y, hf] _ := bk
      refine aF (bW (α := Int) (q := 2) b2 bk rfl rfl rfl (OS.sv g0 bk (i := 3) rfl) rfl rfl rfl rfl rfl rfl rfl (by first | omega | (simp only [List.length_append, List.length_cons, List.length_nil]; omega))) rfl rfl ?_
      rintro _ hS f1 ⟨e4, fd, rfl, g2, c0, _⟩
      have c0 : HS _ _ _ [_, _, f1, _] _ := c0
      refine wa (.slice e4 (l2 ++ ([iv.i.c] : List Int)).length fd) rfl rfl rfl ?_
      refine ae 0 rfl ?_
      exact d4 _ _ ⟨l2 ++ ([iv.i.c] : List Int), e4, fd, f1, _, fR, (HS.sub c0 (List.sublist_append_left _ _)), g2, (agC rfl (agC rfl (agC rfl agN))), (by first | (rw [if_pos (by first | assumption | omega)]; done) | (rw [if_neg (by first | omega | (intro hh; simp_all; done))]; done) | (rw [if_neg (by first | omega | (intro hh; simp_all; done)), List.append_nil]))⟩
     ·
      try simp only [BS] at c9
      exact d4 _ _ ⟨l2, E, T, Y, _, fR, ay, b2, (agC rfl (agC rfl (agC rfl agN))), (by first | (rw [if_pos (by first | assumption | omega)]; done) | (rw [if_neg (by first | omega | (intro hh; simp_all; done))]; done) | (rw [if_neg (by first | omega | (intro hh; simp_all; done)), List.append_nil]))⟩
    ·
     rintro h5 hQ ⟨l3, J, U, av, g8, cc, a0, b3, dv, q3⟩
     refine au _ dv (fun _ => ?_)
     clear dv
     replace hT := hT.mono cc
     replace z := z.mono cc
     have n3 : l3.length ≤ 3 := by rw [q3, List.length_append]; exact Nat.add_le_add n2 dX
     refine aj 3 rfl ?_
     refine wR 1 [(2, .o (iI iv.i.op))] 50 53 [] [(53, (.bool (iv.i.op == 6)))] (vA (ql 3 0 (HS.hc a0 (i := 0) rfl) rfl rfl) trivial) rfl fun _ => ?_
     refine bP (fun f H' => ∃ (l4 : List Int) (al : Option Addr) (an : Nat) (a5 : Fp) (F' : Fz), Fz.le g8 F' ∧ HS (Base.of H []) F' H' [b4, b5, a5] R ∧ OS F' (.slice al l4.length an) l4 a5 ∧ aI f [(2, (.slice none 0 0)), (5, (.slice al l4.length an))] ∧ (l4 = l3 ++ if iv.i.op = 6 then iv.args else [])) (fun ea => ?_) ?_
     ·
      refine ak 0 0 (v := (iv.i.op == 6)) rfl rfl rfl rfl (fun dd => ?_) (fun dd => ?_)
      ·
       try simp only [BS] at dd
       refine aa ?_
       refine wRo 3 0 [(2, .o (.slice Z iv.args.length ad))] 54 56 [] [(54, (.slice J l3.length U)), (56, (.slice Z iv.args.length ad))] (vA (ql 25 5 (HS.hc a0 (i := 0) rfl) rfl rfl) trivial) rfl fun _ => ?_
       refine aF (bW (α := Int) (q := 2) b3 a0 rfl rfl rfl (SR.sv z a0) rfl rfl rfl rfl rfl rfl rfl (by first | omega | (simp only [List.length_append, List.length_cons, List.length_nil]; omega))) rfl rfl ?_
       rintro _ hW f2 ⟨e5, fi, rfl, g3, c3, _⟩
       have c3 : HS _ _ _ [_, _, f2] _ := c3
       refine wa (.slice e5 (l3 ++ iv.args).length fi) rfl rfl rfl ?_
       refine ae 0 rfl ?_
       exact ea _ _ ⟨l3 ++ iv.args, e5, fi, f2, _, fR, c3, g3, (agC rfl (agC rfl agN)), (by first | (rw [if_pos (by first | assumption | omega)]; done) | (rw [if_neg (by first | omega | (intro hh; simp_all; done))]; done) | (rw [if_neg (by first | omega | (intro hh; simp_all; done)), List.append_nil]))⟩
      ·
       try simp only [BS] at dd
       exact ea _ _ ⟨l3, J, U, av, _, fR, a0, b3, (agC rfl (agC rfl agN)), (by first | (rw [if_pos (by first | assumption | omega)]; done) | (rw [if_neg (by first | omega | (intro hh; simp_all; done))]; done) | (rw [if_neg (by first | omega | (intro hh; simp_all; done)), List.append_nil]))⟩
     ·
      rintro h6 hV ⟨l4, al, an, a5, hA, dk, g5, et, d1, q4⟩
      refine au _ d1 (fun _ => ?_)
      clear d1
      have n4 : l4.length ≤ 1048579 := by rw [q4, List.length_append]; (have hq : (if iv.i.op = 6 then iv.args else []).length ≤ iv.args.length := by split <;> first | exact Nat.le_refl _ | exact Nat.zero_le _); omega
      refine aj 2 rfl ?_
      refine aa ?_
      refine wm (.slice al l4.length an) rfl rfl rfl ?_
      obtain ⟨hB, dl, bl, g4, hv⟩ := OS.frz et g5 (i := 2) rfl
      have bl : HS _ _ _ [_, _, _] _ := bl
      replace hT := (hT.mono dk).mono dl
      refine aA (ah rfl rfl rfl) rfl rfl (unique_c ex l4 (HS.call bl) g4 hT (by omega)) ?_
      rintro _ hX ⟨c6, es, ib, f3, hC, f6, a1, rfl, e2, rfl⟩
      replace a1 := HS.back bl rfl a1
      have a1 : HS _ _ _ [_, _, _, f3] _ := a1
      refine wa (.slice c6 (cH [] l4).length es) rfl rfl rfl ?_
      refine ae 1 rfl ?_
      refine ag ⟨.inr rfl, _, rfl, c6, es, cH [] l4, f3, _, (fT (fT (fT (fT (fT (fT (dn) b6) b7) cc) dk) dl) f6), (HS.only a1 (i := 3) rfl), rfl, e2, (by exact reads_yes (by assumption) (by simp only [q4, q3, q2, q1, i7, List.append_assoc]))⟩
set_option maxHeartbeats 1000000 in
theorem rreads_c (ex : FuncId) {Z : Option Addr} {ad : Nat} (iv : VInT) {F : Fz} {H : Heap} {R : List Fp} (hs : HS (.of H []) F H [] R) (f5 : in64 iv.i.op) (f6 : in64 iv.i.a) (f7 : in64 iv.i.b) (f9 : in64 iv.i.c) (go : in64 iv.i.n) (z : SR F (.slice Z iv.args.length ad) iv.args) (hT : TB 37 tabC F) (hlen : iv.args.length ≤ 1048576) : C Tryd.prog 1 (KT 60 ex 37 tabC) 31 [(.agg ⟨[(iI iv.i.op), (iI iv.i.a), (iI iv.i.b), (iI iv.i.c), (iI iv.i.n), (.slice Z iv.args.length ad)]⟩)] H fun v H' => ∃ (ar : Option Addr) (kr : Nat) (r : List Int) (F' : Fz), Fz.le F F' ∧ HS (.of H []) F' H' [] R ∧ v = .slice ar r.length kr ∧ SR F' (.slice ar r.length kr) r ∧ r = aW iv := by
 refine aG Tryd.func31 rfl rfl ?_
 refine aj 1 rfl ?_
 refine aa ?_
 refine aF (bB hs rfl rfl) rfl rfl ?_
 rintro _ H2 _ ⟨b1, rfl, ay, _⟩
 let bk : Fp := [(b1, .cells [(iI iv.i.op), (iI iv.i.a), (iI iv.i.b), (iI iv.i.c), (iI iv.i.n), (.slice Z iv.args.length ad)] none false)]
 have ay : HS _ _ _ [bk] _ := ay
 refine wa (.slice none 0 0) rfl rfl rfl ?_
 refine ae 2 rfl ?_
 refine wR 3 [] 1 0 [3] [(3, (.slice none 0 0))] trivial rfl fun _ => ?_
 refine wR 1 [(2, .o (iI iv.i.op)), (3, .o (.bool (alV iv.i.op)))] 6 10 [] [(10, (.bool (!(alV iv.i.op))))] (vA (ql 3 0 (HS.hc ay (i := 0) rfl) rfl rfl) (vA (m1.ralw_c_q ex iv.i.op H2) trivial)) rfl fun _ => ?_
 refine ak 1 2 (v := (!(alV iv.i.op))) rfl rfl rfl rfl (fun c5 => ?_) (fun c5 => ?_)
 ·
  try simp only [BS] at c5
  refine wR 1 [] 2 2 [11] [(2, (.slice none 0 0))] trivial rfl fun _ => ?_
  refine ag ⟨.inr rfl, _, rfl, none, 0, ([] : List Int), _, fR, (HS.forget ay), rfl, (SR.nil : SR F (.slice none 0 0) ([] : List Int)), (by exact reads_no (by assumption))⟩
 ·
  try simp only [BS] at c5
  have hal : alV iv.i.op = true := by assumption
  refine aa ?_
  refine wRo 3 0 [(2, .o (iI iv.i.op))] 12 14 [] [(14, (iI iv.i.op))] (vA (ql 3 0 (HS.hc ay (i := 0) rfl) rfl rfl) trivial) rfl fun _ => ?_
  refine aA (ah rfl rfl rfl) rfl rfl (m3.rinfo_c ex iv.i.op (HS.call ay) (by first | omega | (dsimp only; omega) | (simp <;> omega)) hT) ?_
  rintro _ H8 ⟨x8, F8, c3, a7, rfl, f2, f3, rfl⟩
  replace a7 := HS.back ay rfl a7
  have a7 : HS _ _ _ [_] _ := a7
  replace hT := hT.mono c3
  replace z := z.mono c3
  refine aF (bE a7 rfl) rfl rfl ?_
  rintro _ hb _ ⟨b9, rfl, b3, _⟩
  have b3 : HS _ _ _ [_, [(b9, .cells [(.string ⟨⟨[]⟩⟩), (iI 0), (.bool false), (.bool false), (.bool false), (.bool false), (iI 0)] none false)]] _ := b3
  refine aM (aD (q := 1) b3 rfl rfl rfl rfl rfl rfl rfl rfl rfl) rfl ?_
  rintro _ he _ ⟨Y, _⟩
  let bl : Fp := [(b9, .cells [(.string ⟨⟨(aE iv.i.op).name.b⟩⟩), (iI (aE iv.i.op).form), (.bool (aE iv.i.op).ra), (.bool (aE iv.i.op).wa), (.bool (aE iv.i.op).rb), (.bool (aE iv.i.op).mt), (iI (aE iv.i.op).words)] none false)]
  have Y : HS _ _ _ [_, bl] _ := Y
  refine ae 3 rfl ?_
  refine wR 1 [(1, .o (.bool (aE iv.i.op).ra))] 16 17 [] [(17, (.bool (aE iv.i.op).ra))] (vA (ql 4 2 (HS.hc Y (i := 1) rfl) rfl rfl) trivial) rfl fun _ => ?_
  refine bP (fun f H' => ∃ (l1 : List Int) (N : Option Addr) (U : Nat) (F' : Fz), Fz.le F8 F' ∧ HS (Base.of H []) F' H' [bk, bl] R ∧ SR F' (.slice N l1.length U) l1 ∧ aI f [(1, (.pointer (some ⟨b1, 0, none⟩))), (2, (.slice none 0 0)), (3, (.slice N l1.length U)), (4, (.pointer (some ⟨b9, 0, none⟩)))] ∧ (l1 = cH [] (if (aH iv.i.op).ra = true then [iv.i.a] else []))) (fun dd => ?_) ?_
  ·
   refine ak 0 0 (v := (aE iv.i.op).ra) rfl rfl rfl rfl (fun ci => ?_) (fun ci => ?_)
   ·
    try simp only [BS] at ci
    refine aa ?_
    refine wRo 4 0 [(3, .o (iI iv.i.a))] 18 21 [] [(18, (.slice none 0 0)), (21, (iI iv.i.a))] (vA (ql 3 1 (HS.hc Y (i := 0) rfl) rfl rfl) trivial) rfl fun _ => ?_
    refine aA (ah rfl rfl rfl) rfl rfl (m6.fp ex ([] : List Int) iv.i.a (HS.call Y) (SR.nil : SR F8 (.slice none 0 0) ([] : List Int)) (by first | omega | (dsimp only; omega) | (simp <;> omega)) hT (by first | omega | (dsimp only; omega) | (simp <;> omega))) ?_
    rintro _ hg ⟨b5, dn, hw, g6, ez, aw, rfl, d3, rfl⟩
    replace aw := HS.back Y rfl aw
    have aw : HS _ _ _ [_, _] _ := aw
    refine wa (.slice b5 (fA ([] : List Int) iv.i.a).length dn) rfl rfl rfl ?_
    refine ae 0 rfl ?_
    exact dd _ _ ⟨fA ([] : List Int) iv.i.a, b5, dn, _, (ez), aw, d3, (agC rfl (agC rfl (agC rfl (agC rfl agN)))), (by first | exact rrT (by rw [← vra]; assumption) | exact rrF (by rw [← vra]; simp_all))⟩
   ·
    try simp only [BS] at ci
    exact dd _ _ ⟨([] : List Int), none, 0, _, fR, Y, (SR.nil : SR F8 (.slice none 0 0) ([] : List Int)), (agC rfl (agC rfl (agC rfl (agC rfl agN)))), (by first | exact rrT (by rw [← vra]; assumption) | exact rrF (by rw [← vra]; simp_all))⟩
  ·
   rintro hq hf ⟨l1, N, U, fi, bz, av, a8, c4, q1⟩
   refine au _ c4 (fun _ => ?_)
   clear c4
   replace hT := hT.mono bz
   replace z := z.mono bz
   have n1 := rr_len1 q1
   refine aj 3 rfl ?_
   refine wR 1 [(1, .o (.bool (aE iv.i.op).rb))] 23 24 [] [(24, (.bool (aE iv.i.op).rb))] (vA (ql 4 4 (HS.hc av (i := 1) rfl) rfl rfl) trivial) rfl fun _ => ?_
   refine bP (fun f H' => ∃ (l2 : List Int) (T : Option Addr) (V : Nat) (F' : Fz), Fz.le fi F' ∧ HS (Base.of H []) F' H' [bk, bl] R ∧ SR F' (.slice T l2.length V) l2 ∧ aI f [(1, (.pointer (some ⟨b1, 0, none⟩))), (2, (.slice none 0 0)), (3, (.slice T l2.length V)), (4, (.pointer (some ⟨b9, 0, none⟩)))] ∧ (l2 = cH l1 (if (aH iv.i.op).rb = true then [iv.i.b] else []))) (fun dk => ?_) ?_
   ·
    refine ak 0 0 (v := (aE iv.i.op).rb) rfl rfl rfl rfl (fun cl => ?_) (fun cl => ?_)
    ·
     try simp only [BS] at cl
     refine aa ?_
     refine wRo 4 0 [(3, .o (iI iv.i.b))] 25 28 [] [(25, (.slice N l1.length U)), (28, (iI iv.i.b))] (vA (ql 3 2 (HS.hc av (i := 0) rfl) rfl rfl) trivial) rfl fun _ => ?_
     refine aA (ah rfl rfl rfl) rfl rfl (m6.fp ex l1 iv.i.b (HS.call av) a8 (by first | omega | (dsimp only; omega) | (simp <;> omega)) hT (by first | omega | (dsimp only; omega) | (simp <;> omega))) ?_
     rintro _ hk ⟨b6, ds, hz, g7, e0, a0, rfl, d4, rfl⟩
     replace a0 := HS.back av rfl a0
     have a0 : HS _ _ _ [_, _] _ := a0
     refine wa (.slice b6 (fA l1 iv.i.b).length ds) rfl rfl rfl ?_
     refine ae 0 rfl ?_
     exact dk _ _ ⟨fA l1 iv.i.b, b6, ds, _, (e0), a0, d4, (agC rfl (agC rfl (agC rfl (agC rfl agN)))), (by first | exact rrT (by rw [← vrb]; assumption) | exact rrF (by rw [← vrb]; simp_all))⟩
    ·
     try simp only [BS] at cl
     exact dk _ _ ⟨l1, N, U, _, fR, av, a8, (agC rfl (agC rfl (agC rfl (agC rfl agN)))), (by first | exact rrT (by rw [← vrb]; assumption) | exact rrF (by rw [← vrb]; simp_all))⟩
   ·
    rintro hr hj ⟨l2, T, V, f0, b0, ax, a9, c6, q2⟩
    refine au _ c6 (fun _ => ?_)
    clear c6
    replace hT := hT.mono b0
    replace z := z.mono b0
    have n2 := rr_len2 n1 q2
    refine aj 3 rfl ?_
    refine wR 1 [(1, .o (iI (aE iv.i.op).form))] 30 32 [] [(32, (.bool ((aE iv.i.op).form == 4)))] (vA (ql 3 1 (HS.hc ax (i := 1) rfl) rfl rfl) trivial) rfl fun _ => ?_
    refine bP (fun f H' => ∃ (l3 : List Int) (al : Option Addr) (an : Nat) (F' : Fz), Fz.le f0 F' ∧ HS (Base.of H []) F' H' [bk, bl] R ∧ SR F' (.slice al l3.length an) l3 ∧ aI f [(1, (.pointer (some ⟨b1, 0, none⟩))), (2, (.slice none 0 0)), (3, (.slice al l3.length an))] ∧ (l3 = cH l2 (if iv.i.op = 11 ∨ iv.i.op = 12 then [iv.i.c] else []))) (fun dl => ?_) ?_
    ·
     refine ak 0 0 (v := ((aE iv.i.op).form == 4)) rfl rfl rfl rfl (fun co => ?_) (fun co => ?_)
     ·
      try simp only [BS] at co
      refine aa ?_
      refine wRo 4 0 [(3, .o (iI iv.i.c))] 33 36 [] [(33, (.slice T l2.length V)), (36, (iI iv.i.c))] (vA (ql 3 3 (HS.hc ax (i := 0) rfl) rfl rfl) trivial) rfl fun _ => ?_
      refine aA (ah rfl rfl rfl) rfl rfl (m6.fp ex l2 iv.i.c (HS.call ax) a9 (by first | omega | (dsimp only; omega) | (simp <;> omega)) hT (by first | omega | (dsimp only; omega) | (simp <;> omega))) ?_
      rintro _ hm ⟨b7, dt, hA, g8, e1, a1, rfl, ea, rfl⟩
      replace a1 := HS.back ax rfl a1
      have a1 : HS _ _ _ [_, _] _ := a1
      refine wa (.slice b7 (fA l2 iv.i.c).length dt) rfl rfl rfl ?_
      refine ae 0 rfl ?_
      exact dl _ _ ⟨fA l2 iv.i.c, b7, dt, _, (e1), a1, ea, (agC rfl (agC rfl (agC rfl agN))), (by first | exact rrT ((vf4 hal).1 (by assumption)) | exact rrF (fun hh => absurd ((vf4 hal).2 hh) (by omega)))⟩
     ·
      try simp only [BS] at co
      exact dl _ _ ⟨l2, T, V, _, fR, ax, a9, (agC rfl (agC rfl (agC rfl agN))), (by first | exact rrT ((vf4 hal).1 (by assumption)) | exact rrF (fun hh => absurd ((vf4 hal).2 hh) (by omega)))⟩
    ·
     rintro ht hl ⟨l3, al, an, f1, b2, e3, d1, c7, q3⟩
     refine au _ c7 (fun _ => ?_)
     clear c7
     refine aj 3 rfl ?_
     refine wR 2 [] 1 0 [5] [(5, (iI 0))] trivial rfl fun _ => ?_
     refine ap (fun (mm : Nat) f H' => ∃ (l4 : List Int) (k : Nat) (A : Option Addr) (E : Nat) (F' : Fz), Fz.le f1 F' ∧ HS (Base.of H []) F' H' [bk, bl] R ∧ SR F' (.slice A l4.length E) l4 ∧ aI f [(1, (.pointer (some ⟨b1, 0, none⟩))), (2, (.slice none 0 0)), (3, (.slice A l4.length E)), (5, (iI (k : Int)))] ∧ mm = iv.args.length - k ∧ (l4 = cH l3 (iv.args.take k)) ∧ (k ≤ iv.args.length) ∧ (k = 0 ∨ iv.i.op = 6)) _ ⟨l3, 0, al, an, _, fR, e3, d1, (agC rfl (agC rfl (agC rfl (agC rfl agN)))), rfl, (by rfl), (by first | assumption | omega | (simp at *; omega)), (by first | assumption | omega | (simp at *; omega))⟩ ?_
     rintro g3 hu hn ⟨l4, k, A, E, g9, a6, J, bb, c8, rfl, q4, q5, q6⟩ e4
     refine au _ c8 (fun _ => ?_)
     clear c8
     replace hT := (hT.mono b2).mono a6
     replace z := (z.mono b2).mono a6
     have n4 := rr_len q1 q2 q3 q4
     refine aj 2 rfl ?_
     refine wR 1 [(2, .o (.slice Z iv.args.length ad)), (8, .o (iI iv.i.op))] 38 48 [] [(48, (.bool ((decide ((k : Int) < (iv.args.length : Int))) && (iv.i.op == 6))))] (vA (ql 25 5 (HS.hc J (i := 0) rfl) rfl rfl) (vA (fun (g1 : (decide ((k : Int) < (iv.args.length : Int))) = true) => (ql 3 0 (HS.hc J (i := 0) rfl) rfl rfl)) trivial)) rfl fun _ => ?_
     refine ak 3 5 (v := ((decide ((k : Int) < (iv.args.length : Int))) && (iv.i.op == 6))) rfl rfl rfl rfl (fun c0 => ?_) (fun c0 => ?_)
     ·
      try simp only [BS] at c0
      refine aa ?_
      obtain ⟨g2, c9⟩ := Sv.view (SR.sv z J)
      have hv := fI (c9 k)
      refine wRo 6 0 [(2, .o (.slice Z iv.args.length ad)), (5, .o (iI (iv.args.getD k 0)))] 51 56 [] [(51, (.slice A l4.length E)), (56, (iI (iv.args.getD k 0)))] (vA (ql 25 5 (HS.hc J (i := 0) rfl) rfl rfl) (vA (Sv.ix (j := (k : Int)) (SR.sv z J) (by first | omega | (dsimp only; omega) | (simp <;> omega)) (by first | omega | (dsimp only; omega) | (simp <;> omega))) (vA (ql 3 0 (vI (c9 k) (by first | omega | (dsimp only; omega) | (simp <;> omega))) rfl rfl) trivial))) rfl fun _ => ?_
      refine aA (ah rfl rfl rfl) rfl rfl (m6.fp ex l4 (iv.args.getD k 0) (HS.call J) bb (by first | omega | (dsimp only; omega) | (simp <;> omega)) hT (by first | omega | (dsimp only; omega) | (simp <;> omega))) ?_
      rintro _ hp ⟨cc, dv, hB, ha, e2, a2, rfl, em, rfl⟩
      replace a2 := HS.back J rfl a2
      have a2 : HS _ _ _ [_, _] _ := a2
      refine wa (.slice cc (fA l4 (iv.args.getD k 0)).length dv) rfl rfl rfl ?_
      refine ae 2 rfl ?_
      refine wR 1 [] 49 50 [5] [(5, (iI ((k : Int) + 1)))] (vA (vi (n := (k : Int) + 1) (by first | omega | (dsimp only; omega) | (simp <;> omega))) trivial) rfl fun _ => ?_
      refine e4 _ _ _ ?_ ⟨fA l4 (iv.args.getD k 0), k + 1, cc, dv, _, (fT (a6) e2), a2, em, (agC rfl (agC rfl (agC rfl (agC rfl agN)))), rfl, (by exact fe (by omega) q4), (by first | assumption | omega | (simp at *; omega)), (by first | assumption | omega | (simp at *; omega))⟩
      omega
     ·
      try simp only [BS] at c0
      refine wR 1 [] 2 2 [58] [(2, (.slice A l4.length E))] trivial rfl fun _ => ?_
      refine ag ⟨.inr rfl, _, rfl, A, E, l4, _, (fT (fT (fT (fT (c3) bz) b0) b2) a6), (HS.forget J), rfl, bb, (by exact rr_end (by assumption) q1 q2 q3 q4 q6 (by omega))⟩
set_option maxHeartbeats 1000000 in
theorem vwrites_c (ex : FuncId) {E : Option Addr} {J : Nat} (iv : VInT) {F : Fz} {H : Heap} {R : List Fp} (hs : HS (.of H []) F H [] R) (a0 : in64 iv.i.op) (a1 : in64 iv.i.a) (a2 : in64 iv.i.b) (a3 : in64 iv.i.c) (a4 : in64 iv.i.n) (a5 : SR F (.slice E iv.args.length J) iv.args) (hT : TB 37 tabC F) : C Tryd.prog 1 (KT 60 ex 37 tabC) 46 [(.agg ⟨[(iI iv.i.op), (iI iv.i.a), (iI iv.i.b), (iI iv.i.c), (iI iv.i.n), (.slice E iv.args.length J)]⟩)] H fun v H' => ∃ (ar : Option Addr) (kr : Nat) (r : List Int) (p : Fp) (F' : Fz), Fz.le F F' ∧ HS (.of H []) F' H' [p] R ∧ v = .slice ar r.length kr ∧ OS F' (.slice ar r.length kr) r p ∧ r = aN iv := by
 refine aG Tryd.func46 rfl rfl ?_
 refine aj 1 rfl ?_
 refine aa ?_
 refine aF (bB hs rfl rfl) rfl rfl ?_
 rintro _ H2 _ ⟨b1, rfl, A, _⟩
 have A : HS _ _ _ [[(b1, .cells [(iI iv.i.op), (iI iv.i.a), (iI iv.i.b), (iI iv.i.c), (iI iv.i.n), (.slice E iv.args.length J)] none false)]] _ := A
 refine wa (.slice none 0 0) rfl rfl rfl ?_
 refine ae 3 rfl ?_
 refine wR 1 [(2, .o (iI iv.i.op)), (3, .o (.bool (alV iv.i.op)))] 5 9 [] [(9, (.bool (!(alV iv.i.op))))] (vA (ql 3 0 (HS.hc A (i := 0) rfl) rfl rfl) (vA (m1.kw ex iv.i.op H2) trivial)) rfl fun _ => ?_
 refine ak 1 2 (v := (!(alV iv.i.op))) rfl rfl rfl rfl (fun c4 => ?_) (fun c4 => ?_)
 ·
  try simp only [BS] at c4
  refine wR 1 [] 2 2 [] [(2, (.slice none 0 0))] trivial rfl fun _ => ?_
  refine ag ⟨.inr rfl, _, rfl, none, 0, ([] : List Int), [], _, fR, (HS.cons (HS.forget A)), rfl, (OS.nil : OS _ _ _ []), (by exact writes_no (by assumption))⟩
 ·
  try simp only [BS] at c4
  refine aa ?_
  refine wRo 3 0 [(2, .o (iI iv.i.op))] 11 13 [] [(13, (iI iv.i.op))] (vA (ql 3 0 (HS.hc A (i := 0) rfl) rfl rfl) trivial) rfl fun _ => ?_
  refine aA (ah rfl rfl rfl) rfl rfl (m1.mInfo_c ex iv.i.op (HS.call A) (by omega) hT) ?_
  rintro _ H7 ⟨x7, o7, F7, Z, N, rfl, ax, ay, rfl, rfl⟩
  replace N := HS.back A rfl N
  have N : HS _ _ _ [_] _ := N
  refine wRo 3 4 [] 15 16 [10] [(15, (.agg ⟨[(.string ⟨⟨(aH iv.i.op).name.b⟩⟩), (iI (aH iv.i.op).form), (.bool (aH iv.i.op).ra), (.bool (aH iv.i.op).wa), (.bool (aH iv.i.op).rb), (.bool (aH iv.i.op).mt), (iI (aH iv.i.op).words)]⟩)), (16, (.bool (infO iv.i.op)))] trivial rfl fun _ => ?_
  refine aF (bE N rfl) rfl rfl ?_
  rintro _ a9 _ ⟨b9, rfl, T, _⟩
  have T : HS _ _ _ [_, [(b9, .cells [(.string ⟨⟨[]⟩⟩), (iI 0), (.bool false), (.bool false), (.bool false), (.bool false), (iI 0)] none false)]] _ := T
  refine aM (aD (q := 1) T rfl rfl rfl rfl rfl rfl rfl rfl rfl) rfl ?_
  rintro _ bb _ ⟨z, _⟩
  have z : HS _ _ _ [_, [(b9, .cells [(.string ⟨⟨(aH iv.i.op).name.b⟩⟩), (iI (aH iv.i.op).form), (.bool (aH iv.i.op).ra), (.bool (aH iv.i.op).wa), (.bool (aH iv.i.op).rb), (.bool (aH iv.i.op).mt), (iI (aH iv.i.op).words)] none false)]] _ := z
  refine wa (.bool (infO iv.i.op)) rfl rfl rfl ?_
  refine ae 3 rfl ?_
  refine wR 1 [(1, .o (.bool (aH iv.i.op).wa)), (5, .o (iI iv.i.op)), (11, .o (iI iv.i.op))] 17 30 [] [(30, (.bool (((aH iv.i.op).wa || (iv.i.op == 6)) || (iv.i.op == 38))))] (vA (ql 4 3 (HS.hc z (i := 1) rfl) rfl rfl) (vA (fun (g1 : (aH iv.i.op).wa = false) => (ql 3 0 (HS.hc z (i := 0) rfl) rfl rfl)) (vA (fun (g1 : ((aH iv.i.op).wa || (iv.i.op == 6)) = false) => (ql 3 0 (HS.hc z (i := 0) rfl) rfl rfl)) trivial))) rfl fun _ => ?_
  refine ak 1 2 (v := (((aH iv.i.op).wa || (iv.i.op == 6)) || (iv.i.op == 38))) rfl rfl rfl rfl (fun V => ?_) (fun V => ?_)
  ·
   try simp only [BS] at V
   refine aa ?_
   refine wRo 3 0 [(2, .o (iI iv.i.a))] 31 33 [] [(33, (iI iv.i.a))] (vA (ql 3 1 (HS.hc z (i := 0) rfl) rfl rfl) trivial) rfl fun _ => ?_
   refine aF (bA (α := Int) (ps := [(0, (iI iv.i.a))]) (cells := [(iI iv.i.a)]) ([iv.i.a] : List Int) z rfl rfl rfl (by kernel_rfl) ⟨[(iI iv.i.a)], [], rfl, ⟨rfl, by omega⟩, rfl⟩ rfl) rfl rfl ?_
   rintro _ bk al ⟨Y, ad, rfl, av, U, _⟩
   have U : HS _ _ _ [_, _, al] _ := U
   refine wa (.slice Y ([iv.i.a] : List Int).length ad) rfl rfl rfl ?_
   refine ae 1 rfl ?_
   refine ag ⟨.inr rfl, _, rfl, Y, ad, ([iv.i.a] : List Int), al, _, (Z), (HS.only U (i := 2) rfl), rfl, av, (by exact jM (by assumption) (or_assoc.1 (by assumption)))⟩
  ·
   try simp only [BS] at V
   refine wR 1 [] 2 2 [] [(2, (.slice none 0 0))] trivial rfl fun _ => ?_
   refine ag ⟨.inr rfl, _, rfl, none, 0, ([] : List Int), [], _, (Z), (HS.cons (HS.forget z)), rfl, (OS.nil : OS _ _ _ []), (by exact writes_not (by simp_all))⟩
set_option maxHeartbeats 1000000 in
theorem rwrites_c (ex : FuncId) {N : Option Addr} {T : Nat} (iv : VInT) {F : Fz} {H : Heap} {R : List Fp} (hs : HS (.of H []) F H [] R) (a4 : in64 iv.i.op) (a5 : in64 iv.i.a) (a6 : in64 iv.i.b) (a7 : in64 iv.i.c) (a8 : in64 iv.i.n) (a9 : SR F (.slice N iv.args.length T) iv.args) (hT : TB 37 tabC F) : C Tryd.prog 1 (KT 60 ex 37 tabC) 30 [(.agg ⟨[(iI iv.i.op), (iI iv.i.a), (iI iv.i.b), (iI iv.i.c), (iI iv.i.n), (.slice N iv.args.length T)]⟩)] H fun v H' => ∃ (ar : Option Addr) (kr : Nat) (r : List Int) (p : Fp) (F' : Fz), Fz.le F F' ∧ HS (.of H []) F' H' [p] R ∧ v = .slice ar r.length kr ∧ OS F' (.slice ar r.length kr) r p ∧ r = aN iv := by
 refine aG Tryd.func30 rfl rfl ?_
 refine aj 1 rfl ?_
 refine aa ?_
 refine aF (bB hs rfl rfl) rfl rfl ?_
 rintro _ H2 _ ⟨V, rfl, E, _⟩
 let a0 : Fp := [(V, .cells [(iI iv.i.op), (iI iv.i.a), (iI iv.i.b), (iI iv.i.c), (iI iv.i.n), (.slice N iv.args.length T)] none false)]
 have E : HS _ _ _ [a0] _ := E
 refine wa (.slice none 0 0) rfl rfl rfl ?_
 refine ae 3 rfl ?_
 refine wk_rcut 3 19 [] [(19, (.bool (alV iv.i.op && ((aE iv.i.op).wa || (iv.i.op == 6)))))] (fun H' => ∃ F', Fz.le F F' ∧ HS (Base.of H []) F' H' [a0] R) ?_ ?_
 ·
  refine aa ?_
  refine bX (v := (.pointer (some ⟨V, 0, none⟩))) (dA rfl rfl) rfl rfl ?_
  refine bX (v := (.pointer (some ⟨V, 0, none⟩))) (dA rfl rfl) rfl rfl ?_
  refine bX (v := (iI iv.i.op)) (bN (i := 0) rfl rfl (HS.hc E (i := 0) rfl) rfl rfl) rfl rfl ?_
  refine aA (ah rfl rfl rfl) rfl rfl (m1.ralw_c ex iv.i.op _) ?_
  rintro _ H2 ⟨r6, rfl, rfl, rfl⟩
  refine wm (.bool (alV iv.i.op)) rfl rfl rfl ?_
  refine wo_gsT (v := (alV iv.i.op)) rfl rfl (fun z => ?_) (fun z => ?_)
  ·
   have ad := z
   try simp only [BS] at ad
   refine bX (v := (.pointer (some ⟨V, 0, none⟩))) (dA rfl rfl) rfl rfl ?_
   refine ge rfl z ?_
   refine bX (v := (.pointer (some ⟨V, 0, none⟩))) (dA rfl rfl) rfl rfl ?_
   refine ge rfl z ?_
   refine bX (v := (iI iv.i.op)) (bN (i := 0) rfl rfl (HS.hc E (i := 0) rfl) rfl rfl) rfl rfl ?_
   refine ge rfl z ?_
   refine aA (ah rfl rfl rfl) rfl rfl (m3.rinfo_c ex iv.i.op (HS.call E) (by omega) hT) ?_
   rintro _ H8 ⟨x8, F8, aw, J, rfl, a2, a3, rfl⟩
   replace J := HS.back E rfl J
   have J : HS _ _ _ [_] _ := J
   refine ge rfl z ?_
   refine bX (v := (.bool (aE iv.i.op).wa)) (ap_fv rfl rfl) rfl rfl ?_
   refine ge rfl z ?_
   refine wm (.bool (aE iv.i.op).wa) rfl rfl rfl ?_
   refine wo_gsF (v := (aE iv.i.op).wa) rfl rfl (fun A => ?_) (fun A => ?_)
   ·
    have al := A
    try simp only [BS] at al
    refine bX (v := (.pointer (some ⟨V, 0, none⟩))) (dA rfl rfl) rfl rfl ?_
    refine ge rfl A ?_
    refine bX (v := (.pointer (some ⟨V, 0, none⟩))) (dA rfl rfl) rfl rfl ?_
    refine ge rfl A ?_
    refine bX (v := (iI iv.i.op)) (bN (i := 0) rfl rfl (HS.hc J (i := 0) rfl) rfl rfl) rfl rfl ?_
    refine ge rfl A ?_
    refine bX (v := (.bool (iv.i.op == 6))) (ap_cmp rfl rfl rfl rfl) rfl rfl ?_
    refine ge rfl z ?_
    refine bX (v := (.bool (iv.i.op == 6))) (fu rfl A rfl) rfl rfl ?_
    refine bX (v := (.bool (iv.i.op == 6))) (iL rfl z rfl) rfl rfl ?_
    refine iO ?_
    exact bO ⟨rfl, ⟨_, (fT fR aw), HS.sub J (List.Sublist.refl _)⟩, (Lu rfl (Lu rfl (Lu rfl (Lu rfl (Lu rfl (Lu rfl (Lu rfl (Lu rfl (Lu rfl (Lu rfl (Lu rfl (Lu rfl (Lu rfl (Lu rfl (Lu rfl (Lu rfl (Lu rfl Lr))))))))))))))))), (agC (congrArg Value.bool (show (iv.i.op == 6) = (alV iv.i.op && ((aE iv.i.op).wa || (iv.i.op == 6))) by first | rfl | simp only [↓z, ↓A, BT] | grind)) agN)⟩
   ·
    have al := A
    try simp only [BS] at al
    refine wo_gf0 rfl A rfl ?_
    refine wo_gf0 rfl A rfl ?_
    refine wo_gf0 rfl A rfl ?_
    refine ge rfl z ?_
    refine bX (v := (.bool true)) (iL rfl A rfl) rfl rfl ?_
    refine bX (v := (.bool true)) (iL rfl z rfl) rfl rfl ?_
    refine iO ?_
    exact bO ⟨rfl, ⟨_, (fT fR aw), HS.sub J (List.Sublist.refl _)⟩, (Lu rfl (Lu rfl (Lu rfl (Lu rfl (Lu rfl (Lu rfl (Lu rfl (Lu rfl (Lu rfl (Lu rfl (Lu rfl (Lu rfl (Lu rfl (Lu rfl (Lu rfl (Lu rfl (Lu rfl Lr))))))))))))))))), (agC (congrArg Value.bool (show true = (alV iv.i.op && ((aE iv.i.op).wa || (iv.i.op == 6))) by first | rfl | simp only [↓z, ↓A, BT] | grind)) agN)⟩
  ·
   have ad := z
   try simp only [BS] at ad
   refine iP rfl z rfl ?_
   refine iP rfl z rfl ?_
   refine iP rfl z rfl ?_
   refine iP rfl z rfl ?_
   refine iP rfl z rfl ?_
   refine wo_gn rfl rfl ?_
   refine wo_gn rfl rfl ?_
   refine wo_gn rfl rfl ?_
   refine wo_gn rfl rfl ?_
   refine iP rfl z rfl ?_
   refine bX (v := (.bool false)) (fu rfl z rfl) rfl rfl ?_
   refine iO ?_
   exact bO ⟨rfl, ⟨_, fR, HS.sub E (List.Sublist.refl _)⟩, (Lu rfl (Lu rfl (Lu rfl (Lu rfl (Lu rfl (Lu rfl (Lu rfl (Lu rfl (Lu rfl (Lu rfl (Lu rfl (Lu rfl (Lu rfl (Lu rfl (Lu rfl (Lu rfl (Lu rfl Lr))))))))))))))))), (agC (congrArg Value.bool (show false = (alV iv.i.op && ((aE iv.i.op).wa || (iv.i.op == 6))) by first | rfl | simp only [↓z, BT] | grind)) agN)⟩
 ·
  rintro g5 H5 ⟨F5, av, Z⟩
  refine aj 1 rfl ?_
  refine ak 1 2 (v := (alV iv.i.op && ((aE iv.i.op).wa || (iv.i.op == 6)))) rfl rfl rfl rfl (fun U => ?_) (fun U => ?_)
  ·
   try simp only [BS] at U
   have hq := U
   refine aa ?_
   refine wRo 3 0 [(2, .o (iI iv.i.a))] 20 22 [] [(22, (iI iv.i.a))] (vA (ql 3 1 (HS.hc Z (i := 0) rfl) rfl rfl) trivial) rfl fun _ => ?_
   refine aF (bA (α := Int) (ps := [(0, (iI iv.i.a))]) (cells := [(iI iv.i.a)]) ([iv.i.a] : List Int) Z rfl rfl rfl (by kernel_rfl) ⟨[(iI iv.i.a)], [], rfl, ⟨rfl, by omega⟩, rfl⟩ rfl) rfl rfl ?_
   rintro _ bk ay ⟨an, ax, rfl, a1, Y, _⟩
   have Y : HS _ _ _ [_, ay] _ := Y
   refine wa (.slice an ([iv.i.a] : List Int).length ax) rfl rfl rfl ?_
   refine ae 1 rfl ?_
   refine ag ⟨.inr rfl, _, rfl, an, ax, ([iv.i.a] : List Int), ay, _, (av), (HS.only Y (i := 1) rfl), rfl, a1, (by first | exact rwr_yes hq | exact rwr_no hq)⟩
  ·
   try simp only [BS] at U
   have hq := U
   refine wR 1 [] 2 2 [] [(2, (.slice none 0 0))] trivial rfl fun _ => ?_
   refine ag ⟨.inr rfl, _, rfl, none, 0, ([] : List Int), [], _, (av), (HS.cons (HS.forget Z)), rfl, (OS.nil : OS _ _ _ []), (by first | exact rwr_yes hq | exact rwr_no hq)⟩
theorem vsucc_c (ex : FuncId) {J : Option Addr} {T : Nat} (b : BlkT) {F : Fz} {H : Heap} {R : List Fp} (hs : HS (.of H []) F H [] R) (a6 : SR F (.slice J b.ins.length T) b.ins) (a8 : in64 b.fin) (a9 : in64 b.reg) (bb : in64 b.tgt) (bk : in64 b.els) (hT : TB 37 tabC F) : C Tryd.prog 1 (KT 60 ex 37 tabC) 47 [(.agg ⟨[(.slice J b.ins.length T), (iI b.fin), (iI b.reg), (iI b.tgt), (iI b.els)]⟩)] H fun v H' => ∃ (ar : Option Addr) (kr : Nat) (r : List Int) (p : Fp) (F' : Fz), Fz.le F F' ∧ HS (.of H []) F' H' [p] R ∧ v = .slice ar r.length kr ∧ OS F' (.slice ar r.length kr) r p ∧ r = aT b := by
 refine aG Tryd.func47 rfl rfl ?_
 refine aj 1 rfl ?_
 refine aa ?_
 refine aF (bB hs rfl rfl) rfl rfl ?_
 rintro _ H2 _ ⟨b1, rfl, z, _⟩
 have z : HS _ _ _ [[(b1, .cells [(.slice J b.ins.length T), (iI b.fin), (iI b.reg), (iI b.tgt), (iI b.els)] none false)]] _ := z
 refine wa (.slice none 0 0) rfl rfl rfl ?_
 refine ae 3 rfl ?_
 refine wR 3 [(1, .o (iI b.fin))] 3 4 [] [(4, (iI b.fin))] (vA (ql 3 1 (HS.hc z (i := 0) rfl) rfl rfl) trivial) rfl fun _ => ?_
 refine wR 1 [] 5 6 [] [(5, (.bool (b.fin == 1)))] trivial rfl fun _ => ?_
 refine ak 1 1 (v := (b.fin == 1)) rfl rfl rfl rfl (fun c5 => ?_) (fun c5 => ?_)
 ·
  try simp only [BS] at c5
  refine aa ?_
  refine wRo 2 0 [(1, .o (iI b.tgt))] 7 8 [] [(8, (iI b.tgt))] (vA (ql 3 3 (HS.hc z (i := 0) rfl) rfl rfl) trivial) rfl fun _ => ?_
  refine aF (bA (α := Int) (ps := [(0, (iI b.tgt))]) (cells := [(iI b.tgt)]) ([b.tgt] : List Int) z rfl rfl rfl (by kernel_rfl) ⟨[(iI b.tgt)], [], rfl, ⟨rfl, by omega⟩, rfl⟩ rfl) rfl rfl ?_
  rintro _ H8 p7 ⟨a7, k7, rfl, a1, Z, _⟩
  have Z : HS _ _ _ [_, p7] _ := Z
  refine wa (.slice a7 ([b.tgt] : List Int).length k7) rfl rfl rfl ?_
  refine ae 1 rfl ?_
  refine ag ⟨.inr rfl, _, rfl, a7, k7, ([b.tgt] : List Int), p7, _, fR, (HS.only Z (i := 1) rfl), rfl, a1, (by first | exact succ1 (by assumption) | exact (succ2 (by assumption)).symm | exact succ0 (by omega))⟩
 ·
  try simp only [BS] at c5
  refine wR 1 [] 10 11 [] [(10, (.bool (b.fin == 2)))] trivial rfl fun _ => ?_
  refine ak 1 3 (v := (b.fin == 2)) rfl rfl rfl rfl (fun V => ?_) (fun V => ?_)
  ·
   try simp only [BS] at V
   refine aa ?_
   refine wRo 4 0 [(1, .o (iI b.tgt)), (3, .o (iI b.els))] 12 15 [] [(13, (iI b.tgt)), (15, (iI b.els))] (vA (ql 3 3 (HS.hc z (i := 0) rfl) rfl rfl) (vA (ql 3 4 (HS.hc z (i := 0) rfl) rfl rfl) trivial)) rfl fun _ => ?_
   refine aF (bA (α := Int) (ps := [(0, (iI b.tgt)), (1, (iI b.els))]) (cells := [(iI b.tgt), (iI b.els)]) ([b.tgt, b.els] : List Int) z rfl rfl rfl (by kernel_rfl) ⟨[(iI b.tgt)], [(iI b.els)], rfl, ⟨rfl, by omega⟩, ⟨[(iI b.els)], [], rfl, ⟨rfl, by omega⟩, rfl⟩⟩ rfl) rfl rfl ?_
   rintro _ b2 a3 ⟨b4, b5, rfl, ax, N, _⟩
   have N : HS _ _ _ [_, a3] _ := N
   obtain ⟨bz, Y, E, ay, bl⟩ := OS.frz ax N (i := 1) rfl
   have E : HS _ _ _ [_, []] _ := E
   replace hT := hT.mono Y
   refine aA (ah rfl rfl rfl) rfl rfl (unique_c ex ([b.tgt, b.els] : List Int) (HS.call E) ay hT (by simp)) ?_
   rintro _ b3 ⟨U, ad, b6, an, b0, aw, A, rfl, al, rfl⟩
   replace A := HS.back E rfl A
   have A : HS _ _ _ [_, _, an] _ := A
   refine wa (.slice U (cH [] ([b.tgt, b.els] : List Int)).length ad) rfl rfl rfl ?_
   refine ae 1 rfl ?_
   refine ag ⟨.inr rfl, _, rfl, U, ad, cH [] ([b.tgt, b.els] : List Int), an, _, (fT (Y) aw), (HS.only A (i := 2) rfl), rfl, al, (by first | exact succ1 (by assumption) | exact (succ2 (by assumption)).symm | exact succ0 (by omega))⟩
  ·
   try simp only [BS] at V
   refine wR 1 [] 2 2 [] [(2, (.slice none 0 0))] trivial rfl fun _ => ?_
   refine ag ⟨.inr rfl, _, rfl, none, 0, ([] : List Int), [], _, fR, (HS.cons (HS.forget z)), rfl, (OS.nil : OS _ _ _ []), (by first | exact succ1 (by assumption) | exact (succ2 (by assumption)).symm | exact succ0 (by omega))⟩
theorem rsucc_c (ex : FuncId) {N : Option Addr} {T : Nat} (b : BlkT) {F : Fz} {H : Heap} {R : List Fp} (hs : HS (.of H []) F H [] R) (a8 : SR F (.slice N b.ins.length T) b.ins) (a9 : in64 b.fin) (bb : in64 b.reg) (bk : in64 b.tgt) (bl : in64 b.els) (hT : TB 37 tabC F) : C Tryd.prog 1 (KT 60 ex 37 tabC) 27 [(.agg ⟨[(.slice N b.ins.length T), (iI b.fin), (iI b.reg), (iI b.tgt), (iI b.els)]⟩)] H fun v H' => ∃ (ar : Option Addr) (kr : Nat) (r : List Int) (F' : Fz), Fz.le F F' ∧ HS (.of H []) F' H' [] R ∧ v = .slice ar r.length kr ∧ SR F' (.slice ar r.length kr) r ∧ r = aT b := by
 refine aG Tryd.func27 rfl rfl ?_
 refine aj 1 rfl ?_
 refine aa ?_
 refine aF (bB hs rfl rfl) rfl rfl ?_
 rintro _ H2 _ ⟨b1, rfl, z, _⟩
 have z : HS _ _ _ [[(b1, .cells [(.slice N b.ins.length T), (iI b.fin), (iI b.reg), (iI b.tgt), (iI b.els)] none false)]] _ := z
 refine wa (.slice none 0 0) rfl rfl rfl ?_
 refine ae 3 rfl ?_
 refine wR 3 [(1, .o (iI b.fin))] 3 4 [] [(4, (iI b.fin))] (vA (ql 3 1 (HS.hc z (i := 0) rfl) rfl rfl) trivial) rfl fun _ => ?_
 refine wR 1 [] 5 6 [] [(5, (.bool (b.fin == 1)))] trivial rfl fun _ => ?_
 refine ak 1 1 (v := (b.fin == 1)) rfl rfl rfl rfl (fun c5 => ?_) (fun c5 => ?_)
 ·
  try simp only [BS] at c5
  refine aa ?_
  refine wRo 2 0 [(1, .o (iI b.tgt))] 7 8 [] [(8, (iI b.tgt))] (vA (ql 3 3 (HS.hc z (i := 0) rfl) rfl rfl) trivial) rfl fun _ => ?_
  refine aF (bA (α := Int) (ps := [(0, (iI b.tgt))]) (cells := [(iI b.tgt)]) ([b.tgt] : List Int) z rfl rfl rfl (by kernel_rfl) ⟨[(iI b.tgt)], [], rfl, ⟨rfl, by omega⟩, rfl⟩ rfl) rfl rfl ?_
  rintro _ H8 p7 ⟨a7, k7, rfl, a2, Z, _⟩
  have Z : HS _ _ _ [_, p7] _ := Z
  refine wa (.slice a7 ([b.tgt] : List Int).length k7) rfl rfl rfl ?_
  refine ae 1 rfl ?_
  obtain ⟨F9, a1, ad, a3, b7⟩ := OS.frz a2 Z (i := 1) rfl
  have ad : HS _ _ _ [_, []] _ := ad
  refine ag ⟨.inr rfl, _, rfl, a7, k7, ([b.tgt] : List Int), _, (a1), (HS.forget ad), rfl, a3, (by first | exact succ1 (by assumption) | exact (succ2 (by assumption)).symm | exact succ0 (by omega))⟩
 ·
  try simp only [BS] at c5
  refine wR 1 [] 10 11 [] [(10, (.bool (b.fin == 2)))] trivial rfl fun _ => ?_
  refine ak 1 3 (v := (b.fin == 2)) rfl rfl rfl rfl (fun V => ?_) (fun V => ?_)
  ·
   try simp only [BS] at V
   refine aa ?_
   refine wRo 2 0 [(1, .o (iI b.tgt))] 12 13 [] [(13, (iI b.tgt))] (vA (ql 3 3 (HS.hc z (i := 0) rfl) rfl rfl) trivial) rfl fun _ => ?_
   refine aF (bA (α := Int) (ps := [(0, (iI b.tgt))]) (cells := [(iI b.tgt)]) ([b.tgt] : List Int) z rfl rfl rfl (by kernel_rfl) ⟨[(iI b.tgt)], [], rfl, ⟨rfl, by omega⟩, rfl⟩ rfl) rfl rfl ?_
   rintro _ b4 a5 ⟨b6, b9, rfl, ax, E, _⟩
   have E : HS _ _ _ [_, a5] _ := E
   refine wRo 2 3 [(4, .o (iI b.els))] 15 16 [] [(16, (iI b.els))] (vA (ql 3 4 (HS.hc E (i := 0) rfl) rfl rfl) trivial) rfl fun _ => ?_
   obtain ⟨b2, Y, J, ay, bz⟩ := OS.frz ax E (i := 1) rfl
   have J : HS _ _ _ [_, []] _ := J
   replace hT := hT.mono Y
   refine aA (ah rfl rfl rfl) rfl rfl (m6.fp ex ([b.tgt] : List Int) b.els (HS.call J) ay (by omega) hT (by simp)) ?_
   rintro _ b5 ⟨U, al, cc, b3, aw, A, rfl, an, rfl⟩
   replace A := HS.back J rfl A
   have A : HS _ _ _ [_, _] _ := A
   refine wa (.slice U (fA ([b.tgt] : List Int) b.els).length al) rfl rfl rfl ?_
   refine ae 1 rfl ?_
   refine ag ⟨.inr rfl, _, rfl, U, al, fA ([b.tgt] : List Int) b.els, _, (fT (Y) aw), (HS.forget A), rfl, an, (by first | exact succ1 (by assumption) | exact (succ2 (by assumption)).symm | exact succ0 (by omega))⟩
  ·
   try simp only [BS] at V
   refine wR 1 [] 2 2 [] [(2, (.slice none 0 0))] trivial rfl fun _ => ?_
   refine ag ⟨.inr rfl, _, rfl, none, 0, ([] : List Int), _, fR, (HS.forget z), rfl, (SR.nil : SR F (.slice none 0 0) ([] : List Int)), (by first | exact succ1 (by assumption) | exact (succ2 (by assumption)).symm | exact succ0 (by omega))⟩
theorem rend_c (ex : FuncId) {A : Option Addr} {E : Nat} (b : BlkT) {F : Fz} {H : Heap} {R : List Fp} (hs : HS (.of H []) F H [] R) (ad : SR F (.slice A b.ins.length E) b.ins) (al : in64 b.fin) (an : in64 b.reg) (av : in64 b.tgt) (aw : in64 b.els) (hT : TB 37 tabC F) : C Tryd.prog 1 (KT 60 ex 37 tabC) 78 [(.agg ⟨[(.slice A b.ins.length E), (iI b.fin), (iI b.reg), (iI b.tgt), (iI b.els)]⟩)] H fun v H' => ∃ (ar : Option Addr) (kr : Nat) (r : List Int) (p : Fp) (F' : Fz), Fz.le F F' ∧ HS (.of H []) F' H' [p] R ∧ v = .slice ar r.length kr ∧ OS F' (.slice ar r.length kr) r p ∧ r = kQ b := by
 refine aG Tryd.func78 rfl rfl ?_
 refine aj 1 rfl ?_
 refine aa ?_
 refine aF (bB hs rfl rfl) rfl rfl ?_
 rintro _ H2 _ ⟨Z, rfl, z, _⟩
 have z : HS _ _ _ [[(Z, .cells [(.slice A b.ins.length E), (iI b.fin), (iI b.reg), (iI b.tgt), (iI b.els)] none false)]] _ := z
 refine wa (.slice none 0 0) rfl rfl rfl ?_
 refine ae 3 rfl ?_
 refine wR 1 [(1, .o (iI b.fin)), (5, .o (iI b.fin))] 3 10 [] [(10, (.bool ((b.fin == 2) || (b.fin == 3))))] (vA (ql 3 1 (HS.hc z (i := 0) rfl) rfl rfl) (vA (fun (g1 : (b.fin == 2) = false) => (ql 3 1 (HS.hc z (i := 0) rfl) rfl rfl)) trivial)) rfl fun _ => ?_
 refine ak 1 2 (v := ((b.fin == 2) || (b.fin == 3))) rfl rfl rfl rfl (fun N => ?_) (fun N => ?_)
 ·
  try simp only [BS] at N
  refine aa ?_
  refine wRo 2 0 [(1, .o (iI b.reg))] 11 12 [] [(12, (iI b.reg))] (vA (ql 3 2 (HS.hc z (i := 0) rfl) rfl rfl) trivial) rfl fun _ => ?_
  refine aF (bA (α := Int) (ps := [(0, (iI b.reg))]) (cells := [(iI b.reg)]) ([b.reg] : List Int) z rfl rfl rfl (by kernel_rfl) ⟨[(iI b.reg)], [], rfl, ⟨rfl, by omega⟩, rfl⟩ rfl) rfl rfl ?_
  rintro _ H7 Y ⟨T, V, rfl, U, J, _⟩
  have J : HS _ _ _ [_, Y] _ := J
  refine wa (.slice T ([b.reg] : List Int).length V) rfl rfl rfl ?_
  refine ae 1 rfl ?_
  refine ag ⟨.inr rfl, _, rfl, T, V, ([b.reg] : List Int), Y, _, fR, (HS.only J (i := 1) rfl), rfl, U, (by first | exact (if_pos (by omega)).symm | exact (if_neg (by omega)).symm)⟩
 ·
  try simp only [BS] at N
  refine wR 1 [] 2 2 [] [(2, (.slice none 0 0))] trivial rfl fun _ => ?_
  refine ag ⟨.inr rfl, _, rfl, none, 0, ([] : List Int), [], _, fR, (HS.cons (HS.forget z)), rfl, (OS.nil : OS _ _ _ []), (by first | exact (if_pos (by omega)).symm | exact (if_neg (by omega)).symm)⟩
theorem ev (ex : FuncId) {a_a : Option Addr} {k_a : Nat} (a : List Int) {a_b : Option Addr} {k_b : Nat} (b : List Int) {F : Fz} {H : Heap} {R : List Fp} (hs : HS (.of H []) F H [] R) (ha : SR F (.slice a_a a.length k_a) a) (hb : SR F (.slice a_b b.length k_b) b) (hT : TB 37 tabC F) (hlen : a.length + b.length ≤ 1073741824) : C Tryd.prog 1 (KT 60 ex 37 tabC) 28 [(.slice a_a a.length k_a), (.slice a_b b.length k_b)] H fun v H' => ∃ (ar : Option Addr) (kr : Nat) (r : List Int) (F' : Fz), Fz.le F F' ∧ HS (.of H []) F' H' [] R ∧ v = .slice ar r.length kr ∧ SR F' (.slice ar r.length kr) r ∧ r = cH a b := by
 refine aG Tryd.func28 rfl rfl ?_
 refine aj 1 rfl ?_
 refine wR 2 [] 4 4 [] [(4, (.slice none 0 0))] trivial rfl fun _ => ?_
 refine aa ?_
 refine wm (.slice a_a a.length k_a) rfl rfl rfl ?_
 have T := HS.snoc hs
 have T : HS _ _ _ [[]] _ := T
 refine aF (bW (α := Int) (q := 0) (OS.nil : OS F (.slice none 0 0) ([] : List Int) []) T rfl rfl rfl (SR.sv ha T) rfl rfl rfl rfl rfl rfl rfl (by first | omega | (simp only [List.length_append, List.length_cons, List.length_nil]; omega))) rfl rfl ?_
 rintro _ H4 p3 ⟨a3, k3, rfl, Z, ad, _⟩
 have ad : HS _ _ _ [p3] _ := ad
 have Z : OS F (.slice a3 a.length k3) a p3 := Z
 refine wa (.slice a3 a.length k3) rfl rfl rfl ?_
 refine ae 3 rfl ?_
 obtain ⟨F5, Y, al, a5, bz⟩ := OS.frz Z ad (i := 0) rfl
 have al : HS _ _ _ [[]] _ := al
 refine wR 2 [] 1 0 [6] [(6, (iI 0))] trivial rfl fun _ => ?_
 refine ap (fun (mm : Nat) f H' => ∃ (o : List Int) (i : Nat) (z : Option Addr) (A : Nat) (F' : Fz), Fz.le F5 F' ∧ HS (Base.of H []) F' H' [[]] R ∧ SR F' (.slice z o.length A) o ∧ aI f [(1, (.slice a_b b.length k_b)), (4, (.slice none 0 0)), (5, (.slice z o.length A)), (6, (iI (i : Int)))] ∧ mm = b.length - i ∧ (i ≤ b.length) ∧ (o = cH a (b.take i))) _ ⟨a, 0, a3, k3, _, fR, al, a5, (agC rfl (agC rfl (agC rfl (agC rfl agN)))), rfl, (by first | assumption | omega | (simp at *; omega)), (by rfl)⟩ ?_
 rintro b0 f7 H7 ⟨o, i, z, A, F7, N, J, U, ax, rfl, h1, h2⟩ a6
 refine au _ ax (fun _ => ?_)
 clear ax
 replace hT := (hT.mono Y).mono N
 replace hb := (hb.mono Y).mono N
 have n4 : o.length ≤ a.length + b.length := by rw [h2]; exact Nat.le_trans ed (by simp; omega)
 refine aj 2 rfl ?_
 refine wR 1 [] 9 12 [] [(12, (.bool (decide ((i : Int) < (b.length : Int)))))] trivial rfl fun _ => ?_
 refine ak 3 5 (v := (decide ((i : Int) < (b.length : Int)))) rfl rfl rfl rfl (fun c9 => ?_) (fun c9 => ?_)
 ·
  try simp only [BS] at c9
  refine aa ?_
  obtain ⟨a9, an⟩ := Sv.view (SR.sv hb J)
  have bl := fI (an i)
  refine wRo 5 0 [(4, .o (iI (b.getD i 0)))] 15 19 [] [(15, (.slice z o.length A)), (19, (iI (b.getD i 0)))] (vA (Sv.ix (j := (i : Int)) (SR.sv hb J) (by omega) (by omega)) (vA (ql 3 0 (vI (an i) (by omega)) rfl rfl) trivial)) rfl fun _ => ?_
  refine aA (ah rfl rfl rfl) rfl rfl (m6.fp ex o (b.getD i 0) (HS.call J) U (by omega) hT (by omega)) ?_
  rintro _ bk ⟨V, av, b1, bb, a2, E, rfl, aw, rfl⟩
  replace E := HS.back J rfl E
  have E : HS _ _ _ [_] _ := E
  refine wa (.slice V (fA o (b.getD i 0)).length av) rfl rfl rfl ?_
  refine ae 2 rfl ?_
  refine wR 1 [] 13 14 [6] [(6, (iI ((i : Int) + 1)))] (vA (vi (n := (i : Int) + 1) (by omega)) trivial) rfl fun _ => ?_
  refine a6 _ _ _ ?_ ⟨fA o (b.getD i 0), i + 1, V, av, _, (fT (N) a2), E, aw, (agC rfl (agC rfl (agC rfl (agC rfl agN)))), rfl, (by first | assumption | omega | (simp at *; omega)), (by exact fe (by omega) h2)⟩
  omega
 ·
  try simp only [BS] at c9
  refine wR 1 [] 4 4 [21] [(4, (.slice z o.length A))] trivial rfl fun _ => ?_
  refine ag ⟨.inr rfl, _, rfl, z, A, o, _, (fT (Y) N), (HS.forget J), rfl, U, (by exact uni_all (by omega) h2)⟩
theorem minus_c (ex : FuncId) {a_a : Option Addr} {k_a : Nat} (a : List Int) {a_b : Option Addr} {k_b : Nat} (b : List Int) {F : Fz} {H : Heap} {R : List Fp} (hs : HS (.of H []) F H [] R) (ha : SR F (.slice a_a a.length k_a) a) (hb : SR F (.slice a_b b.length k_b) b) (hT : TB 37 tabC F) (hlen : a.length ≤ 1073741824 ∧ b.length ≤ 1073741824) : C Tryd.prog 1 (KT 60 ex 37 tabC) 29 [(.slice a_a a.length k_a), (.slice a_b b.length k_b)] H fun v H' => ∃ (ar : Option Addr) (kr : Nat) (r : List Int) (p : Fp) (F' : Fz), Fz.le F F' ∧ HS (.of H []) F' H' [p] R ∧ v = .slice ar r.length kr ∧ OS F' (.slice ar r.length kr) r p ∧ r = jI a b := by
 refine aG Tryd.func29 rfl rfl ?_
 refine aj 1 rfl ?_
 refine wR 2 [] 4 4 [] [(4, (.slice none 0 0))] trivial rfl fun _ => ?_
 refine wR 3 [] 1 0 [5] [(5, (.slice none 0 0))] trivial rfl fun _ => ?_
 refine wR 2 [] 1 0 [6] [(6, (iI 0))] trivial rfl fun _ => ?_
 have ad := HS.snoc hs
 have ad : HS _ _ _ [[]] _ := ad
 refine ap (fun (mm : Nat) f H' => ∃ (o : List Int) (i : Nat) (z : Option Addr) (A : Nat) (E : Fp) (F' : Fz), Fz.le F F' ∧ HS (Base.of H []) F' H' [E] R ∧ OS F' (.slice z o.length A) o E ∧ aI f [(0, (.slice a_a a.length k_a)), (1, (.slice a_b b.length k_b)), (4, (.slice none 0 0)), (5, (.slice z o.length A)), (6, (iI (i : Int)))] ∧ mm = a.length - i ∧ (i ≤ a.length) ∧ (o = jI (a.take i) b)) _ ⟨([] : List Int), 0, none, 0, [], _, fR, ad, (OS.nil : OS F (.slice none 0 0) ([] : List Int) []), (agC rfl (agC rfl (agC rfl (agC rfl (agC rfl agN))))), rfl, (by first | assumption | omega | (simp at *; omega)), (by rfl)⟩ ?_
 rintro bl f4 H4 ⟨o, i, z, A, E, F4, N, J, U, av, rfl, h1, Y⟩ ax
 refine au _ av (fun _ => ?_)
 clear av
 replace hT := hT.mono N
 replace ha := ha.mono N
 replace hb := hb.mono N
 have n4 : o.length ≤ a.length := by rw [Y]; exact Nat.le_trans min_len (by simp; omega)
 refine aj 2 rfl ?_
 refine wR 1 [] 7 10 [] [(10, (.bool (decide ((i : Int) < (a.length : Int)))))] trivial rfl fun _ => ?_
 refine ak 4 5 (v := (decide ((i : Int) < (a.length : Int)))) rfl rfl rfl rfl (fun c7 => ?_) (fun c7 => ?_)
 ·
  try simp only [BS] at c7
  obtain ⟨a9, aw⟩ := Sv.view (SR.sv ha J)
  have g9 := fI (aw i)
  refine wR 1 [(4, .o (iI (a.getD i 0))), (5, .o (.bool (conV b (a.getD i 0))))] 13 19 [] [(19, (.bool (!(conV b (a.getD i 0)))))] (vA (Sv.ix (j := (i : Int)) (SR.sv ha J) (by omega) (by omega)) (vA (ql 3 0 (vI (aw i) (by omega)) rfl rfl) (vA (m6.contains_c_q ex b (a.getD i 0) (HS.call J) hb (by omega) hT (by omega)) trivial))) rfl fun _ => ?_
  refine ak 0 2 (v := (!(conV b (a.getD i 0)))) rfl rfl rfl rfl (fun Z => ?_) (fun Z => ?_)
  ·
   try simp only [BS] at Z
   refine aa ?_
   obtain ⟨a5, al⟩ := Sv.view (SR.sv ha J)
   have bb := fI (al i)
   refine wRo 5 0 [(4, .o (iI (a.getD i 0)))] 20 24 [] [(20, (.slice z o.length A)), (24, (iI (a.getD i 0)))] (vA (Sv.ix (j := (i : Int)) (SR.sv ha J) (by omega) (by omega)) (vA (ql 3 0 (vI (al i) (by omega)) rfl rfl) trivial)) rfl fun _ => ?_
   refine aF (bA (α := Int) (ps := [(0, (iI (a.getD i 0)))]) (cells := [(iI (a.getD i 0))]) ([(a.getD i 0)] : List Int) J rfl rfl rfl (by kernel_rfl) ⟨[(iI (a.getD i 0))], [], rfl, ⟨rfl, by omega⟩, rfl⟩ rfl) rfl rfl ?_
   rintro _ a6 a4 ⟨a8, bk, rfl, a2, T, _⟩
   have T : HS _ _ _ [E, a4] _ := T
   refine aF (bW (α := Int) (q := 0) U T rfl rfl rfl (OS.sv a2 T (i := 1) rfl) rfl rfl rfl rfl rfl rfl rfl (by first | omega | (simp only [List.length_append, List.length_cons, List.length_nil]; omega))) rfl rfl ?_
   rintro _ a7 a0 ⟨an, ay, rfl, a3, V, _⟩
   have V : HS _ _ _ [a0, _] _ := V
   refine wa (.slice an (o ++ ([(a.getD i 0)] : List Int)).length ay) rfl rfl rfl ?_
   refine ae 2 rfl ?_
   refine wR 1 [] 11 12 [6] [(6, (iI ((i : Int) + 1)))] (vA (vi (n := (i : Int) + 1) (by omega)) trivial) rfl fun _ => ?_
   refine ax _ _ _ ?_ ⟨o ++ ([(a.getD i 0)] : List Int), i + 1, an, ay, a0, _, (N), (HS.sub V (List.sublist_append_left _ _)), a3, (agC rfl (agC rfl (agC rfl (agC rfl (agC rfl agN))))), rfl, (by first | assumption | omega | (simp at *; omega)), (by first | exact (iD (by omega) Y).1 (by assumption) | exact (iD (by omega) Y).2 (by assumption))⟩
   omega
  ·
   try simp only [BS] at Z
   refine wR 1 [] 11 12 [6] [(6, (iI ((i : Int) + 1)))] (vA (vi (n := (i : Int) + 1) (by omega)) trivial) rfl fun _ => ?_
   refine ax _ _ _ ?_ ⟨o, i + 1, z, A, E, _, (N), J, U, (agC rfl (agC rfl (agC rfl (agC rfl (agC rfl agN))))), rfl, (by first | assumption | omega | (simp at *; omega)), (by first | exact (iD (by omega) Y).1 (by assumption) | exact (iD (by omega) Y).2 (by assumption))⟩
   omega
 ·
  try simp only [BS] at c7
  refine wR 1 [] 4 4 [27] [(4, (.slice z o.length A))] trivial rfl fun _ => ?_
  refine ag ⟨.inr rfl, _, rfl, z, A, o, E, _, (N), (HS.only J (i := 0) rfl), rfl, U, (by rw [Y, List.take_of_length_le (by omega)])⟩
end Go.Proofs.YtlabedbmgmfbaaaDoor.ma
