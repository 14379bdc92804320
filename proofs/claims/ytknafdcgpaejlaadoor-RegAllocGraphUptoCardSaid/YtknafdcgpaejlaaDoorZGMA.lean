/-
 What instructions read and write, what follows a block, unions and differences of sets: the program and the reference, by symbolic runs. No condition but bounds on lengths.
-/
import Derived.Test.YtknafdcgpaejlaaDoorZGM6
noncomputable section
namespace Go.Proofs.YtknafdcgpaejlaaDoor.ma
open Go.R
set_option maxRecDepth 10000
set_option linter.unusedVariables false
set_option linter.unusedSimpArgs false
variable (ex : FuncId) {F : Fz} {H : Heap} {R : List Fp}
open m1 m2 m3 m4 m5 m6
abbrev Asc (l : List Int) : Prop := l.Pairwise (· < ·)
def cR (a l : List Int) : List Int := l.foldl cY a
def jk (a b : List Int) : List Int := a.filter fun x => !gc b x
theorem asc_at {l : List Int} (h : Asc l) {i j : Nat} (hij : i < j) (hj : j < l.length) : l.getD i 0 < l.getD j 0 := by
 have := (a1C.1 h) i j (by omega) hj hij
 rw [a01, a01, a03 hj, a03 (show i < l.length by omega)]; exact this
theorem pre_lt {l : List Int} {n : Int} : ∀ x ∈ l.take (gL l n), x < n := by
 intro x hx
 have e : l.take (gL l n) = l.takeWhile (fun x => decide (x < n)) := by
  unfold gL
  exact (List.prefix_iff_eq_take.1 (List.takeWhile_prefix _)).symm
 rw [e] at hx
 have := a0v.1 (List.all_takeWhile (p := fun x => decide (x < n)) (l := l)) x hx
 simpa using this
theorem pre_at {l : List Int} {n : Int} (h : gL l n < l.length) : ¬ l.getD (gL l n) 0 < n := by
 induction l with
 | nil => simp at h
 | cons x l ih =>
  unfold gL at h ⊢
  by_cases hx : x < n
  ·
   rw [List.takeWhile_cons_of_pos (by simpa using hx)] at h ⊢
   simp only [a0a, a28] at h ⊢
   exact ih (by unfold gL; omega)
  rw [List.takeWhile_cons_of_neg (by simpa using hx)]
  simpa using hx
theorem pre_ge {l : List Int} {n : Int} (ha : Asc l) : ∀ x ∈ l.drop (gL l n), n ≤ x := by
 intro x hx
 obtain ⟨i, hi, rfl⟩ := a0D.1 hx
 rw [List.getElem_drop]
 rw [a0F] at hi
 have h0 := pre_at (l := l) (n := n) (by omega)
 rw [a01, a03 (show gL l n < l.length by omega)] at h0
 rcases a1o i with rfl | hp
 ·
  simp only [a1T]; simpa using h0
 have := (a1C.1 ha) (gL l n) (gL l n + i) (by omega) (by omega) (by omega)
 simp only [a0Q] at h0
 omega
theorem ins_asc {l : List Int} {n : Int} (h : Asc l) : Asc (cY l n) := by
 unfold cY
 split
 ·
  exact h
 rename_i hc
 have hge := pre_ge (n := n) h
 have hlt := pre_lt (l := l) (n := n)
 refine a20.2 ⟨a20.2 ⟨h.sublist (List.take_sublist _ _), List.pairwise_singleton _ _, fun a ha b hb => ?_⟩, h.sublist (List.drop_sublist _ _), fun a ha b hb => ?_⟩
 ·
  rw [a0e] at hb; subst hb; exact hlt a ha
 have hn : n < b := by
  have E := hge b hb
  rcases Int.lt_or_eq_of_le E with z | z
  ·
   exact z
  exfalso
  obtain ⟨i, hi, rfl⟩ := a0D.1 hb
  rw [a0F] at hi
  rw [List.getElem_drop] at z
  apply hc
  refine ⟨by omega, ?_⟩
  have A := pre_at (l := l) (n := n) (by omega)
  rw [a01, a03 (show gL l n < l.length by omega)] at A ⊢
  simp only [a0Q] at A ⊢
  rcases a1o i with rfl | hp
  ·
   simpa using z.symm
  have := (a1C.1 h) (gL l n) (gL l n + i) (by omega) (by omega) (by omega)
  omega
 rcases a09.1 ha with ha | ha
 ·
  have := hlt a ha; omega
 rw [a0e] at ha; subst ha; exact hn
theorem iW {l : List Int} {n x : Int} : x ∈ cY l n ↔ x = n ∨ x ∈ l := by
 unfold cY
 split
 ·
  rename_i h
  constructor
  ·
   exact .inr
  rintro (rfl | z)
  ·
   rw [← h.2, a01, a03 h.1]; exact a1l h.1
  exact z
 rw [a09, a09, a0e]
 constructor
 ·
  rintro ((h | h) | h)
  ·
   exact .inr (a0d h)
  ·
   exact .inl h
  exact .inr (a21 h)
 rintro (h | h)
 ·
  exact .inl (.inr h)
 rw [← a1v (gL l n) l] at h
 rcases a09.1 h with h | h
 ·
  exact .inl (.inl h)
 exact .inr h
theorem uni_asc {l : List Int} : ∀ {a : List Int}, Asc a → Asc (cR a l) := by
 induction l with
 | nil => exact fun h => h
 | cons x l ih => exact fun h => ih (ins_asc h)
theorem uni_mem {l : List Int} {x : Int} : ∀ {a : List Int}, x ∈ cR a l ↔ x ∈ a ∨ x ∈ l := by
 induction l with
 | nil => intro a; simp [cR]
 | cons y l ih =>
  intro a
  have : cR a (y :: l) = cR (cY a y) l := rfl
  rw [this, ih, iW, a0r]
  constructor
  ·
   rintro ((h | h) | h)
   ·
    exact .inr (.inl h)
   ·
    exact .inl h
   exact .inr (.inr h)
  rintro (h | h | h)
  ·
   exact .inl (.inr h)
  ·
   exact .inl (.inl h)
  exact .inr h
theorem er {l : List Int} : ∀ {a : List Int}, (cR a l).length ≤ a.length + l.length := by
 induction l with
 | nil => intro a; exact a08 _
 | cons y l ih =>
  intro a
  have z := ih (a := cY a y)
  have A := ins_len (l := a) (n := y)
  have : cR a (y :: l) = cR (cY a y) l := rfl
  rw [this, a0a]; omega
theorem uni_snoc {a l : List Int} {x : Int} : cR a (l ++ [x]) = cY (cR a l) x := by unfold cR; rw [List.foldl_append]; rfl
theorem uni_app {a l m : List Int} : cR a (l ++ m) = cR (cR a l) m := by unfold cR; rw [List.foldl_append]
theorem bo {α : Type} {d : α} {l : List α} {i : Nat} (h : i < l.length) : l.take (i + 1) = l.take i ++ [l.getD i d] := by
 rw [List.take_add_one, a03 h, a01, a03 h]; rfl
theorem hO {a l o : List Int} {i : Nat} (h : i < l.length) (ho : o = cR a (l.take i)) : cY o (l.getD i 0) = cR a (l.take (i + 1)) := by rw [bo h (d := 0), uni_snoc, ho]
theorem uni_all {a l o : List Int} {i : Nat} (h : l.length ≤ i) (ho : o = cR a (l.take i)) : o = cR a l := by rw [ho, a0h h]
theorem pre_eqR {l : List Int} {n : Int} {k : Nat} (ha : Asc l) (hk : k ≤ l.length) (A : ∀ j, k ≤ j → j < l.length → n ≤ l.getD j 0) (E : 0 < k → l.getD (k - 1) 0 < n) : k = gL l n := by
 refine pre_eq hk (fun j hj => ?_) (fun hk' => by have := A k (a08 _) hk'; omega)
 have J := E (by omega)
 rcases a0k j (k - 1) with z | z
 ·
  have := asc_at ha z (by omega); omega
 have : j = k - 1 := by omega
 subst this; exact J
theorem ge_step {l : List Int} {n : Int} {k : Nat} (h : ∀ j, k ≤ j → j < l.length → n ≤ l.getD j 0) (A : n ≤ l.getD (k - 1) 0) : ∀ j, k - 1 ≤ j → j < l.length → n ≤ l.getD j 0 := fun j N E => by
 rcases a0k j k with z | z
 ·
  have J : j = k - 1 := by omega
  subst J; exact A
 exact h j z E
theorem cp_ins {l : List Int} {n : Int} {k : Nat} (hk : k = gL l n) (hle : k ≤ l.length) (h : ¬ (k < l.length ∧ l.getD k 0 = n)) : (cpL (l ++ [0]) (k + 1) ((l ++ [0]).drop k)).set k n = cY l n := by
 have e : cpL (l ++ [0]) (k + 1) ((l ++ [0]).drop k) = (l ++ [0]).take (k + 1) ++ l.drop k := by
  unfold cpL
  have A : ((l ++ [0]).drop k).length = l.length + 1 - k := by simp
  have z : (l ++ [(0 : Int)]).length = l.length + 1 := by simp
  rw [A, z, show min (l.length + 1 - k) (l.length + 1 - (k + 1)) = l.length - k by omega, show k + 1 + (l.length - k) = l.length + 1 by omega]
  rw [show List.drop (l.length + 1) (l ++ [(0 : Int)]) = [] from a1P (by rw [z]; exact a08 _), a0E]
  congr 1
  rw [List.drop_append, a1W, a0F, show l.length + 1 - (k + 1) = l.length - k by omega, a1G, a2b, a0E, a0h (by rw [a0F]; omega)]
 rw [e, ← ins_new hk h, a0n, List.take_add_one]
 rw [List.set_append]
 have E : (List.take k (l ++ [0])) = l.take k := by rw [a1W, Nat.sub_eq_zero_of_le hle, a2b, a0E]
 have J : (l ++ [(0 : Int)])[k]?.toList = [(l ++ [(0 : Int)]).getD k 0] := by
  rw [a01, a03 (show k < (l ++ [(0 : Int)]).length by simp; omega)]; rfl
 rw [E, J]
 have N : (List.take k l ++ [(l ++ [(0 : Int)]).getD k 0]).length = k + 1 := by simp; omega
 rw [if_pos (by rw [N]; omega), List.set_append, if_neg (by rw [a0q]; omega), a0q, show k - min k l.length = 0 by omega]
 simp
def jA (v : VInT) : List Int := (if (aM v.i.op).ra then [v.i.a] else []) ++ ((if (aM v.i.op).rb then [v.i.b] else []) ++ ((if v.i.op = 11 ∨ v.i.op = 12 then [v.i.c] else []) ++ (if v.i.op = 6 then v.args else [])))
def aw (v : VInT) : List Int := if alV v.i.op then cR [] (jA v) else []
def ab (v : VInT) : List Int := if alV v.i.op = true ∧ ((aM v.i.op).wa = true ∨ v.i.op = 6 ∨ v.i.op = 38) then [v.i.a] else []
def aW (b : BlkT) : List Int := if b.fin = 1 then [b.tgt] else if b.fin = 2 then cY [b.tgt] b.els else []
def df (b : BlkT) : List Int := if b.fin = 2 ∨ b.fin = 3 then [b.reg] else []
theorem reads_no {v : VInT} (h : alV v.i.op = false) : [] = aw v := by unfold aw; rw [h]; rfl
theorem reads_yes {v : VInT} {l : List Int} (h : alV v.i.op = true) (hl : l = jA v) : cR [] l = aw v := by unfold aw; rw [h, hl]; rfl
theorem rrT {l : List Int} {a : Int} {p : Prop} [Decidable p] (h : p) : cY l a = cR l (if p then [a] else []) := by rw [if_pos h]; rfl
theorem rrF {l : List Int} {a : Int} {p : Prop} [Decidable p] (h : ¬ p) : l = cR l (if p then [a] else []) := by rw [if_neg h]; rfl
theorem vra {op : Int} : (aJ op).ra = (aM op).ra := by unfold aJ; split <;> first | rfl | (rename_i h; subst h; rfl)
theorem vrb {op : Int} : (aJ op).rb = (aM op).rb := by unfold aJ; split <;> first | rfl | (rename_i h; subst h; rfl)
theorem vf4 {op : Int} (h : alV op = true) : (aJ op).form = 4 ↔ op = 11 ∨ op = 12 := by
 unfold alV at h
 have h := of_decide_eq_true h
 by_cases z : op = 38
 ·
  subst z; decide
 have e : aJ op = aM op := by unfold aJ; rw [if_neg z]
 rw [e]
 obtain ⟨k, hk⟩ := ex37 (op := op) ⟨by omega, by omega⟩
 rw [hk]; clear hk; revert k; decide +kernel
theorem rr_end {v : VInT} {A E J N : List Int} {k : Nat} (hal : alV v.i.op = true) (T : A = cR [] (if (aM v.i.op).ra = true then [v.i.a] else [])) (U : E = cR A (if (aM v.i.op).rb = true then [v.i.b] else [])) (V : J = cR E (if v.i.op = 11 ∨ v.i.op = 12 then [v.i.c] else []))
  (Y : N = cR J (v.args.take k)) (Z : k = 0 ∨ v.i.op = 6) (h : v.i.op = 6 → v.args.length ≤ k) : N = aw v := by
 have e : v.args.take k = if v.i.op = 6 then v.args else [] := by
  by_cases z : v.i.op = 6
  ·
   rw [if_pos z, a0h (h z)]
  rw [if_neg z]
  have : k = 0 := by omega
  subst this; rfl
 unfold aw jA
 rw [if_pos hal, uni_app, uni_app, uni_app, ← T, ← U, ← V, ← e, ← Y]
theorem dX {a : Int} {p : Prop} [Decidable p] : (if p then [a] else []).length ≤ 1 := by split <;> simp
theorem rr_len {v : VInT} {z A E J : List Int} {k : Nat} (V : z = cR [] (if (aM v.i.op).ra = true then [v.i.a] else [])) (Y : A = cR z (if (aM v.i.op).rb = true then [v.i.b] else [])) (Z : E = cR A (if v.i.op = 11 ∨ v.i.op = 12 then [v.i.c] else []))
  (q4 : J = cR E (v.args.take k)) : J.length ≤ 3 + v.args.length := by
 have N : z.length ≤ 1 := by rw [V]; exact a0b er (by simpa using dX)
 have T : A.length ≤ 2 := by rw [Y]; exact a0b er (a1D N dX)
 have U : E.length ≤ 3 := by rw [Z]; exact a0b er (a1D T dX)
 rw [q4]; exact a0b er (a1D U (by rw [a0q]; omega))
theorem rr_len1 {v : VInT} {z : List Int} (A : z = cR [] (if (aM v.i.op).ra = true then [v.i.a] else [])) : z.length ≤ 1 := by rw [A]; exact a0b er (by simpa using dX)
theorem rr_len2 {v : VInT} {z A : List Int} (E : z.length ≤ 1) (J : A = cR z (if (aM v.i.op).rb = true then [v.i.b] else [])) : A.length ≤ 2 := by rw [J]; exact a0b er (a1D E dX)
theorem writes_no {v : VInT} (h : alV v.i.op = false) : [] = ab v := by unfold ab; rw [if_neg (by simp [h])]
theorem js {v : VInT} (h : alV v.i.op = true) (z : (aM v.i.op).wa = true ∨ v.i.op = 6 ∨ v.i.op = 38) : [v.i.a] = ab v := by unfold ab; rw [if_pos ⟨h, z⟩]
theorem writes_not {v : VInT} (h : ¬ ((aM v.i.op).wa = true ∨ v.i.op = 6 ∨ v.i.op = 38)) : [] = ab v := by unfold ab; rw [if_neg fun hh => h hh.2]
theorem vwa {op : Int} : ((aJ op).wa = true) ↔ ((aM op).wa = true ∨ op = 38) := by
 unfold aJ
 split
 ·
  rename_i h; subst h; simp
 rename_i h; constructor
 ·
  exact .inl
 rintro (z | z)
 ·
  exact z
 exact absurd z h
theorem rwr_yes {v : VInT} (h : alV v.i.op = true ∧ ((aJ v.i.op).wa = true ∨ v.i.op = 6)) : [v.i.a] = ab v := js h.1 (by have := vwa (op := v.i.op); rcases h.2 with z | z; (rcases this.1 z with A | A); exact .inl A; exact .inr (.inr A); exact .inr (.inl z))
theorem rwr_no {v : VInT} (h : alV v.i.op = true → (aJ v.i.op).wa = false ∧ v.i.op ≠ 6) : [] = ab v := by
 unfold ab
 rw [if_neg]
 rintro ⟨E, z⟩
 obtain ⟨A, J⟩ := h E
 have := vwa (op := v.i.op)
 rcases z with z | z | z
 ·
  rw [this.2 (.inl z)] at A; cases A
 ·
  exact J z
 rw [this.2 (.inr z)] at A; cases A
theorem succ1 {b : BlkT} (h : b.fin = 1) : [b.tgt] = aW b := by unfold aW; rw [if_pos h]
theorem succ2 {b : BlkT} (h : b.fin = 2) : aW b = cY [b.tgt] b.els := by unfold aW; rw [if_neg (by omega), if_pos h]
theorem succ0 {b : BlkT} (h : b.fin ≠ 1 ∧ b.fin ≠ 2) : [] = aW b := by unfold aW; rw [if_neg h.1, if_neg h.2]
theorem ic {a b o : List Int} {i : Nat} (h : i < a.length) (ho : o = jk (a.take i) b) : (gc b (a.getD i 0) = false → o ++ [a.getD i 0] = jk (a.take (i + 1)) b) ∧ (gc b (a.getD i 0) = true → o = jk (a.take (i + 1)) b) := by
 unfold jk at ho ⊢
 rw [bo h (d := 0), List.filter_append, ← ho]
 constructor
 ·
  intro hc; rw [a1E, hc]; rfl
 intro hc; rw [a1E, hc]; simp
theorem min_len {a b : List Int} : (jk a b).length ≤ a.length := a1U _ _
set_option maxHeartbeats 1000000 in
theorem unique_c {a_l : Option Addr} {k_l : Nat} (l : List Int) (hs : HS (.of H []) F H [] R) (hl : SR F (.slice a_l l.length k_l) l) (hT : TB 37 tabC F) (hlen : l.length ≤ 1048600) : kKt ex 101 [(.slice a_l l.length k_l)] H fun v H' => ∃ (ar : Option Addr) (kr : Nat) (r : List Int) (p : Fp) (F' : Fz), Fz.le F F' ∧ HS (.of H []) F' H' [p] R ∧ v = .slice ar r.length kr ∧ OS F' (.slice ar r.length kr) r p ∧ r = cR [] l := by
 refine aI Tryd.func101 rfl rfl (ah 1 rfl (wT 2 [] 2 2 [] [(2, (.slice none 0 0))] rfl fun _ => wT 3 [] 1 0 [3] [(3, (.slice none 0 0))] rfl fun _ => wT 2 [] 7 9 [] [(7, (.slice a_l l.length k_l)), (8, (iI (l.length : Int))), (9, (iI 0))] rfl fun _ => ?_))
 have a9 := HS.snoc hs
 have a9 : HS _ _ _ [[]] _ := a9
 refine aj (fun (mm : Nat) f H' => ∃ (ow : List Int) (i : Nat) (z : Option Addr) (A : Nat) (J : Fp) (F' : Fz), Fz.le F F' ∧ HS (Base.of H []) F' H' [J] R ∧ OS F' (.slice z ow.length A) ow J ∧ aD f [(3, (.slice z ow.length A)), (7, (.slice a_l l.length k_l)), (8, (iI (l.length : Int))), (9, (iI (i : Int)))] ∧ mm = l.length - i ∧ (i ≤ l.length) ∧ (ow = cR [] (l.take i))) _ ⟨([] : List Int), 0, none, 0, [], _, fR, a9, (OS.nil : OS _ (.slice none 0 0) ([] : List Int) []), ⟨rfl, rfl, rfl, rfl, trivial⟩, rfl, (by omega), (by rfl)⟩ ?_
 rintro fi f4 H4 ⟨ow, i, z, A, J, F4, a2, T, E, b2, rfl, h1, h2⟩ b4
 refine au _ b2 (fun _ => ?_)
 clear b2
 replace hl := hl.mono a2
 have hasc : Asc ow := h2 ▸ uni_asc List.Pairwise.nil
 have hle : ow.length ≤ i := by rw [h2]; exact a0b er (by simp; omega)
 refine ah 1 rfl (wT 2 [] 10 10 [] [(10, (.bool (decide ((i : Int) < (l.length : Int)))))] rfl fun _ => am 4 5 (v := (decide ((i : Int) < (l.length : Int)))) rfl rfl rfl rfl (fun a5 => ?_) (fun a5 => ?_))
 ·
  have c7 := a5
  try simp only [BS] at c7
  obtain ⟨e1, b3⟩ := Sv.view (SR.sv hl T)
  have g9 := fI (b3 i)
  refine wR 2 [(1, .o (iI (l.getD i 0)))] 11 12 [5] [(5, (iI (l.getD i 0)))] (vA (Sv.ix (j := (i : Int)) (SR.sv hl T) (by omega) (by omega)) (vA (ql 3 0 (vI (b3 i) (by omega)) rfl rfl) trivial)) rfl fun _ => wT 3 [] 13 14 [6] [(6, (iI (ow.length : Int)))] rfl fun _ => aj (fun (mm : Nat) f H' => ∃ (k : Nat), H' = H4 ∧ aD f [(3, (.slice z ow.length A)), (5, (iI (l.getD i 0))), (6, (iI (k : Int))), (7, (.slice a_l l.length k_l)), (8, (iI (l.length : Int))), (9, (iI (i : Int)))] ∧ mm = k + 1 ∧ (k ≤ ow.length) ∧ (∀ j, k ≤ j → j < ow.length → l.getD i 0 ≤ ow.getD j 0)) _ ⟨ow.length, rfl, ⟨rfl, rfl, rfl, rfl, rfl, rfl, trivial⟩, rfl, (by omega), (by intro j h5 h6; omega)⟩ ?_
  rintro ea e2 H4 ⟨k, rfl, a7, rfl, h3, h4⟩ c0
  refine au _ a7 (fun _ => ?_)
  clear a7
  refine ah 2 rfl ?_
  obtain ⟨d1, bb⟩ := Sv.view (OS.sv E T (i := 0) rfl)
  have e3 := fI (bb (k - 1))
  refine wR 1 [(5, .e ((k - 1 : Nat) : Int)), (7, .o (iI (ow.getD (k - 1) 0)))] 15 25 [] [(25, (.bool ((decide ((0 : Int) < (k : Int))) && (decide ((l.getD i 0) ≤ (ow.getD (k - 1) 0))))))] (vA (fun (Y : (decide ((0 : Int) < (k : Int))) = true) => (ve (n := (k : Int) - 1) (m := ((k - 1 : Nat) : Int)) (by (try simp only [BS] at Y); omega) (by (try simp only [BS] at Y); omega))) (vA (fun (Y : (decide ((0 : Int) < (k : Int))) = true) => (Sv.ix (j := ((k - 1 : Nat) : Int)) (OS.sv E T (i := 0) rfl) (by (try simp only [BS] at Y); omega) (by (try simp only [BS] at Y); omega))) (vA (fun (Y : (decide ((0 : Int) < (k : Int))) = true) => (ql 3 0 (vI (bb (k - 1)) (by (try simp only [BS] at Y); omega)) rfl rfl)) trivial))) rfl fun _ => am 2 6 (v := ((decide ((0 : Int) < (k : Int))) && (decide ((l.getD i 0) ≤ (ow.getD (k - 1) 0))))) rfl rfl rfl rfl (fun an => ?_) (fun an => ?_)
  ·
   have a3 := an
   try simp only [BS] at a3
   refine wU 2 [(1, .e ((k - 1 : Nat) : Int))] 26 27 [6] [(6, (iI ((k - 1 : Nat) : Int)))] (ve (n := (k : Int) - 1) (m := ((k - 1 : Nat) : Int)) (by omega) (by omega)) rfl fun _ => c0 _ _ _ ?_ ⟨k - 1, rfl, ⟨rfl, rfl, rfl, rfl, rfl, rfl, trivial⟩, rfl, (by omega), (ge_step h4 (by omega))⟩
   omega
  have a3 := an
  try simp only [BS] at a3
  have hk := pre_eqR hasc h3 h4 (by omega)
  obtain ⟨d2, bk⟩ := Sv.view (OS.sv E T (i := 0) rfl)
  have e4 := fI (bk k)
  refine wR 1 [(8, .o (iI (ow.getD k 0)))] 28 39 [] [(39, (.bool ((decide ((k : Int) < (ow.length : Int))) && ((ow.getD k 0) == (l.getD i 0)))))] (vA (fun (Y : (decide ((k : Int) < (ow.length : Int))) = true) => (Sv.ix (j := (k : Int)) (OS.sv E T (i := 0) rfl) (by (try simp only [BS] at Y); omega) (by (try simp only [BS] at Y); omega))) (vA (fun (Y : (decide ((k : Int) < (ow.length : Int))) = true) => (ql 3 0 (vI (bk k) (by (try simp only [BS] at Y); omega)) rfl rfl)) trivial)) rfl fun _ => am 3 2 (v := ((decide ((k : Int) < (ow.length : Int))) && ((ow.getD k 0) == (l.getD i 0)))) rfl rfl rfl rfl (fun av => ?_) (fun av => ?_)
  ·
   have a4 := av
   try simp only [BS] at a4
   refine wU 1 [] 9 9 [55] [(9, (iI ((i : Int) + 1)))] (vi (n := (i : Int) + 1) (by omega)) rfl fun _ => b4 _ _ _ ?_ ⟨ow, i + 1, z, A, J, _, (a2), T, E, ⟨rfl, rfl, rfl, rfl, trivial⟩, rfl, (by omega), (by (rw [← hO (by omega) h2]; exact kh hk (by omega) (by omega)))⟩
   omega
  have a4 := av
  try simp only [BS] at a4
  refine aa (wm (.slice z ow.length A) rfl rfl rfl (aH (bu (α := Int) (ps := [(0, (iI 0))]) (cells := [(iI 0)]) ([0] : List Int) T rfl rfl rfl (by kernel_rfl) ⟨[(iI 0)], [], rfl, ⟨rfl, by omega⟩, rfl⟩ rfl) rfl rfl ?_))
  rintro _ em dl ⟨et, e5, rfl, ci, (a8 : HS _ _ _ [J, dl] _), _⟩
  refine aH (bC (α := Int) (q := 0) E a8 rfl rfl rfl (OS.sv ci a8 (i := 1) rfl) rfl rfl rfl rfl rfl rfl rfl (by (simp only [a06, a0a, a0g]; omega))) rfl rfl ?_
  rintro _ c6 b6 ⟨U, V, rfl, ax, (a0 : HS _ _ _ [b6, _] _), _⟩
  refine wa (.slice U (ow ++ ([0] : List Int)).length V) rfl rfl rfl (ae 2 rfl ?_)
  have la : (ow ++ ([0] : List Int)).length = ow.length + 1 := by simp
  refine aY rfl (fm (.slice U (ow ++ ([0] : List Int)).length V) rfl rfl rfl (fm (iI (k : Int)) rfl rfl rfl (wfv (v := (iI ((k : Int) + 1))) (ap_add rfl rfl (w_i64 (n := (k : Int) + 1) (by omega))) (cg (id := .r) (rs_cutX (α := Int) (i := k + 1) ax a0.log0 (q := 0) rfl rfl rfl rfl (optN (by omega)) (by omega)) rfl rfl (by rintro _ _ _ ⟨_, _, _, hH, _⟩; simp only at hH; subst hH; exact did_r fun b hb => absurd hb a0f) (kb rfl) ?_))))
  rintro _ _ _ ⟨ez, e6, rfl, Z, d4, bl⟩ c3 bz
  simp only at Z; replace Z := Z.symm; subst Z
  have al := HS.lg a0.log0 a0 bz
  generalize ({ { c6 with log := [] } with log := c3 } : Heap) = cc at al ⊢
  refine fm (.slice U (ow ++ ([0] : List Int)).length V) rfl rfl rfl (fm (iI (k : Int)) rfl rfl rfl (cg (id := .r) (rs_cutX (α := Int) (i := k) ax al.log0 (q := 0) rfl rfl rfl rfl (optN (by omega)) (by omega)) rfl rfl (by rintro _ _ _ ⟨_, _, _, hH, _⟩; simp only at hH; subst hH; exact did_r fun b hb => absurd hb a0f) (kb rfl) ?_))
  rintro _ _ _ ⟨e0, fd, rfl, ad, cl, dn⟩ c4 b0
  simp only at ad; replace ad := ad.symm; subst ad
  have a1 := HS.lg al.log0 al b0
  generalize ({ { cc with log := [] } with log := c4 } : Heap) = dt at a1 ⊢
  refine cg (id := .x (b6.map Prod.fst)) (rs_cp (α := Int) (i := k + 1) ax a1.log0 (q := 0) rfl rfl bl (by omega) cl rfl rfl rfl) rfl rfl (by rintro _ _ b7 ⟨rfl, ag, _, hwr⟩; exact cz rfl rfl (Wr.did hwr)) (kb rfl) ?_
  rintro _ c8 b7 ⟨rfl, ag, N, _⟩ c5 b1
  replace N := HS.lg N a1 b1
  generalize ({ c8 with log := c5 } : Heap) = dv at N ⊢
  have N : HS _ _ _ [b7, _] _ := N
  have d3 := OS.len' ag
  refine cu (ah 1 rfl (aa (wUo 4 0 [] 51 54 [] [(53, (iI (l.getD i 0))), (54, (.pointer (some ⟨sB (.slice U (ow ++ ([0] : List Int)).length V), sO (.slice U (ow ++ ([0] : List Int)).length V) + k * Rp.sz Int, none⟩)))] (Sv.ix (j := (k : Int)) (OS.sv ag N (i := 0) rfl) (by omega) (by omega)) rfl fun _ => aL (bY (α := Int) (j := k) (off := 0) (q := 0) (l.getD i 0) ag N rfl rfl rfl rfl rfl rfl rfl rfl (aK (x := (0 : Int)) (by omega)) rfl (by rintro cs ⟨rfl, _⟩; exact ⟨a04 rfl, rfl, by omega⟩)) rfl ?_)))
  rintro _ es b9 ⟨ay, (co : HS _ _ _ [b9, _] _), _⟩
  have ds := OS.len' ay
  refine ae 2 rfl (wU 1 [] 9 9 [55] [(9, (iI ((i : Int) + 1)))] (vi (n := (i : Int) + 1) (by omega)) rfl fun _ => b4 _ _ _ ?_ ⟨(cpL (ow ++ ([0] : List Int)) (k + 1) ((ow ++ ([0] : List Int)).drop k)).set k (l.getD i 0), i + 1, U, V, b9, _, (a2), (HS.sub co (a05 _ _)), (OS.norm ay), (agC (show Value.slice U (ow ++ ([0] : List Int)).length V = Value.slice U ((cpL (ow ++ ([0] : List Int)) (k + 1) ((ow ++ ([0] : List Int)).drop k)).set k (l.getD i 0)).length V by rw [OS.len' ay]) ⟨rfl, rfl, rfl, trivial⟩), rfl, (by omega), (by (rw [cp_ins hk h3 (by omega)]; exact hO (by omega) h2))⟩)
  omega
 have c7 := a5
 try simp only [BS] at c7
 refine wT 1 [] 2 2 [56] [(2, (.slice z ow.length A))] rfl fun _ => ak ⟨.inr rfl, _, rfl, z, A, ow, J, _, (a2), (HS.only T (i := 0) rfl), rfl, E, (uni_all (by omega) h2)⟩
set_option maxHeartbeats 1000000 in
theorem jY {Z : Option Addr} {ad : Nat} (iv : VInT) (hs : HS (.of H []) F H [] R) (hu : in64 iv.i.op) (hv : in64 iv.i.a) (hw : in64 iv.i.b) (hz : in64 iv.i.c) (hA : in64 iv.i.n) (z : SR F (.slice Z iv.args.length ad) iv.args) (hT : TB 37 tabC F) (hlen : iv.args.length ≤ 1048576) : kKt ex 57 [(.agg ⟨[(iI iv.i.op), (iI iv.i.a), (iI iv.i.b), (iI iv.i.c), (iI iv.i.n), (.slice Z iv.args.length ad)]⟩)] H fun v H' => ∃ (ar : Option Addr) (kr : Nat) (r : List Int) (p : Fp) (F' : Fz), Fz.le F F' ∧ HS (.of H []) F' H' [p] R ∧ v = .slice ar r.length kr ∧ OS F' (.slice ar r.length kr) r p ∧ r = aw iv := by
 refine aI Tryd.func57 rfl rfl (ah 1 rfl (aa (aH (bw hs rfl rfl) rfl rfl ?_)))
 rintro _ H2 _ ⟨b1, rfl, (a7 : HS _ _ _ [[(b1, .cells [(iI iv.i.op), (iI iv.i.a), (iI iv.i.b), (iI iv.i.c), (iI iv.i.n), (.slice Z iv.args.length ad)] none false)]] _), _⟩
 refine wa (.slice none 0 0) rfl rfl rfl (ae 3 rfl (wR 1 [(2, .o (iI iv.i.op)), (3, .o (.bool (alV iv.i.op)))] 6 10 [] [(10, (.bool (!(alV iv.i.op))))] (vA (ql 3 0 (HS.hc a7 (i := 0) rfl) rfl rfl) (vA (m1.j3 ex iv.i.op H2) trivial)) rfl fun _ => am 1 2 (v := (!(alV iv.i.op))) rfl rfl rfl rfl (fun c7 => ?_) (fun c7 => ?_)))
 ·
  have c4 := c7
  try simp only [BS] at c4
  refine wT 1 [] 2 2 [] [(2, (.slice none 0 0))] rfl fun _ => ak ⟨.inr rfl, _, rfl, none, 0, ([] : List Int), [], _, fR, (HS.cons (HS.forget a7)), rfl, (OS.nil : OS _ _ _ []), (reads_no (by assumption))⟩
 have c4 := c7
 try simp only [BS] at c4
 refine aa (wUo 3 0 [(2, .o (iI iv.i.op))] 12 14 [] [(14, (iI iv.i.op))] (ql 3 0 (HS.hc a7 (i := 0) rfl) rfl rfl) rfl fun _ => az (ap rfl rfl rfl) rfl rfl (m1.mInfo_c ex iv.i.op (HS.call a7) (by omega) hT) ?_)
 rintro _ H7 ⟨x7, o7, F7, dd, d3, rfl, hg, hj, rfl, rfl⟩
 replace d3 : HS _ _ _ [_] _ := HS.back a7 rfl d3
 replace hT := hT.mono dd
 replace z := z.mono dd
 refine wTo 3 4 [] 16 17 [11] [(16, (.agg ⟨[(.string ⟨⟨(aM iv.i.op).name.b⟩⟩), (iI (aM iv.i.op).form), (.bool (aM iv.i.op).ra), (.bool (aM iv.i.op).wa), (.bool (aM iv.i.op).rb), (.bool (aM iv.i.op).mt), (iI (aM iv.i.op).words)]⟩)), (17, (.bool (infO iv.i.op)))] rfl fun _ => aH (bp d3 rfl) rfl rfl ?_
 rintro _ hI _ ⟨b9, rfl, (g4 : HS _ _ _ [_, [(b9, .cells [(.string ⟨⟨[]⟩⟩), (iI 0), (.bool false), (.bool false), (.bool false), (.bool false), (iI 0)] none false)]] _), _⟩
 refine aL (aE (q := 1) g4 rfl rfl rfl rfl rfl rfl rfl rfl rfl) rfl ?_
 rintro _ hK _ ⟨(dt : HS _ _ _ [_, [(b9, .cells [(.string ⟨⟨(aM iv.i.op).name.b⟩⟩), (iI (aM iv.i.op).form), (.bool (aM iv.i.op).ra), (.bool (aM iv.i.op).wa), (.bool (aM iv.i.op).rb), (.bool (aM iv.i.op).mt), (iI (aM iv.i.op).words)] none false)]] _), _⟩
 refine wa (.bool (infO iv.i.op)) rfl rfl rfl (ae 2 rfl (wT 3 [] 1 0 [5] [(5, (.slice none 0 0))] rfl fun _ => wU 1 [(1, .o (.bool (aM iv.i.op).ra))] 18 19 [] [(19, (.bool (aM iv.i.op).ra))] (ql 4 2 (HS.hc dt (i := 1) rfl) rfl rfl) rfl fun _ => ?_))
 have av := HS.snoc dt
 have av : HS _ _ _ [_, _, []] _ := av
 let cc : Fp := [(b1, .cells [(iI iv.i.op), (iI iv.i.a), (iI iv.i.b), (iI iv.i.c), (iI iv.i.n), (.slice Z iv.args.length ad)] none false)]
 let ch : Fp := [(b9, .cells [(.string ⟨⟨(aM iv.i.op).name.b⟩⟩), (iI (aM iv.i.op).form), (.bool (aM iv.i.op).ra), (.bool (aM iv.i.op).wa), (.bool (aM iv.i.op).rb), (.bool (aM iv.i.op).mt), (iI (aM iv.i.op).words)] none false)]
 refine bN (fun f H' => ∃ (l1 : List Int) (A : Option Addr) (N : Nat) (V : Fp) (F' : Fz), Fz.le F7 F' ∧ HS (Base.of H []) F' H' [cc, ch, V] R ∧ OS F' (.slice A l1.length N) l1 V ∧ aD f [(1, (.pointer (some ⟨b1, 0, none⟩))), (3, (.pointer (some ⟨b9, 0, none⟩))), (5, (.slice A l1.length N))] ∧ (l1 = if (aM iv.i.op).ra = true then [iv.i.a] else [])) (fun d4 => ?_) ?_
 ·
  refine am 0 0 (v := (aM iv.i.op).ra) rfl rfl rfl rfl (fun bk => ?_) (fun bk => ?_)
  ·
   have c0 := bk
   try simp only [BS] at c0
   refine aa (wUo 4 0 [(3, .o (iI iv.i.a))] 20 23 [] [(20, (.slice none 0 0)), (23, (iI iv.i.a))] (ql 3 1 (HS.hc av (i := 0) rfl) rfl rfl) rfl fun _ => aH (bu (α := Int) (ps := [(0, (iI iv.i.a))]) (cells := [(iI iv.i.a)]) ([iv.i.a] : List Int) av rfl rfl rfl (by kernel_rfl) ⟨[(iI iv.i.a)], [], rfl, ⟨rfl, by omega⟩, rfl⟩ rfl) rfl rfl ?_)
   rintro _ hQ hk ⟨h5, ii, rfl, f7, (dv : HS _ _ _ [_, _, _, hk] _), _⟩
   refine aH (bC (α := Int) (q := 2) (OS.nil : OS _ (.slice none 0 0) ([] : List Int) []) dv rfl rfl rfl (OS.sv f7 dv (i := 3) rfl) rfl rfl rfl rfl rfl rfl rfl (by (simp only [a06, a0a, a0g]; omega))) rfl rfl ?_
   rintro _ hR e1 ⟨ci, et, rfl, b6, (g5 : HS _ _ _ [_, _, e1, _] _), _⟩
   have b6 : OS F7 (.slice ci ([iv.i.a] : List Int).length et) ([iv.i.a] : List Int) e1 := b6
   refine wa (.slice ci ([iv.i.a] : List Int).length et) rfl rfl rfl (ae 0 rfl ?_)
   exact d4 _ _ ⟨([iv.i.a] : List Int), ci, et, e1, _, fR, (HS.sub g5 (a05 _ _)), b6, ⟨rfl, rfl, rfl, trivial⟩, (by (rw [if_pos (by first | assumption | omega)]; done))⟩
  have c0 := bk
  try simp only [BS] at c0
  exact d4 _ _ ⟨([] : List Int), none, 0, [], _, fR, av, (OS.nil : OS _ (.slice none 0 0) ([] : List Int) []), ⟨rfl, rfl, rfl, trivial⟩, (by (rw [if_neg (by first | omega | (intro hh; simp_all; done))]; done))⟩
 skip
 rintro h8 hM ⟨l1, A, N, V, ha, b2, a5, a8, dk, q1⟩
 refine au _ dk (fun _ => ?_)
 clear dk
 replace hT := hT.mono b2
 replace z := z.mono b2
 have n1 : l1.length ≤ 1 := by rw [q1]; exact dX
 refine ah 3 rfl (wU 1 [(1, .o (.bool (aM iv.i.op).rb))] 26 27 [] [(27, (.bool (aM iv.i.op).rb))] (ql 4 4 (HS.hc a5 (i := 1) rfl) rfl rfl) rfl fun _ => bN (fun f H' => ∃ (l2 : List Int) (E : Option Addr) (T : Nat) (Y : Fp) (F' : Fz), Fz.le ha F' ∧ HS (Base.of H []) F' H' [cc, ch, Y] R ∧ OS F' (.slice E l2.length T) l2 Y ∧ aD f [(1, (.pointer (some ⟨b1, 0, none⟩))), (5, (.slice E l2.length T))] ∧ (l2 = l1 ++ if (aM iv.i.op).rb = true then [iv.i.b] else [])) (fun ea => ?_) ?_)
 ·
  refine am 0 0 (v := (aM iv.i.op).rb) rfl rfl rfl rfl (fun bl => ?_) (fun bl => ?_)
  ·
   have c3 := bl
   try simp only [BS] at c3
   refine aa (wUo 4 0 [(3, .o (iI iv.i.b))] 28 31 [] [(28, (.slice A l1.length N)), (31, (iI iv.i.b))] (ql 3 2 (HS.hc a5 (i := 0) rfl) rfl rfl) rfl fun _ => aH (bu (α := Int) (ps := [(0, (iI iv.i.b))]) (cells := [(iI iv.i.b)]) ([iv.i.b] : List Int) a5 rfl rfl rfl (by kernel_rfl) ⟨[(iI iv.i.b)], [], rfl, ⟨rfl, by omega⟩, rfl⟩ rfl) rfl rfl ?_)
   rintro _ hV hl ⟨h6, ik, rfl, f8, (d1 : HS _ _ _ [_, _, V, hl] _), _⟩
   refine aH (bC (α := Int) (q := 2) a8 d1 rfl rfl rfl (OS.sv f8 d1 (i := 3) rfl) rfl rfl rfl rfl rfl rfl rfl (by (simp only [a06, a0a, a0g]; omega))) rfl rfl ?_
   rintro _ hW f1 ⟨e4, fd, rfl, f9, (g6 : HS _ _ _ [_, _, f1, _] _), _⟩
   refine wa (.slice e4 (l1 ++ ([iv.i.b] : List Int)).length fd) rfl rfl rfl (ae 0 rfl ?_)
   exact ea _ _ ⟨l1 ++ ([iv.i.b] : List Int), e4, fd, f1, _, fR, (HS.sub g6 (a05 _ _)), f9, ⟨rfl, rfl, trivial⟩, (by (rw [if_pos (by first | assumption | omega)]; done))⟩
  have c3 := bl
  try simp only [BS] at c3
  exact ea _ _ ⟨l1, A, N, V, _, fR, a5, a8, ⟨rfl, rfl, trivial⟩, (by (rw [if_neg (by first | omega | (intro hh; simp_all; done)), a0E]))⟩
 skip
 rintro h9 hS ⟨l2, E, T, Y, hb, b3, ax, a9, dl, q2⟩
 refine au _ dl (fun _ => ?_)
 clear dl
 replace hT := hT.mono b3
 replace z := z.mono b3
 have n2 : l2.length ≤ 2 := by rw [q2, a06]; exact a1D n1 dX
 refine ah 3 rfl (wR 1 [(2, .o (iI iv.i.op)), (7, .o (iI iv.i.op))] 34 43 [] [(43, (.bool ((iv.i.op == 11) || (iv.i.op == 12))))] (vA (ql 3 0 (HS.hc ax (i := 0) rfl) rfl rfl) (vA (fun (g1 : (iv.i.op == 11) = false) => (ql 3 0 (HS.hc ax (i := 0) rfl) rfl rfl)) trivial)) rfl fun _ => bN (fun f H' => ∃ (l3 : List Int) (J : Option Addr) (U : Nat) (an : Fp) (F' : Fz), Fz.le hb F' ∧ HS (Base.of H []) F' H' [cc, ch, an] R ∧ OS F' (.slice J l3.length U) l3 an ∧ aD f [(1, (.pointer (some ⟨b1, 0, none⟩))), (5, (.slice J l3.length U))] ∧ (l3 = l2 ++ if iv.i.op = 11 ∨ iv.i.op = 12 then [iv.i.c] else [])) (fun em => ?_) ?_)
 ·
  refine am 0 0 (v := ((iv.i.op == 11) || (iv.i.op == 12))) rfl rfl rfl rfl (fun bz => ?_) (fun bz => ?_)
  ·
   have c5 := bz
   try simp only [BS] at c5
   refine aa (wUo 4 0 [(3, .o (iI iv.i.c))] 44 47 [] [(44, (.slice E l2.length T)), (47, (iI iv.i.c))] (ql 3 3 (HS.hc ax (i := 0) rfl) rfl rfl) rfl fun _ => aH (bu (α := Int) (ps := [(0, (iI iv.i.c))]) (cells := [(iI iv.i.c)]) ([iv.i.c] : List Int) ax rfl rfl rfl (by kernel_rfl) ⟨[(iI iv.i.c)], [], rfl, ⟨rfl, by omega⟩, rfl⟩ rfl) rfl rfl ?_)
   rintro _ hY hm ⟨h7, il, rfl, go, (d2 : HS _ _ _ [_, _, Y, hm] _), _⟩
   refine aH (bC (α := Int) (q := 2) a9 d2 rfl rfl rfl (OS.sv go d2 (i := 3) rfl) rfl rfl rfl rfl rfl rfl rfl (by (simp only [a06, a0a, a0g]; omega))) rfl rfl ?_
   rintro _ h1 f2 ⟨e5, fi, rfl, g0, (g7 : HS _ _ _ [_, _, f2, _] _), _⟩
   refine wa (.slice e5 (l2 ++ ([iv.i.c] : List Int)).length fi) rfl rfl rfl (ae 0 rfl ?_)
   exact em _ _ ⟨l2 ++ ([iv.i.c] : List Int), e5, fi, f2, _, fR, (HS.sub g7 (a05 _ _)), g0, ⟨rfl, rfl, trivial⟩, (by (rw [if_pos (by first | assumption | omega)]; done))⟩
  have c5 := bz
  try simp only [BS] at c5
  exact em _ _ ⟨l2, E, T, Y, _, fR, ax, a9, ⟨rfl, rfl, trivial⟩, (by (rw [if_neg (by first | omega | (intro hh; simp_all; done)), a0E]))⟩
 skip
 rintro ib hX ⟨l3, J, U, an, he, b4, ay, bb, dn, q3⟩
 refine au _ dn (fun _ => ?_)
 clear dn
 replace hT := hT.mono b4
 replace z := z.mono b4
 have n3 : l3.length ≤ 3 := by rw [q3, a06]; exact a1D n2 dX
 refine ah 3 rfl (wU 1 [(2, .o (iI iv.i.op))] 50 53 [] [(53, (.bool (iv.i.op == 6)))] (ql 3 0 (HS.hc ay (i := 0) rfl) rfl rfl) rfl fun _ => bN (fun f H' => ∃ (l4 : List Int) (ag : Option Addr) (al : Nat) (a3 : Fp) (F' : Fz), Fz.le he F' ∧ HS (Base.of H []) F' H' [cc, ch, a3] R ∧ OS F' (.slice ag l4.length al) l4 a3 ∧ aD f [(5, (.slice ag l4.length al))] ∧ (l4 = l3 ++ if iv.i.op = 6 then iv.args else [])) (fun es => ?_) ?_)
 ·
  refine am 0 0 (v := (iv.i.op == 6)) rfl rfl rfl rfl (fun b0 => ?_) (fun b0 => ?_)
  ·
   have c6 := b0
   try simp only [BS] at c6
   refine aa (wUo 3 0 [(2, .o (.slice Z iv.args.length ad))] 54 56 [] [(54, (.slice J l3.length U)), (56, (.slice Z iv.args.length ad))] (ql 25 5 (HS.hc ay (i := 0) rfl) rfl rfl) rfl fun _ => aH (bC (α := Int) (q := 2) bb ay rfl rfl rfl (SR.sv z ay) rfl rfl rfl rfl rfl rfl rfl (by omega)) rfl rfl ?_)
   rintro _ h3 f3 ⟨e6, f0, rfl, g2, (g9 : HS _ _ _ [_, _, f3] _), _⟩
   refine wa (.slice e6 (l3 ++ iv.args).length f0) rfl rfl rfl (ae 0 rfl ?_)
   exact es _ _ ⟨l3 ++ iv.args, e6, f0, f3, _, fR, g9, g2, ⟨rfl, trivial⟩, (by (rw [if_pos (by first | assumption | omega)]; done))⟩
  have c6 := b0
  try simp only [BS] at c6
  exact es _ _ ⟨l3, J, U, an, _, fR, ay, bb, ⟨rfl, trivial⟩, (by (rw [if_neg (by first | omega | (intro hh; simp_all; done)), a0E]))⟩
 skip
 rintro ih h2 ⟨l4, ag, al, a3, hF, c8, g8, e0, ds, q4⟩
 refine au _ ds (fun _ => ?_)
 clear ds
 have n4 : l4.length ≤ 1048579 := by rw [q4, a06]; (have hq : (if iv.i.op = 6 then iv.args else []).length ≤ iv.args.length := by split <;> first | exact a08 _ | exact a0B _); omega
 refine ah 2 rfl (aa (wm (.slice ag l4.length al) rfl rfl rfl ?_))
 obtain ⟨hG, c9, a6, g3, hC⟩ := OS.frz e0 g8 (i := 2) rfl
 have a6 : HS _ _ _ [_, _, _] _ := a6
 replace hT := (hT.mono c8).mono c9
 refine az (ap rfl rfl rfl) rfl rfl (unique_c ex l4 (HS.call a6) g3 hT (by omega)) ?_
 rintro _ h4 ⟨cl, ez, it, f4, hH, f6, b7, rfl, e3, rfl⟩
 replace b7 : HS _ _ _ [_, _, _, f4] _ := HS.back a6 rfl b7
 refine wa (.slice cl (cR [] l4).length ez) rfl rfl rfl (ae 1 rfl (ak ⟨.inr rfl, _, rfl, cl, ez, cR [] l4, f4, _, (fT (fT (fT (fT (fT (fT (dd) b2) b3) b4) c8) c9) f6), (HS.only b7 (i := 3) rfl), rfl, e3, (reads_yes (by assumption) (by simp only [q4, q3, q2, q1, jA, a0n]))⟩))
set_option maxHeartbeats 1000000 in
theorem rreads_c {Y : Option Addr} {Z : Nat} (iv : VInT) (hs : HS (.of H []) F H [] R) (g0 : in64 iv.i.op) (g2 : in64 iv.i.a) (g3 : in64 iv.i.b) (g4 : in64 iv.i.c) (g5 : in64 iv.i.n) (z : SR F (.slice Y iv.args.length Z) iv.args) (hT : TB 37 tabC F) (hlen : iv.args.length ≤ 1048576) : kKt ex 58 [(.agg ⟨[(iI iv.i.op), (iI iv.i.a), (iI iv.i.b), (iI iv.i.c), (iI iv.i.n), (.slice Y iv.args.length Z)]⟩)] H fun v H' => ∃ (ar : Option Addr) (kr : Nat) (r : List Int) (F' : Fz), Fz.le F F' ∧ HS (.of H []) F' H' [] R ∧ v = .slice ar r.length kr ∧ SR F' (.slice ar r.length kr) r ∧ r = aw iv := by
 refine aI Tryd.func58 rfl rfl (ah 1 rfl (aa (aH (bw hs rfl rfl) rfl rfl ?_)))
 rintro _ H2 _ ⟨b1, rfl, (a2 : HS _ _ _ [[(b1, .cells [(iI iv.i.op), (iI iv.i.a), (iI iv.i.b), (iI iv.i.c), (iI iv.i.n), (.slice Y iv.args.length Z)] none false)]] _), _⟩
 refine wa (.slice none 0 0) rfl rfl rfl (ae 2 rfl (wT 3 [] 1 0 [3] [(3, (.slice none 0 0))] rfl fun _ => wR 1 [(2, .o (iI iv.i.op)), (3, .o (.bool (alV iv.i.op)))] 6 10 [] [(10, (.bool (!(alV iv.i.op))))] (vA (ql 3 0 (HS.hc a2 (i := 0) rfl) rfl rfl) (vA (m1.ralw_c_q ex iv.i.op H2) trivial)) rfl fun _ => am 1 2 (v := (!(alV iv.i.op))) rfl rfl rfl rfl (fun c8 => ?_) (fun c8 => ?_)))
 ·
  have c5 := c8
  try simp only [BS] at c5
  refine wT 1 [] 2 2 [11] [(2, (.slice none 0 0))] rfl fun _ => ak ⟨.inr rfl, _, rfl, none, 0, ([] : List Int), _, fR, (HS.forget a2), rfl, (SR.nil : SR F (.slice none 0 0) ([] : List Int)), (reads_no (by assumption))⟩
 have c5 := c8
 try simp only [BS] at c5
 have hal : alV iv.i.op = true := by assumption
 refine aa (wUo 3 0 [(2, .o (iI iv.i.op))] 12 14 [] [(14, (iI iv.i.op))] (ql 3 0 (HS.hc a2 (i := 0) rfl) rfl rfl) rfl fun _ => az (ap rfl rfl rfl) rfl rfl (m3.rinfo_c ex iv.i.op (HS.call a2) (by omega) hT) ?_)
 rintro _ H8 ⟨x8, F8, c9, ds, rfl, f8, f9, rfl⟩
 replace ds : HS _ _ _ [_] _ := HS.back a2 rfl ds
 replace hT := hT.mono c9
 replace z := z.mono c9
 refine aH (bp ds rfl) rfl rfl ?_
 rintro _ hk _ ⟨b9, rfl, (fi : HS _ _ _ [_, [(b9, .cells [(.string ⟨⟨[]⟩⟩), (iI 0), (.bool false), (.bool false), (.bool false), (.bool false), (iI 0)] none false)]] _), _⟩
 refine aL (aE (q := 1) fi rfl rfl rfl rfl rfl rfl rfl rfl rfl) rfl ?_
 rintro _ hl _ ⟨(al : HS _ _ _ [_, [(b9, .cells [(.string ⟨⟨(aJ iv.i.op).name.b⟩⟩), (iI (aJ iv.i.op).form), (.bool (aJ iv.i.op).ra), (.bool (aJ iv.i.op).wa), (.bool (aJ iv.i.op).rb), (.bool (aJ iv.i.op).mt), (iI (aJ iv.i.op).words)] none false)]] _), _⟩
 let b6 : Fp := [(b1, .cells [(iI iv.i.op), (iI iv.i.a), (iI iv.i.b), (iI iv.i.c), (iI iv.i.n), (.slice Y iv.args.length Z)] none false)]
 let b7 : Fp := [(b9, .cells [(.string ⟨⟨(aJ iv.i.op).name.b⟩⟩), (iI (aJ iv.i.op).form), (.bool (aJ iv.i.op).ra), (.bool (aJ iv.i.op).wa), (.bool (aJ iv.i.op).rb), (.bool (aJ iv.i.op).mt), (iI (aJ iv.i.op).words)] none false)]
 refine ae 3 rfl (wU 1 [(1, .o (.bool (aJ iv.i.op).ra))] 16 17 [] [(17, (.bool (aJ iv.i.op).ra))] (ql 4 2 (HS.hc al (i := 1) rfl) rfl rfl) rfl fun _ => bN (fun f H' => ∃ (l1 : List Int) (N : Option Addr) (U : Nat) (F' : Fz), Fz.le F8 F' ∧ HS (Base.of H []) F' H' [b6, b7] R ∧ SR F' (.slice N l1.length U) l1 ∧ aD f [(1, (.pointer (some ⟨b1, 0, none⟩))), (3, (.slice N l1.length U)), (4, (.pointer (some ⟨b9, 0, none⟩)))] ∧ (l1 = cR [] (if (aM iv.i.op).ra = true then [iv.i.a] else []))) (fun dv => ?_) ?_)
 ·
  refine am 0 0 (v := (aJ iv.i.op).ra) rfl rfl rfl rfl (fun a6 => ?_) (fun a6 => ?_)
  ·
   have c3 := a6
   try simp only [BS] at c3
   refine aa (wUo 4 0 [(3, .o (iI iv.i.a))] 18 21 [] [(18, (.slice none 0 0)), (21, (iI iv.i.a))] (ql 3 1 (HS.hc al (i := 0) rfl) rfl rfl) rfl fun _ => az (ap rfl rfl rfl) rfl rfl (m6.cW ex ([] : List Int) iv.i.a (HS.call al) (SR.nil : SR F8 (.slice none 0 0) ([] : List Int)) (by omega) hT (by (simp <;> omega))) ?_)
   rintro _ hn ⟨ch, d3, hD, hb, e4, bz, rfl, et, rfl⟩
   replace bz : HS _ _ _ [_, _] _ := HS.back al rfl bz
   refine wa (.slice ch (cY ([] : List Int) iv.i.a).length d3) rfl rfl rfl (ae 0 rfl ?_)
   exact dv _ _ ⟨cY ([] : List Int) iv.i.a, ch, d3, _, (e4), bz, et, ⟨rfl, rfl, rfl, trivial⟩, (rrT (by rw [← vra]; assumption))⟩
  have c3 := a6
  try simp only [BS] at c3
  exact dv _ _ ⟨([] : List Int), none, 0, _, fR, al, (SR.nil : SR F8 (.slice none 0 0) ([] : List Int)), ⟨rfl, rfl, rfl, trivial⟩, (rrF (by rw [← vra]; simp_all))⟩
 skip
 rintro hw hm ⟨l1, N, U, f5, bb, an, a3, dd, q1⟩
 refine au _ dd (fun _ => ?_)
 clear dd
 replace hT := hT.mono bb
 replace z := z.mono bb
 have n1 := rr_len1 q1
 refine ah 3 rfl (wU 1 [(1, .o (.bool (aJ iv.i.op).rb))] 23 24 [] [(24, (.bool (aJ iv.i.op).rb))] (ql 4 4 (HS.hc an (i := 1) rfl) rfl rfl) rfl fun _ => bN (fun f H' => ∃ (l2 : List Int) (T : Option Addr) (V : Nat) (F' : Fz), Fz.le f5 F' ∧ HS (Base.of H []) F' H' [b6, b7] R ∧ SR F' (.slice T l2.length V) l2 ∧ aD f [(1, (.pointer (some ⟨b1, 0, none⟩))), (3, (.slice T l2.length V)), (4, (.pointer (some ⟨b9, 0, none⟩)))] ∧ (l2 = cR l1 (if (aM iv.i.op).rb = true then [iv.i.b] else []))) (fun d1 => ?_) ?_)
 ·
  refine am 0 0 (v := (aJ iv.i.op).rb) rfl rfl rfl rfl (fun a7 => ?_) (fun a7 => ?_)
  ·
   have c4 := a7
   try simp only [BS] at c4
   refine aa (wUo 4 0 [(3, .o (iI iv.i.b))] 25 28 [] [(25, (.slice N l1.length U)), (28, (iI iv.i.b))] (ql 3 2 (HS.hc an (i := 0) rfl) rfl rfl) rfl fun _ => az (ap rfl rfl rfl) rfl rfl (m6.cW ex l1 iv.i.b (HS.call an) a3 (by omega) hT (by omega)) ?_)
   rintro _ hq ⟨ci, d4, hE, he, e5, b0, rfl, ez, rfl⟩
   replace b0 : HS _ _ _ [_, _] _ := HS.back an rfl b0
   refine wa (.slice ci (cY l1 iv.i.b).length d4) rfl rfl rfl (ae 0 rfl ?_)
   exact d1 _ _ ⟨cY l1 iv.i.b, ci, d4, _, (e5), b0, ez, ⟨rfl, rfl, rfl, trivial⟩, (rrT (by rw [← vrb]; assumption))⟩
  have c4 := a7
  try simp only [BS] at c4
  exact d1 _ _ ⟨l1, N, U, _, fR, an, a3, ⟨rfl, rfl, rfl, trivial⟩, (rrF (by rw [← vrb]; simp_all))⟩
 skip
 rintro hz hp ⟨l2, T, V, f6, bk, av, a4, dk, q2⟩
 refine au _ dk (fun _ => ?_)
 clear dk
 replace hT := hT.mono bk
 replace z := z.mono bk
 have n2 := rr_len2 n1 q2
 refine ah 3 rfl (wU 1 [(1, .o (iI (aJ iv.i.op).form))] 30 32 [] [(32, (.bool ((aJ iv.i.op).form == 4)))] (ql 3 1 (HS.hc av (i := 1) rfl) rfl rfl) rfl fun _ => bN (fun f H' => ∃ (l3 : List Int) (ad : Option Addr) (ag : Nat) (F' : Fz), Fz.le f6 F' ∧ HS (Base.of H []) F' H' [b6, b7] R ∧ SR F' (.slice ad l3.length ag) l3 ∧ aD f [(1, (.pointer (some ⟨b1, 0, none⟩))), (3, (.slice ad l3.length ag))] ∧ (l3 = cR l2 (if iv.i.op = 11 ∨ iv.i.op = 12 then [iv.i.c] else []))) (fun d2 => ?_) ?_)
 ·
  refine am 0 0 (v := ((aJ iv.i.op).form == 4)) rfl rfl rfl rfl (fun a8 => ?_) (fun a8 => ?_)
  ·
   have c6 := a8
   try simp only [BS] at c6
   refine aa (wUo 4 0 [(3, .o (iI iv.i.c))] 33 36 [] [(33, (.slice T l2.length V)), (36, (iI iv.i.c))] (ql 3 3 (HS.hc av (i := 0) rfl) rfl rfl) rfl fun _ => az (ap rfl rfl rfl) rfl rfl (m6.cW ex l2 iv.i.c (HS.call av) a4 (by omega) hT (by omega)) ?_)
   rintro _ ht ⟨cl, ea, hF, hf, e6, b2, rfl, e0, rfl⟩
   replace b2 : HS _ _ _ [_, _] _ := HS.back av rfl b2
   refine wa (.slice cl (cY l2 iv.i.c).length ea) rfl rfl rfl (ae 0 rfl ?_)
   exact d2 _ _ ⟨cY l2 iv.i.c, cl, ea, _, (e6), b2, e0, ⟨rfl, rfl, trivial⟩, (rrT ((vf4 hal).1 (by assumption)))⟩
  have c6 := a8
  try simp only [BS] at c6
  exact d2 _ _ ⟨l2, T, V, _, fR, av, a4, ⟨rfl, rfl, trivial⟩, (rrF (fun hh => absurd ((vf4 hal).2 hh) (by omega)))⟩
 skip
 rintro hA hr ⟨l3, ad, ag, f7, bl, f0, es, dl, q3⟩
 refine au _ dl (fun _ => ?_)
 clear dl
 refine ah 3 rfl (wT 2 [] 1 0 [5] [(5, (iI 0))] rfl fun _ => aj (fun (mm : Nat) f H' => ∃ (l4 : List Int) (k : Nat) (A : Option Addr) (E : Nat) (F' : Fz), Fz.le f7 F' ∧ HS (Base.of H []) F' H' [b6, b7] R ∧ SR F' (.slice A l4.length E) l4 ∧ aD f [(1, (.pointer (some ⟨b1, 0, none⟩))), (3, (.slice A l4.length E)), (5, (iI (k : Int)))] ∧ mm = iv.args.length - k ∧ (l4 = cR l3 (iv.args.take k)) ∧ (k ≤ iv.args.length) ∧ (k = 0 ∨ iv.i.op = 6)) _ ⟨l3, 0, ad, ag, _, fR, f0, es, ⟨rfl, rfl, rfl, trivial⟩, rfl, (by rfl), (by omega), (by omega)⟩ ?_)
 rintro g8 hB hu ⟨l4, k, A, E, hg, a1, J, a5, dn, rfl, q4, q5, q6⟩ f1
 refine au _ dn (fun _ => ?_)
 clear dn
 replace hT := (hT.mono bl).mono a1
 replace z := (z.mono bl).mono a1
 have n4 := rr_len q1 q2 q3 q4
 refine ah 2 rfl (wR 1 [(2, .o (.slice Y iv.args.length Z)), (8, .o (iI iv.i.op))] 38 48 [] [(48, (.bool ((decide ((k : Int) < (iv.args.length : Int))) && (iv.i.op == 6))))] (vA (ql 25 5 (HS.hc J (i := 0) rfl) rfl rfl) (vA (fun (g1 : (decide ((k : Int) < (iv.args.length : Int))) = true) => (ql 3 0 (HS.hc J (i := 0) rfl) rfl rfl)) trivial)) rfl fun _ => am 3 5 (v := ((decide ((k : Int) < (iv.args.length : Int))) && (iv.i.op == 6))) rfl rfl rfl rfl (fun a9 => ?_) (fun a9 => ?_))
 ·
  have c7 := a9
  try simp only [BS] at c7
  refine aa ?_
  obtain ⟨g7, dt⟩ := Sv.view (SR.sv z J)
  have hC := fI (dt k)
  refine wRo 6 0 [(2, .o (.slice Y iv.args.length Z)), (5, .o (iI (iv.args.getD k 0)))] 51 56 [] [(51, (.slice A l4.length E)), (56, (iI (iv.args.getD k 0)))] (vA (ql 25 5 (HS.hc J (i := 0) rfl) rfl rfl) (vA (Sv.ix (j := (k : Int)) (SR.sv z J) (by omega) (by omega)) (vA (ql 3 0 (vI (dt k) (by omega)) rfl rfl) trivial))) rfl fun _ => az (ap rfl rfl rfl) rfl rfl (m6.cW ex l4 (iv.args.getD k 0) (HS.call J) a5 (by omega) hT (by omega)) ?_
  rintro _ hv ⟨co, em, hG, hj, fd, b3, rfl, e1, rfl⟩
  replace b3 : HS _ _ _ [_, _] _ := HS.back J rfl b3
  refine wa (.slice co (cY l4 (iv.args.getD k 0)).length em) rfl rfl rfl (ae 2 rfl (wU 1 [] 49 50 [5] [(5, (iI ((k : Int) + 1)))] (vi (n := (k : Int) + 1) (by omega)) rfl fun _ => f1 _ _ _ ?_ ⟨cY l4 (iv.args.getD k 0), k + 1, co, em, _, (fT (a1) fd), b3, e1, ⟨rfl, rfl, rfl, trivial⟩, rfl, (hO (by omega) q4), (by omega), (by omega)⟩))
  omega
 have c7 := a9
 try simp only [BS] at c7
 refine wT 1 [] 2 2 [58] [(2, (.slice A l4.length E))] rfl fun _ => ak ⟨.inr rfl, _, rfl, A, E, l4, _, (fT (fT (fT (fT (c9) bb) bk) bl) a1), (HS.forget J), rfl, a5, (rr_end (by assumption) q1 q2 q3 q4 q6 (by omega))⟩
set_option maxHeartbeats 1000000 in
theorem fF {A : Option Addr} {E : Nat} (iv : VInT) (hs : HS (.of H []) F H [] R) (a2 : in64 iv.i.op) (a3 : in64 iv.i.a) (a4 : in64 iv.i.b) (a5 : in64 iv.i.c) (a6 : in64 iv.i.n) (a7 : SR F (.slice A iv.args.length E) iv.args) (hT : TB 37 tabC F) : kKt ex 52 [(.agg ⟨[(iI iv.i.op), (iI iv.i.a), (iI iv.i.b), (iI iv.i.c), (iI iv.i.n), (.slice A iv.args.length E)]⟩)] H fun v H' => ∃ (ar : Option Addr) (kr : Nat) (r : List Int) (p : Fp) (F' : Fz), Fz.le F F' ∧ HS (.of H []) F' H' [p] R ∧ v = .slice ar r.length kr ∧ OS F' (.slice ar r.length kr) r p ∧ r = ab iv := by
 refine aI Tryd.func52 rfl rfl (ah 1 rfl (aa (aH (bw hs rfl rfl) rfl rfl ?_)))
 rintro _ H2 _ ⟨b1, rfl, (J : HS _ _ _ [[(b1, .cells [(iI iv.i.op), (iI iv.i.a), (iI iv.i.b), (iI iv.i.c), (iI iv.i.n), (.slice A iv.args.length E)] none false)]] _), _⟩
 refine wa (.slice none 0 0) rfl rfl rfl (ae 3 rfl (wR 1 [(2, .o (iI iv.i.op)), (3, .o (.bool (alV iv.i.op)))] 5 9 [] [(9, (.bool (!(alV iv.i.op))))] (vA (ql 3 0 (HS.hc J (i := 0) rfl) rfl rfl) (vA (m1.j3 ex iv.i.op H2) trivial)) rfl fun _ => am 1 2 (v := (!(alV iv.i.op))) rfl rfl rfl rfl (fun U => ?_) (fun U => ?_)))
 ·
  have c4 := U
  try simp only [BS] at c4
  refine wT 1 [] 2 2 [] [(2, (.slice none 0 0))] rfl fun _ => ak ⟨.inr rfl, _, rfl, none, 0, ([] : List Int), [], _, fR, (HS.cons (HS.forget J)), rfl, (OS.nil : OS _ _ _ []), (writes_no (by assumption))⟩
 have c4 := U
 try simp only [BS] at c4
 refine aa (wUo 3 0 [(2, .o (iI iv.i.op))] 11 13 [] [(13, (iI iv.i.op))] (ql 3 0 (HS.hc J (i := 0) rfl) rfl rfl) rfl fun _ => az (ap rfl rfl rfl) rfl rfl (m1.mInfo_c ex iv.i.op (HS.call J) (by omega) hT) ?_)
 rintro _ H7 ⟨x7, o7, F7, Z, V, rfl, a0, a1, rfl, rfl⟩
 replace V : HS _ _ _ [_] _ := HS.back J rfl V
 refine wTo 3 4 [] 15 16 [10] [(15, (.agg ⟨[(.string ⟨⟨(aM iv.i.op).name.b⟩⟩), (iI (aM iv.i.op).form), (.bool (aM iv.i.op).ra), (.bool (aM iv.i.op).wa), (.bool (aM iv.i.op).rb), (.bool (aM iv.i.op).mt), (iI (aM iv.i.op).words)]⟩)), (16, (.bool (infO iv.i.op)))] rfl fun _ => aH (bp V rfl) rfl rfl ?_
 rintro _ bk _ ⟨b9, rfl, (av : HS _ _ _ [_, [(b9, .cells [(.string ⟨⟨[]⟩⟩), (iI 0), (.bool false), (.bool false), (.bool false), (.bool false), (iI 0)] none false)]] _), _⟩
 refine aL (aE (q := 1) av rfl rfl rfl rfl rfl rfl rfl rfl rfl) rfl ?_
 rintro _ bl _ ⟨(z : HS _ _ _ [_, [(b9, .cells [(.string ⟨⟨(aM iv.i.op).name.b⟩⟩), (iI (aM iv.i.op).form), (.bool (aM iv.i.op).ra), (.bool (aM iv.i.op).wa), (.bool (aM iv.i.op).rb), (.bool (aM iv.i.op).mt), (iI (aM iv.i.op).words)] none false)]] _), _⟩
 refine wa (.bool (infO iv.i.op)) rfl rfl rfl (ae 3 rfl (wR 1 [(1, .o (.bool (aM iv.i.op).wa)), (5, .o (iI iv.i.op)), (11, .o (iI iv.i.op))] 17 30 [] [(30, (.bool (((aM iv.i.op).wa || (iv.i.op == 6)) || (iv.i.op == 38))))] (vA (ql 4 3 (HS.hc z (i := 1) rfl) rfl rfl) (vA (fun (g1 : (aM iv.i.op).wa = false) => (ql 3 0 (HS.hc z (i := 0) rfl) rfl rfl)) (vA (fun (g1 : ((aM iv.i.op).wa || (iv.i.op == 6)) = false) => (ql 3 0 (HS.hc z (i := 0) rfl) rfl rfl)) trivial))) rfl fun _ => am 1 2 (v := (((aM iv.i.op).wa || (iv.i.op == 6)) || (iv.i.op == 38))) rfl rfl rfl rfl (fun N => ?_) (fun N => ?_)))
 ·
  have T := N
  try simp only [BS] at T
  refine aa (wUo 3 0 [(2, .o (iI iv.i.a))] 31 33 [] [(33, (iI iv.i.a))] (ql 3 1 (HS.hc z (i := 0) rfl) rfl rfl) rfl fun _ => aH (bu (α := Int) (ps := [(0, (iI iv.i.a))]) (cells := [(iI iv.i.a)]) ([iv.i.a] : List Int) z rfl rfl rfl (by kernel_rfl) ⟨[(iI iv.i.a)], [], rfl, ⟨rfl, by omega⟩, rfl⟩ rfl) rfl rfl ?_)
  rintro _ bz ag ⟨Y, ad, rfl, an, (ax : HS _ _ _ [_, _, ag] _), _⟩
  refine wa (.slice Y ([iv.i.a] : List Int).length ad) rfl rfl rfl (ae 1 rfl (ak ⟨.inr rfl, _, rfl, Y, ad, ([iv.i.a] : List Int), ag, _, (Z), (HS.only ax (i := 2) rfl), rfl, an, (js (by assumption) (or_assoc.1 (by assumption)))⟩))
 have T := N
 try simp only [BS] at T
 refine wT 1 [] 2 2 [] [(2, (.slice none 0 0))] rfl fun _ => ak ⟨.inr rfl, _, rfl, none, 0, ([] : List Int), [], _, (Z), (HS.cons (HS.forget z)), rfl, (OS.nil : OS _ _ _ []), (writes_not (by simp_all))⟩
set_option maxHeartbeats 1000000 in
theorem iF {E : Option Addr} {J : Nat} (iv : VInT) (hs : HS (.of H []) F H [] R) (a4 : in64 iv.i.op) (a5 : in64 iv.i.a) (a6 : in64 iv.i.b) (a7 : in64 iv.i.c) (a8 : in64 iv.i.n) (a9 : SR F (.slice E iv.args.length J) iv.args) (hT : TB 37 tabC F) : kKt ex 54 [(.agg ⟨[(iI iv.i.op), (iI iv.i.a), (iI iv.i.b), (iI iv.i.c), (iI iv.i.n), (.slice E iv.args.length J)]⟩)] H fun v H' => ∃ (ar : Option Addr) (kr : Nat) (r : List Int) (p : Fp) (F' : Fz), Fz.le F F' ∧ HS (.of H []) F' H' [p] R ∧ v = .slice ar r.length kr ∧ OS F' (.slice ar r.length kr) r p ∧ r = ab iv := by
 refine aI Tryd.func54 rfl rfl (ah 1 rfl (aa (aH (bw hs rfl rfl) rfl rfl ?_)))
 rintro _ H2 _ ⟨N, rfl, (U : HS _ _ _ [[(N, .cells [(iI iv.i.op), (iI iv.i.a), (iI iv.i.b), (iI iv.i.c), (iI iv.i.n), (.slice E iv.args.length J)] none false)]] _), _⟩
 refine wa (.slice none 0 0) rfl rfl rfl (ae 3 rfl (wk_rcut 3 19 [] [(19, (.bool (alV iv.i.op && ((aJ iv.i.op).wa || (iv.i.op == 6)))))] (fun H' => ∃ F', Fz.le F F' ∧ HS (Base.of H []) F' H' [[(N, .cells [(iI iv.i.op), (iI iv.i.a), (iI iv.i.b), (iI iv.i.c), (iI iv.i.n), (.slice E iv.args.length J)] none false)]] R) ?_ ?_))
 ·
  refine aa (cH (v := (.pointer (some ⟨N, 0, none⟩))) (dG rfl rfl) rfl rfl (cH (v := (.pointer (some ⟨N, 0, none⟩))) (dG rfl rfl) rfl rfl (cH (v := (iI iv.i.op)) (bt (i := 0) rfl rfl (HS.hc U (i := 0) rfl) rfl rfl) rfl rfl (az (ap rfl rfl rfl) rfl rfl (m1.ralw_c ex iv.i.op _) ?_))))
  rintro _ H2 ⟨r6, rfl, rfl, rfl⟩
  refine wm (.bool (alV iv.i.op)) rfl rfl rfl (wo_gsT (v := (alV iv.i.op)) rfl rfl (fun z => ?_) (fun z => ?_))
  ·
   have ad := z
   try simp only [BS] at ad
   refine cH (v := (.pointer (some ⟨N, 0, none⟩))) (dG rfl rfl) rfl rfl (gm rfl z (cH (v := (.pointer (some ⟨N, 0, none⟩))) (dG rfl rfl) rfl rfl (gm rfl z (cH (v := (iI iv.i.op)) (bt (i := 0) rfl rfl (HS.hc U (i := 0) rfl) rfl rfl) rfl rfl (gm rfl z (az (ap rfl rfl rfl) rfl rfl (m3.rinfo_c ex iv.i.op (HS.call U) (by omega) hT) ?_))))))
   rintro _ H8 ⟨x8, F8, av, V, rfl, a2, a3, rfl⟩
   replace V : HS _ _ _ [_] _ := HS.back U rfl V
   refine gm rfl z (cH (v := (.bool (aJ iv.i.op).wa)) (ap_fv rfl rfl) rfl rfl (gm rfl z (wm (.bool (aJ iv.i.op).wa) rfl rfl rfl (wo_gsF (v := (aJ iv.i.op).wa) rfl rfl (fun A => ?_) (fun A => ?_)))))
   ·
    have ag := A
    try simp only [BS] at ag
    refine cH (v := (.pointer (some ⟨N, 0, none⟩))) (dG rfl rfl) rfl rfl (gm rfl A (cH (v := (.pointer (some ⟨N, 0, none⟩))) (dG rfl rfl) rfl rfl (gm rfl A (cH (v := (iI iv.i.op)) (bt (i := 0) rfl rfl (HS.hc V (i := 0) rfl) rfl rfl) rfl rfl (gm rfl A (cH (v := (.bool (iv.i.op == 6))) (ap_cmp rfl rfl rfl rfl) rfl rfl (gm rfl z (cH (v := (.bool (iv.i.op == 6))) (kJ rfl A rfl) rfl rfl (cH (v := (.bool (iv.i.op == 6))) (kI rfl z rfl) rfl rfl (ju ?_))))))))))
    exact bU ⟨rfl, ⟨_, (fT fR av), HS.sub V (List.Sublist.refl _)⟩, (Lu rfl (Lu rfl (Lu rfl (Lu rfl (Lu rfl (Lu rfl (Lu rfl (Lu rfl (Lu rfl (Lu rfl (Lu rfl (Lu rfl (Lu rfl (Lu rfl (Lu rfl (Lu rfl (Lu rfl Lr))))))))))))))))), (agC (congrArg Value.bool (show (iv.i.op == 6) = (alV iv.i.op && ((aJ iv.i.op).wa || (iv.i.op == 6))) by simp only [↓z, ↓A, BT])) agN)⟩
   have ag := A
   try simp only [BS] at ag
   refine wo_gf0 rfl A rfl (wo_gf0 rfl A rfl (wo_gf0 rfl A rfl (gm rfl z (cH (v := (.bool true)) (kI rfl A rfl) rfl rfl (cH (v := (.bool true)) (kI rfl z rfl) rfl rfl (ju ?_))))))
   exact bU ⟨rfl, ⟨_, (fT fR av), HS.sub V (List.Sublist.refl _)⟩, (Lu rfl (Lu rfl (Lu rfl (Lu rfl (Lu rfl (Lu rfl (Lu rfl (Lu rfl (Lu rfl (Lu rfl (Lu rfl (Lu rfl (Lu rfl (Lu rfl (Lu rfl (Lu rfl (Lu rfl Lr))))))))))))))))), (agC (congrArg Value.bool (show true = (alV iv.i.op && ((aJ iv.i.op).wa || (iv.i.op == 6))) by simp only [↓z, ↓A, BT])) agN)⟩
  have ad := z
  try simp only [BS] at ad
  refine jv rfl z rfl (jv rfl z rfl (jv rfl z rfl (jv rfl z rfl (jv rfl z rfl (wo_gn rfl rfl (wo_gn rfl rfl (wo_gn rfl rfl (wo_gn rfl rfl (jv rfl z rfl (cH (v := (.bool false)) (kJ rfl z rfl) rfl rfl (ju ?_)))))))))))
  exact bU ⟨rfl, ⟨_, fR, HS.sub U (List.Sublist.refl _)⟩, (Lu rfl (Lu rfl (Lu rfl (Lu rfl (Lu rfl (Lu rfl (Lu rfl (Lu rfl (Lu rfl (Lu rfl (Lu rfl (Lu rfl (Lu rfl (Lu rfl (Lu rfl (Lu rfl (Lu rfl Lr))))))))))))))))), (agC (congrArg Value.bool (show false = (alV iv.i.op && ((aJ iv.i.op).wa || (iv.i.op == 6))) by simp only [↓z, BT])) agN)⟩
 skip
 rintro g5 H5 ⟨F5, an, Z⟩
 refine ah 1 rfl (am 1 2 (v := (alV iv.i.op && ((aJ iv.i.op).wa || (iv.i.op == 6)))) rfl rfl rfl rfl (fun Y => ?_) (fun Y => ?_))
 ·
  have T := Y
  try simp only [BS] at T
  have hq := T
  refine aa (wUo 3 0 [(2, .o (iI iv.i.a))] 20 22 [] [(22, (iI iv.i.a))] (ql 3 1 (HS.hc Z (i := 0) rfl) rfl rfl) rfl fun _ => aH (bu (α := Int) (ps := [(0, (iI iv.i.a))]) (cells := [(iI iv.i.a)]) ([iv.i.a] : List Int) Z rfl rfl rfl (by kernel_rfl) ⟨[(iI iv.i.a)], [], rfl, ⟨rfl, by omega⟩, rfl⟩ rfl) rfl rfl ?_)
  rintro _ bk ay ⟨al, ax, rfl, a0, (a1 : HS _ _ _ [_, ay] _), _⟩
  refine wa (.slice al ([iv.i.a] : List Int).length ax) rfl rfl rfl (ae 1 rfl (ak ⟨.inr rfl, _, rfl, al, ax, ([iv.i.a] : List Int), ay, _, (an), (HS.only a1 (i := 1) rfl), rfl, a0, (rwr_yes hq)⟩))
 have T := Y
 try simp only [BS] at T
 have hq := T
 refine wT 1 [] 2 2 [] [(2, (.slice none 0 0))] rfl fun _ => ak ⟨.inr rfl, _, rfl, none, 0, ([] : List Int), [], _, (an), (HS.cons (HS.forget Z)), rfl, (OS.nil : OS _ _ _ []), (rwr_no hq)⟩
theorem vsucc_c {E : Option Addr} {T : Nat} (b : BlkT) (hs : HS (.of H []) F H [] R) (a9 : SR F (.slice E b.ins.length T) b.ins) (bb : in64 b.fin) (bk : in64 b.reg) (bl : in64 b.tgt) (bz : in64 b.els) (hT : TB 37 tabC F) : kKt ex 133 [(.agg ⟨[(.slice E b.ins.length T), (iI b.fin), (iI b.reg), (iI b.tgt), (iI b.els)]⟩)] H fun v H' => ∃ (ar : Option Addr) (kr : Nat) (r : List Int) (p : Fp) (F' : Fz), Fz.le F F' ∧ HS (.of H []) F' H' [p] R ∧ v = .slice ar r.length kr ∧ OS F' (.slice ar r.length kr) r p ∧ r = aW b := by
 refine aI Tryd.func133 rfl rfl (ah 1 rfl (aa (aH (bw hs rfl rfl) rfl rfl ?_)))
 rintro _ H2 _ ⟨b1, rfl, (z : HS _ _ _ [[(b1, .cells [(.slice E b.ins.length T), (iI b.fin), (iI b.reg), (iI b.tgt), (iI b.els)] none false)]] _), _⟩
 refine wa (.slice none 0 0) rfl rfl rfl (ae 3 rfl (wU 3 [(1, .o (iI b.fin))] 3 4 [] [(4, (iI b.fin))] (ql 3 1 (HS.hc z (i := 0) rfl) rfl rfl) rfl fun _ => wT 1 [] 5 6 [] [(5, (.bool (b.fin == 1)))] rfl fun _ => am 1 1 (v := (b.fin == 1)) rfl rfl rfl rfl (fun Y => ?_) (fun Y => ?_)))
 ·
  have c5 := Y
  try simp only [BS] at c5
  refine aa (wUo 2 0 [(1, .o (iI b.tgt))] 7 8 [] [(8, (iI b.tgt))] (ql 3 3 (HS.hc z (i := 0) rfl) rfl rfl) rfl fun _ => aH (bu (α := Int) (ps := [(0, (iI b.tgt))]) (cells := [(iI b.tgt)]) ([b.tgt] : List Int) z rfl rfl rfl (by kernel_rfl) ⟨[(iI b.tgt)], [], rfl, ⟨rfl, by omega⟩, rfl⟩ rfl) rfl rfl ?_)
  rintro _ H8 p7 ⟨a7, k7, rfl, a2, (a3 : HS _ _ _ [_, p7] _), _⟩
  refine wa (.slice a7 ([b.tgt] : List Int).length k7) rfl rfl rfl (ae 1 rfl (ak ⟨.inr rfl, _, rfl, a7, k7, ([b.tgt] : List Int), p7, _, fR, (HS.only a3 (i := 1) rfl), rfl, a2, (succ1 (by assumption))⟩))
 have c5 := Y
 try simp only [BS] at c5
 refine wT 1 [] 10 11 [] [(10, (.bool (b.fin == 2)))] rfl fun _ => am 1 3 (v := (b.fin == 2)) rfl rfl rfl rfl (fun J => ?_) (fun J => ?_)
 ·
  have V := J
  try simp only [BS] at V
  refine aa (wRo 4 0 [(1, .o (iI b.tgt)), (3, .o (iI b.els))] 12 15 [] [(13, (iI b.tgt)), (15, (iI b.els))] (vA (ql 3 3 (HS.hc z (i := 0) rfl) rfl rfl) (vA (ql 3 4 (HS.hc z (i := 0) rfl) rfl rfl) trivial)) rfl fun _ => aH (bu (α := Int) (ps := [(0, (iI b.tgt)), (1, (iI b.els))]) (cells := [(iI b.tgt), (iI b.els)]) ([b.tgt, b.els] : List Int) z rfl rfl rfl (by kernel_rfl) ⟨[(iI b.tgt)], [(iI b.els)], rfl, ⟨rfl, by omega⟩, ⟨[(iI b.els)], [], rfl, ⟨rfl, by omega⟩, rfl⟩⟩ rfl) rfl rfl ?_)
  rintro _ b4 a5 ⟨b7, b9, rfl, ax, (a0 : HS _ _ _ [_, a5] _), _⟩
  obtain ⟨b2, Z, A, ay, b0⟩ := OS.frz ax a0 (i := 1) rfl
  have A : HS _ _ _ [_, []] _ := A
  replace hT := hT.mono Z
  refine az (ap rfl rfl rfl) rfl rfl (unique_c ex ([b.tgt, b.els] : List Int) (HS.call A) ay hT (by simp)) ?_
  rintro _ b6 ⟨U, ad, cc, al, b3, av, N, rfl, ag, rfl⟩
  replace N : HS _ _ _ [_, _, al] _ := HS.back A rfl N
  refine wa (.slice U (cR [] ([b.tgt, b.els] : List Int)).length ad) rfl rfl rfl (ae 1 rfl (ak ⟨.inr rfl, _, rfl, U, ad, cR [] ([b.tgt, b.els] : List Int), al, _, (fT (Z) av), (HS.only N (i := 2) rfl), rfl, ag, (succ2 (by assumption)).symm⟩))
 have V := J
 try simp only [BS] at V
 refine wT 1 [] 2 2 [] [(2, (.slice none 0 0))] rfl fun _ => ak ⟨.inr rfl, _, rfl, none, 0, ([] : List Int), [], _, fR, (HS.cons (HS.forget z)), rfl, (OS.nil : OS _ _ _ []), (succ0 (by omega))⟩
theorem rsucc_c {E : Option Addr} {T : Nat} (b : BlkT) (hs : HS (.of H []) F H [] R) (bb : SR F (.slice E b.ins.length T) b.ins) (bk : in64 b.fin) (bl : in64 b.reg) (bz : in64 b.tgt) (b0 : in64 b.els) (hT : TB 37 tabC F) : kKt ex 66 [(.agg ⟨[(.slice E b.ins.length T), (iI b.fin), (iI b.reg), (iI b.tgt), (iI b.els)]⟩)] H fun v H' => ∃ (ar : Option Addr) (kr : Nat) (r : List Int) (F' : Fz), Fz.le F F' ∧ HS (.of H []) F' H' [] R ∧ v = .slice ar r.length kr ∧ SR F' (.slice ar r.length kr) r ∧ r = aW b := by
 refine aI Tryd.func66 rfl rfl (ah 1 rfl (aa (aH (bw hs rfl rfl) rfl rfl ?_)))
 rintro _ H2 _ ⟨b1, rfl, (z : HS _ _ _ [[(b1, .cells [(.slice E b.ins.length T), (iI b.fin), (iI b.reg), (iI b.tgt), (iI b.els)] none false)]] _), _⟩
 refine wa (.slice none 0 0) rfl rfl rfl (ae 3 rfl (wU 3 [(1, .o (iI b.fin))] 3 4 [] [(4, (iI b.fin))] (ql 3 1 (HS.hc z (i := 0) rfl) rfl rfl) rfl fun _ => wT 1 [] 5 6 [] [(5, (.bool (b.fin == 1)))] rfl fun _ => am 1 1 (v := (b.fin == 1)) rfl rfl rfl rfl (fun Y => ?_) (fun Y => ?_)))
 ·
  have c5 := Y
  try simp only [BS] at c5
  refine aa (wUo 2 0 [(1, .o (iI b.tgt))] 7 8 [] [(8, (iI b.tgt))] (ql 3 3 (HS.hc z (i := 0) rfl) rfl rfl) rfl fun _ => aH (bu (α := Int) (ps := [(0, (iI b.tgt))]) (cells := [(iI b.tgt)]) ([b.tgt] : List Int) z rfl rfl rfl (by kernel_rfl) ⟨[(iI b.tgt)], [], rfl, ⟨rfl, by omega⟩, rfl⟩ rfl) rfl rfl ?_)
  rintro _ H8 p7 ⟨a7, k7, rfl, a3, (a5 : HS _ _ _ [_, p7] _), _⟩
  refine wa (.slice a7 ([b.tgt] : List Int).length k7) rfl rfl rfl (ae 1 rfl ?_)
  obtain ⟨F9, a2, ag, a4, ch⟩ := OS.frz a3 a5 (i := 1) rfl
  have ag : HS _ _ _ [_, []] _ := ag
  refine ak ⟨.inr rfl, _, rfl, a7, k7, ([b.tgt] : List Int), _, (a2), (HS.forget ag), rfl, a4, (succ1 (by assumption))⟩
 have c5 := Y
 try simp only [BS] at c5
 refine wT 1 [] 10 11 [] [(10, (.bool (b.fin == 2)))] rfl fun _ => am 1 3 (v := (b.fin == 2)) rfl rfl rfl rfl (fun J => ?_) (fun J => ?_)
 ·
  have V := J
  try simp only [BS] at V
  refine aa (wUo 2 0 [(1, .o (iI b.tgt))] 12 13 [] [(13, (iI b.tgt))] (ql 3 3 (HS.hc z (i := 0) rfl) rfl rfl) rfl fun _ => aH (bu (α := Int) (ps := [(0, (iI b.tgt))]) (cells := [(iI b.tgt)]) ([b.tgt] : List Int) z rfl rfl rfl (by kernel_rfl) ⟨[(iI b.tgt)], [], rfl, ⟨rfl, by omega⟩, rfl⟩ rfl) rfl rfl ?_)
  rintro _ b7 a8 ⟨cc, ci, rfl, ay, (ad : HS _ _ _ [_, a8] _), _⟩
  refine wUo 2 3 [(4, .o (iI b.els))] 15 16 [] [(16, (iI b.els))] (ql 3 4 (HS.hc ad (i := 0) rfl) rfl rfl) rfl fun _ => ?_
  obtain ⟨b4, Z, A, a0, b2⟩ := OS.frz ay ad (i := 1) rfl
  have A : HS _ _ _ [_, []] _ := A
  replace hT := hT.mono Z
  refine az (ap rfl rfl rfl) rfl rfl (m6.cW ex ([b.tgt] : List Int) b.els (HS.call A) a0 (by omega) hT (by simp)) ?_
  rintro _ b9 ⟨U, al, cl, b6, ax, N, rfl, an, rfl⟩
  replace N : HS _ _ _ [_, _] _ := HS.back A rfl N
  refine wa (.slice U (cY ([b.tgt] : List Int) b.els).length al) rfl rfl rfl (ae 1 rfl (ak ⟨.inr rfl, _, rfl, U, al, cY ([b.tgt] : List Int) b.els, _, (fT (Z) ax), (HS.forget N), rfl, an, (succ2 (by assumption)).symm⟩))
 have V := J
 try simp only [BS] at V
 refine wT 1 [] 2 2 [] [(2, (.slice none 0 0))] rfl fun _ => ak ⟨.inr rfl, _, rfl, none, 0, ([] : List Int), _, fR, (HS.forget z), rfl, (SR.nil : SR F (.slice none 0 0) ([] : List Int)), (succ0 (by omega))⟩
theorem rend_c {A : Option Addr} {E : Nat} (b : BlkT) (hs : HS (.of H []) F H [] R) (ag : SR F (.slice A b.ins.length E) b.ins) (al : in64 b.fin) (an : in64 b.reg) (av : in64 b.tgt) (ax : in64 b.els) (hT : TB 37 tabC F) : kKt ex 59 [(.agg ⟨[(.slice A b.ins.length E), (iI b.fin), (iI b.reg), (iI b.tgt), (iI b.els)]⟩)] H fun v H' => ∃ (ar : Option Addr) (kr : Nat) (r : List Int) (p : Fp) (F' : Fz), Fz.le F F' ∧ HS (.of H []) F' H' [p] R ∧ v = .slice ar r.length kr ∧ OS F' (.slice ar r.length kr) r p ∧ r = df b := by
 refine aI Tryd.func59 rfl rfl (ah 1 rfl (aa (aH (bw hs rfl rfl) rfl rfl ?_)))
 rintro _ H2 _ ⟨b1, rfl, (z : HS _ _ _ [[(b1, .cells [(.slice A b.ins.length E), (iI b.fin), (iI b.reg), (iI b.tgt), (iI b.els)] none false)]] _), _⟩
 refine wa (.slice none 0 0) rfl rfl rfl (ae 3 rfl (wR 1 [(1, .o (iI b.fin)), (5, .o (iI b.fin))] 3 10 [] [(10, (.bool ((b.fin == 2) || (b.fin == 3))))] (vA (ql 3 1 (HS.hc z (i := 0) rfl) rfl rfl) (vA (fun (g1 : (b.fin == 2) = false) => (ql 3 1 (HS.hc z (i := 0) rfl) rfl rfl)) trivial)) rfl fun _ => am 1 2 (v := ((b.fin == 2) || (b.fin == 3))) rfl rfl rfl rfl (fun J => ?_) (fun J => ?_)))
 ·
  have N := J
  try simp only [BS] at N
  refine aa (wUo 2 0 [(1, .o (iI b.reg))] 11 12 [] [(12, (iI b.reg))] (ql 3 2 (HS.hc z (i := 0) rfl) rfl rfl) rfl fun _ => aH (bu (α := Int) (ps := [(0, (iI b.reg))]) (cells := [(iI b.reg)]) ([b.reg] : List Int) z rfl rfl rfl (by kernel_rfl) ⟨[(iI b.reg)], [], rfl, ⟨rfl, by omega⟩, rfl⟩ rfl) rfl rfl ?_)
  rintro _ H7 Z ⟨T, Y, rfl, U, (V : HS _ _ _ [_, Z] _), _⟩
  refine wa (.slice T ([b.reg] : List Int).length Y) rfl rfl rfl (ae 1 rfl (ak ⟨.inr rfl, _, rfl, T, Y, ([b.reg] : List Int), Z, _, fR, (HS.only V (i := 1) rfl), rfl, U, (if_pos (by omega)).symm⟩))
 have N := J
 try simp only [BS] at N
 refine wT 1 [] 2 2 [] [(2, (.slice none 0 0))] rfl fun _ => ak ⟨.inr rfl, _, rfl, none, 0, ([] : List Int), [], _, fR, (HS.cons (HS.forget z)), rfl, (OS.nil : OS _ _ _ []), (if_neg (by omega)).symm⟩
theorem gn {a_a : Option Addr} {k_a : Nat} (a : List Int) {a_b : Option Addr} {k_b : Nat} (b : List Int) (hs : HS (.of H []) F H [] R) (ha : SR F (.slice a_a a.length k_a) a) (hb : SR F (.slice a_b b.length k_b) b) (hT : TB 37 tabC F) (hlen : a.length + b.length ≤ 1073741824) : kKt ex 69 [(.slice a_a a.length k_a), (.slice a_b b.length k_b)] H fun v H' => ∃ (ar : Option Addr) (kr : Nat) (r : List Int) (F' : Fz), Fz.le F F' ∧ HS (.of H []) F' H' [] R ∧ v = .slice ar r.length kr ∧ SR F' (.slice ar r.length kr) r ∧ r = cR a b := by
 refine aI Tryd.func69 rfl rfl (ah 1 rfl (wT 2 [] 4 4 [] [(4, (.slice none 0 0))] rfl fun _ => aa (wm (.slice a_a a.length k_a) rfl rfl rfl ?_)))
 have T := HS.snoc hs
 have T : HS _ _ _ [[]] _ := T
 refine aH (bC (α := Int) (q := 0) (OS.nil : OS F (.slice none 0 0) ([] : List Int) []) T rfl rfl rfl (SR.sv ha T) rfl rfl rfl rfl rfl rfl rfl (by (simp only [a06, a0a, a0g]; omega))) rfl rfl ?_
 rintro _ H4 p3 ⟨a3, k3, rfl, ad, (a6 : HS _ _ _ [p3] _), _⟩
 have ad : OS F (.slice a3 a.length k3) a p3 := ad
 refine wa (.slice a3 a.length k3) rfl rfl rfl (ae 3 rfl ?_)
 obtain ⟨F5, Z, ag, a5, b0⟩ := OS.frz ad a6 (i := 0) rfl
 have ag : HS _ _ _ [[]] _ := ag
 refine wT 2 [] 1 0 [6] [(6, (iI 0))] rfl fun _ => aj (fun (mm : Nat) f H' => ∃ (o : List Int) (i : Nat) (z : Option Addr) (A : Nat) (F' : Fz), Fz.le F5 F' ∧ HS (Base.of H []) F' H' [[]] R ∧ SR F' (.slice z o.length A) o ∧ aD f [(1, (.slice a_b b.length k_b)), (5, (.slice z o.length A)), (6, (iI (i : Int)))] ∧ mm = b.length - i ∧ (i ≤ b.length) ∧ (o = cR a (b.take i))) _ ⟨a, 0, a3, k3, _, fR, ag, a5, ⟨rfl, rfl, rfl, trivial⟩, rfl, (by omega), (by rfl)⟩ ?_
 rintro b1 f7 H7 ⟨o, i, z, A, F7, N, E, U, ax, rfl, h1, h2⟩ a7
 refine au _ ax (fun _ => ?_)
 clear ax
 replace hT := (hT.mono Z).mono N
 replace hb := (hb.mono Z).mono N
 have n4 : o.length ≤ a.length + b.length := by rw [h2]; exact a0b er (by simp; omega)
 refine ah 2 rfl (wT 1 [] 9 12 [] [(12, (.bool (decide ((i : Int) < (b.length : Int)))))] rfl fun _ => am 3 5 (v := (decide ((i : Int) < (b.length : Int)))) rfl rfl rfl rfl (fun Y => ?_) (fun Y => ?_))
 ·
  have c9 := Y
  try simp only [BS] at c9
  refine aa ?_
  obtain ⟨bb, al⟩ := Sv.view (SR.sv hb E)
  have bz := fI (al i)
  refine wRo 5 0 [(4, .o (iI (b.getD i 0)))] 15 19 [] [(15, (.slice z o.length A)), (19, (iI (b.getD i 0)))] (vA (Sv.ix (j := (i : Int)) (SR.sv hb E) (by omega) (by omega)) (vA (ql 3 0 (vI (al i) (by omega)) rfl rfl) trivial)) rfl fun _ => az (ap rfl rfl rfl) rfl rfl (m6.cW ex o (b.getD i 0) (HS.call E) U (by omega) hT (by omega)) ?_
  rintro _ bl ⟨V, an, b2, bk, a2, J, rfl, av, rfl⟩
  replace J : HS _ _ _ [_] _ := HS.back E rfl J
  refine wa (.slice V (cY o (b.getD i 0)).length an) rfl rfl rfl (ae 2 rfl (wU 1 [] 13 14 [6] [(6, (iI ((i : Int) + 1)))] (vi (n := (i : Int) + 1) (by omega)) rfl fun _ => a7 _ _ _ ?_ ⟨cY o (b.getD i 0), i + 1, V, an, _, (fT (N) a2), J, av, ⟨rfl, rfl, rfl, trivial⟩, rfl, (by omega), (hO (by omega) h2)⟩))
  omega
 have c9 := Y
 try simp only [BS] at c9
 refine wT 1 [] 4 4 [21] [(4, (.slice z o.length A))] rfl fun _ => ak ⟨.inr rfl, _, rfl, z, A, o, _, (fT (Z) N), (HS.forget E), rfl, U, (uni_all (by omega) h2)⟩
theorem minus_c {a_a : Option Addr} {k_a : Nat} (a : List Int) {a_b : Option Addr} {k_b : Nat} (b : List Int) (hs : HS (.of H []) F H [] R) (ha : SR F (.slice a_a a.length k_a) a) (hb : SR F (.slice a_b b.length k_b) b) (hT : TB 37 tabC F) (hlen : a.length ≤ 1073741824 ∧ b.length ≤ 1073741824) : kKt ex 106 [(.slice a_a a.length k_a), (.slice a_b b.length k_b)] H fun v H' => ∃ (ar : Option Addr) (kr : Nat) (r : List Int) (p : Fp) (F' : Fz), Fz.le F F' ∧ HS (.of H []) F' H' [p] R ∧ v = .slice ar r.length kr ∧ OS F' (.slice ar r.length kr) r p ∧ r = jk a b := by
 refine aI Tryd.func106 rfl rfl (ah 1 rfl (wT 2 [] 4 4 [] [(4, (.slice none 0 0))] rfl fun _ => wT 3 [] 1 0 [5] [(5, (.slice none 0 0))] rfl fun _ => wT 2 [] 1 0 [6] [(6, (iI 0))] rfl fun _ => ?_))
 have ad := HS.snoc hs
 have ad : HS _ _ _ [[]] _ := ad
 refine aj (fun (mm : Nat) f H' => ∃ (o : List Int) (i : Nat) (z : Option Addr) (A : Nat) (E : Fp) (F' : Fz), Fz.le F F' ∧ HS (Base.of H []) F' H' [E] R ∧ OS F' (.slice z o.length A) o E ∧ aD f [(0, (.slice a_a a.length k_a)), (1, (.slice a_b b.length k_b)), (5, (.slice z o.length A)), (6, (iI (i : Int)))] ∧ mm = a.length - i ∧ (i ≤ a.length) ∧ (o = jk (a.take i) b)) _ ⟨([] : List Int), 0, none, 0, [], _, fR, ad, (OS.nil : OS _ (.slice none 0 0) ([] : List Int) []), ⟨rfl, rfl, rfl, rfl, trivial⟩, rfl, (by omega), (by rfl)⟩ ?_
 rintro b0 f4 H4 ⟨o, i, z, A, E, F4, N, J, T, av, rfl, h1, h2⟩ ay
 refine au _ av (fun _ => ?_)
 clear av
 replace hT := hT.mono N
 replace ha := ha.mono N
 replace hb := hb.mono N
 have n4 : o.length ≤ a.length := by rw [h2]; exact a0b min_len (by simp; omega)
 refine ah 2 rfl (wT 1 [] 7 10 [] [(10, (.bool (decide ((i : Int) < (a.length : Int)))))] rfl fun _ => am 4 5 (v := (decide ((i : Int) < (a.length : Int)))) rfl rfl rfl rfl (fun Y => ?_) (fun Y => ?_))
 ·
  have c7 := Y
  try simp only [BS] at c7
  obtain ⟨bk, ax⟩ := Sv.view (SR.sv ha J)
  have g9 := fI (ax i)
  refine wR 1 [(4, .o (iI (a.getD i 0))), (5, .o (.bool (gc b (a.getD i 0))))] 13 19 [] [(19, (.bool (!(gc b (a.getD i 0)))))] (vA (Sv.ix (j := (i : Int)) (SR.sv ha J) (by omega) (by omega)) (vA (ql 3 0 (vI (ax i) (by omega)) rfl rfl) (vA (m6.ed ex b (a.getD i 0) (HS.call J) hb (by omega) hT (by omega)) trivial))) rfl fun _ => am 0 2 (v := (!(gc b (a.getD i 0)))) rfl rfl rfl rfl (fun U => ?_) (fun U => ?_)
  ·
   have V := U
   try simp only [BS] at V
   refine aa ?_
   obtain ⟨a7, ag⟩ := Sv.view (SR.sv ha J)
   have bl := fI (ag i)
   refine wRo 5 0 [(4, .o (iI (a.getD i 0)))] 20 24 [] [(20, (.slice z o.length A)), (24, (iI (a.getD i 0)))] (vA (Sv.ix (j := (i : Int)) (SR.sv ha J) (by omega) (by omega)) (vA (ql 3 0 (vI (ag i) (by omega)) rfl rfl) trivial)) rfl fun _ => aH (bu (α := Int) (ps := [(0, (iI (a.getD i 0)))]) (cells := [(iI (a.getD i 0))]) ([(a.getD i 0)] : List Int) J rfl rfl rfl (by kernel_rfl) ⟨[(iI (a.getD i 0))], [], rfl, ⟨rfl, by omega⟩, rfl⟩ rfl) rfl rfl ?_
   rintro _ a8 a6 ⟨bb, bz, rfl, a3, (Z : HS _ _ _ [E, a6] _), _⟩
   refine aH (bC (α := Int) (q := 0) T Z rfl rfl rfl (OS.sv a3 Z (i := 1) rfl) rfl rfl rfl rfl rfl rfl rfl (by (simp only [a06, a0a, a0g]; omega))) rfl rfl ?_
   rintro _ a9 a1 ⟨an, a0, rfl, a4, (a5 : HS _ _ _ [a1, _] _), _⟩
   refine wa (.slice an (o ++ ([(a.getD i 0)] : List Int)).length a0) rfl rfl rfl (ae 2 rfl (wU 1 [] 11 12 [6] [(6, (iI ((i : Int) + 1)))] (vi (n := (i : Int) + 1) (by omega)) rfl fun _ => ay _ _ _ ?_ ⟨o ++ ([(a.getD i 0)] : List Int), i + 1, an, a0, a1, _, (N), (HS.sub a5 (a05 _ _)), a4, ⟨rfl, rfl, rfl, rfl, trivial⟩, rfl, (by omega), ((ic (by omega) h2).1 (by assumption))⟩))
   omega
  have V := U
  try simp only [BS] at V
  refine wU 1 [] 11 12 [6] [(6, (iI ((i : Int) + 1)))] (vi (n := (i : Int) + 1) (by omega)) rfl fun _ => ay _ _ _ ?_ ⟨o, i + 1, z, A, E, _, (N), J, T, ⟨rfl, rfl, rfl, rfl, trivial⟩, rfl, (by omega), ((ic (by omega) h2).2 (by assumption))⟩
  omega
 have c7 := Y
 try simp only [BS] at c7
 refine wT 1 [] 4 4 [27] [(4, (.slice z o.length A))] rfl fun _ => ak ⟨.inr rfl, _, rfl, z, A, o, E, _, (N), (HS.only J (i := 0) rfl), rfl, T, (by rw [h2, a0h (by omega)])⟩
end Go.Proofs.YtknafdcgpaejlaaDoor.ma
