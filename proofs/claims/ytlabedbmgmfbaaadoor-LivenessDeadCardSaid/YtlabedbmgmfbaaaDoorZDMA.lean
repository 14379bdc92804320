/-
 What instructions read and write, what follows a block, unions and differences of sets: the program and the reference, each by a symbolic run. No condition but bounds on lengths.
-/
import Derived.Test.YtlabedbmgmfbaaaDoorZDM6
import Derived.Test.YtlabedbmgmfbaaaDoorZDRD
import Derived.Test.YtlabedbmgmfbaaaDoorZDRC
noncomputable section
namespace Go.Proofs.YtlabedbmgmfbaaaDoor.ma
open Go.R
set_option maxRecDepth 10000
set_option linter.unusedVariables false
set_option linter.unusedSimpArgs false
open m1 m2 m3 m4 m5 m6
abbrev Asc (l : List Int) : Prop := l.Pairwise (· < ·)
def jt (a l : List Int) : List Int := l.foldl lp a
def minV (a b : List Int) : List Int := a.filter fun x => !conV b x
theorem asc_at {l : List Int} (h : Asc l) {i j : Nat} (hij : i < j) (hj : j < l.length) : l.getD i 0 < l.getD j 0 := by
 have := (List.pairwise_iff_getElem.1 h) i j (by omega) hj hij
 rw [List.getD_eq_getElem?_getD, List.getD_eq_getElem?_getD, List.getElem?_eq_getElem hj, List.getElem?_eq_getElem (show i < l.length by omega)]; exact this
theorem pre_lt {l : List Int} {n : Int} : ∀ x ∈ l.take (iF l n), x < n := by
 intro x hx
 have e : l.take (iF l n) = l.takeWhile (fun x => decide (x < n)) := by
  unfold iF
  exact (List.prefix_iff_eq_take.1 (List.takeWhile_prefix _)).symm
 rw [e] at hx
 have := List.all_eq_true.1 (List.all_takeWhile (p := fun x => decide (x < n)) (l := l)) x hx
 simpa using this
theorem pre_at {l : List Int} {n : Int} (h : iF l n < l.length) : ¬ l.getD (iF l n) 0 < n := by
 induction l with
 | nil => simp at h
 | cons x l ih =>
  unfold iF at h ⊢
  by_cases hx : x < n
  ·
   rw [List.takeWhile_cons_of_pos (by simpa using hx)] at h ⊢
   simp only [List.length_cons, List.getD_cons_succ] at h ⊢
   exact ih (by unfold iF; omega)
  ·
   rw [List.takeWhile_cons_of_neg (by simpa using hx)]
   simpa using hx
theorem pre_ge {l : List Int} {n : Int} (ha : Asc l) : ∀ x ∈ l.drop (iF l n), n ≤ x := by
 intro x hx
 obtain ⟨i, hi, rfl⟩ := List.mem_iff_getElem.1 hx
 rw [List.getElem_drop]
 rw [List.length_drop] at hi
 have h0 := pre_at (l := l) (n := n) (by omega)
 rw [List.getD_eq_getElem?_getD, List.getElem?_eq_getElem (show iF l n < l.length by omega)] at h0
 rcases Nat.eq_zero_or_pos i with rfl | hp
 ·
  simp only [Nat.add_zero]; simpa using h0
 ·
  have := (List.pairwise_iff_getElem.1 ha) (iF l n) (iF l n + i) (by omega) (by omega) (by omega)
  simp only [Option.getD_some] at h0
  omega
theorem ins_asc {l : List Int} {n : Int} (h : Asc l) : Asc (lp l n) := by
 unfold lp
 split
 ·
  exact h
 ·
  rename_i hc
  have hge := pre_ge (n := n) h
  have hlt := pre_lt (l := l) (n := n)
  refine List.pairwise_append.2 ⟨List.pairwise_append.2 ⟨h.sublist (List.take_sublist _ _), List.pairwise_singleton _ _, fun a ha b hb => ?_⟩, h.sublist (List.drop_sublist _ _), fun a ha b hb => ?_⟩
  ·
   rw [List.mem_singleton] at hb; subst hb; exact hlt a ha
  ·
   have hn : n < b := by
    have I := hge b hb
    rcases Int.lt_or_eq_of_le I with z | z
    ·
     exact z
    ·
     exfalso
     obtain ⟨i, hi, rfl⟩ := List.mem_iff_getElem.1 hb
     rw [List.length_drop] at hi
     rw [List.getElem_drop] at z
     apply hc
     refine ⟨by omega, ?_⟩
     have A := pre_at (l := l) (n := n) (by omega)
     rw [List.getD_eq_getElem?_getD, List.getElem?_eq_getElem (show iF l n < l.length by omega)] at A ⊢
     simp only [Option.getD_some] at A ⊢
     rcases Nat.eq_zero_or_pos i with rfl | hp
     ·
      simpa using z.symm
     ·
      have := (List.pairwise_iff_getElem.1 h) (iF l n) (iF l n + i) (by omega) (by omega) (by omega)
      omega
   rcases List.mem_append.1 ha with ha | ha
   ·
    have := hlt a ha; omega
   ·
    rw [List.mem_singleton] at ha; subst ha; exact hn
theorem ln {l : List Int} {n x : Int} : x ∈ lp l n ↔ x = n ∨ x ∈ l := by
 unfold lp
 split
 ·
  rename_i h
  constructor
  ·
   exact .inr
  ·
   rintro (rfl | z)
   ·
    rw [← h.2, List.getD_eq_getElem?_getD, List.getElem?_eq_getElem h.1]; exact List.getElem_mem h.1
   ·
    exact z
 ·
  rw [List.mem_append, List.mem_append, List.mem_singleton]
  constructor
  ·
   rintro ((h | h) | h)
   ·
    exact .inr (List.mem_of_mem_take h)
   ·
    exact .inl h
   ·
    exact .inr (List.mem_of_mem_drop h)
  ·
   rintro (h | h)
   ·
    exact .inl (.inr h)
   ·
    rw [← List.take_append_drop (iF l n) l] at h
    rcases List.mem_append.1 h with h | h
    ·
     exact .inl (.inl h)
    ·
     exact .inr h
theorem uni_asc {l : List Int} : ∀ {a : List Int}, Asc a → Asc (jt a l) := by
 induction l with
 | nil => exact fun h => h
 | cons x l ih => exact fun h => ih (ins_asc h)
theorem uni_mem {l : List Int} {x : Int} : ∀ {a : List Int}, x ∈ jt a l ↔ x ∈ a ∨ x ∈ l := by
 induction l with
 | nil => intro a; simp [jt]
 | cons y l ih =>
  intro a
  have : jt a (y :: l) = jt (lp a y) l := rfl
  rw [this, ih, ln, List.mem_cons]
  constructor
  ·
   rintro ((h | h) | h)
   ·
    exact .inr (.inl h)
   ·
    exact .inl h
   ·
    exact .inr (.inr h)
  ·
   rintro (h | h | h)
   ·
    exact .inl (.inr h)
   ·
    exact .inl (.inl h)
   ·
    exact .inr h
theorem uni_len {l : List Int} : ∀ {a : List Int}, (jt a l).length ≤ a.length + l.length := by
 induction l with
 | nil => intro a; exact Nat.le_refl _
 | cons y l ih =>
  intro a
  have z := ih (a := lp a y)
  have A := ins_len (l := a) (n := y)
  have : jt a (y :: l) = jt (lp a y) l := rfl
  rw [this, List.length_cons]; omega
theorem uni_snoc {a l : List Int} {x : Int} : jt a (l ++ [x]) = lp (jt a l) x := by unfold jt; rw [List.foldl_append]; rfl
theorem gB {α : Type} {d : α} {l : List α} {i : Nat} (h : i < l.length) : l.take (i + 1) = l.take i ++ [l.getD i d] := by
 rw [List.take_add_one, List.getElem?_eq_getElem h, List.getD_eq_getElem?_getD, List.getElem?_eq_getElem h]; rfl
theorem uni_step {a l o : List Int} {i : Nat} (h : i < l.length) (ho : o = jt a (l.take i)) : lp o (l.getD i 0) = jt a (l.take (i + 1)) := by rw [gB h (d := 0), uni_snoc, ho]
theorem uni_all {a l o : List Int} {i : Nat} (h : l.length ≤ i) (ho : o = jt a (l.take i)) : o = jt a l := by rw [ho, List.take_of_length_le h]
theorem pre_eqR {l : List Int} {n : Int} {k : Nat} (ha : Asc l) (hk : k ≤ l.length) (A : ∀ j, k ≤ j → j < l.length → n ≤ l.getD j 0) (I : 0 < k → l.getD (k - 1) 0 < n) : k = iF l n := by
 refine pre_eq hk (fun j hj => ?_) (fun hk' => by have := A k (Nat.le_refl _) hk'; omega)
 have J := I (by omega)
 rcases Nat.lt_or_ge j (k - 1) with z | z
 ·
  have := asc_at ha z (by omega); omega
 ·
  have : j = k - 1 := by omega
  subst this; exact J
theorem ge_step {l : List Int} {n : Int} {k : Nat} (h : ∀ j, k ≤ j → j < l.length → n ≤ l.getD j 0) (A : n ≤ l.getD (k - 1) 0) : ∀ j, k - 1 ≤ j → j < l.length → n ≤ l.getD j 0 := fun j O I => by
 rcases Nat.lt_or_ge j k with z | z
 ·
  have J : j = k - 1 := by omega
  subst J; exact A
 ·
  exact h j z I
theorem cp_ins {l : List Int} {n : Int} {k : Nat} (hk : k = iF l n) (hle : k ≤ l.length) (h : ¬ (k < l.length ∧ l.getD k 0 = n)) : (cpL (l ++ [0]) (k + 1) ((l ++ [0]).drop k)).set k n = lp l n := by
 have e : cpL (l ++ [0]) (k + 1) ((l ++ [0]).drop k) = (l ++ [0]).take (k + 1) ++ l.drop k := by
  unfold cpL
  have A : ((l ++ [0]).drop k).length = l.length + 1 - k := by simp
  have z : (l ++ [(0 : Int)]).length = l.length + 1 := by simp
  rw [A, z, show min (l.length + 1 - k) (l.length + 1 - (k + 1)) = l.length - k by omega, show k + 1 + (l.length - k) = l.length + 1 by omega]
  rw [show List.drop (l.length + 1) (l ++ [(0 : Int)]) = [] from List.drop_of_length_le (by rw [z]; exact Nat.le_refl _), List.append_nil]
  congr 1
  rw [List.drop_append, List.take_append, List.length_drop, show l.length + 1 - (k + 1) = l.length - k by omega, Nat.sub_self, List.take_zero, List.append_nil, List.take_of_length_le (by rw [List.length_drop]; omega)]
 rw [e, ← ins_new hk h, List.append_assoc, List.take_add_one]
 rw [List.set_append]
 have I : (List.take k (l ++ [0])) = l.take k := by rw [List.take_append, Nat.sub_eq_zero_of_le hle, List.take_zero, List.append_nil]
 have J : (l ++ [(0 : Int)])[k]?.toList = [(l ++ [(0 : Int)]).getD k 0] := by
  rw [List.getD_eq_getElem?_getD, List.getElem?_eq_getElem (show k < (l ++ [(0 : Int)]).length by simp; omega)]; rfl
 rw [I, J]
 have O : (List.take k l ++ [(l ++ [(0 : Int)]).getD k 0]).length = k + 1 := by simp; omega
 rw [if_pos (by rw [O]; omega), List.set_append, if_neg (by rw [List.length_take]; omega), List.length_take, show k - min k l.length = 0 by omega]
 simp
def fe (v : VInT) : List Int := (if (aI v.i.op).ra then [v.i.a] else []) ++ ((if (aI v.i.op).rb then [v.i.b] else []) ++ ((if v.i.op = 11 ∨ v.i.op = 12 then [v.i.c] else []) ++ (if v.i.op = 6 then v.args else [])))
def bd (v : VInT) : List Int := if alV v.i.op then jt [] (fe v) else []
def aQ (v : VInT) : List Int := if alV v.i.op = true ∧ ((aI v.i.op).wa = true ∨ v.i.op = 6 ∨ v.i.op = 38) then [v.i.a] else []
def bN (b : BlkT) : List Int := if b.fin = 1 then [b.tgt] else if b.fin = 2 then lp [b.tgt] b.els else []
def endV (b : BlkT) : List Int := if b.fin = 2 ∨ b.fin = 3 then [b.reg] else []
theorem reads_no {v : VInT} (h : alV v.i.op = false) : [] = bd v := by unfold bd; rw [h]; rfl
theorem reads_yes {v : VInT} {l : List Int} (h : alV v.i.op = true) (hl : l = fe v) : jt [] l = bd v := by unfold bd; rw [h, hl]; rfl
theorem ie {a : Int} {p : Prop} [Decidable p] : (if p then [a] else []).length ≤ 1 := by split <;> simp
theorem writes_no {v : VInT} (h : alV v.i.op = false) : [] = aQ v := by unfold aQ; rw [if_neg (by simp [h])]
theorem ke {v : VInT} (h : alV v.i.op = true) (z : (aI v.i.op).wa = true ∨ v.i.op = 6 ∨ v.i.op = 38) : [v.i.a] = aQ v := by unfold aQ; rw [if_pos ⟨h, z⟩]
theorem writes_not {v : VInT} (h : ¬ ((aI v.i.op).wa = true ∨ v.i.op = 6 ∨ v.i.op = 38)) : [] = aQ v := by unfold aQ; rw [if_neg fun hh => h hh.2]
theorem succ1 {b : BlkT} (h : b.fin = 1) : [b.tgt] = bN b := by unfold bN; rw [if_pos h]
theorem succ2 {b : BlkT} (h : b.fin = 2) : bN b = lp [b.tgt] b.els := by unfold bN; rw [if_neg (by omega), if_pos h]
theorem succ0 {b : BlkT} (h : b.fin ≠ 1 ∧ b.fin ≠ 2) : [] = bN b := by unfold bN; rw [if_neg h.1, if_neg h.2]
set_option maxHeartbeats 1000000 in
theorem unique_c (ex : FuncId) {a_l : Option Addr} {k_l : Nat} (l : List Int) {F : Fz} {H : Heap} {R : List Fp} (hs : HS (.of H []) F H [] R) (hl : SR F (.slice a_l l.length k_l) l) (hT : TB 37 tabC F) (hlen : l.length ≤ 1048600) : C Tryd.prog 1 (KT 60 ex 37 tabC) 76 [(.slice a_l l.length k_l)] H fun v H' => ∃ (ar : Option Addr) (kr : Nat) (r : List Int) (p : Fp) (F' : Fz), Fz.le F F' ∧ HS (.of H []) F' H' [p] R ∧ v = .slice ar r.length kr ∧ OS F' (.slice ar r.length kr) r p ∧ r = jt [] l := by
 refine aL Tryd.func76 rfl rfl ?_
 refine ao 1 rfl ?_
 refine wR 2 [] 2 2 [] [(2, (.slice none 0 0))] trivial rfl fun _ => ?_
 refine wR 3 [] 1 0 [3] [(3, (.slice none 0 0))] trivial rfl fun _ => ?_
 refine wR 2 [] 7 9 [] [(7, (.slice a_l l.length k_l)), (8, (iI (l.length : Int))), (9, (iI 0))] trivial rfl fun _ => ?_
 have a9 := HS.snoc hs
 have a9 : HS _ _ _ [[]] _ := a9
 refine aC (fun (mm : Nat) f H' => ∃ (ow : List Int) (i : Nat) (z : Option Addr) (A : Nat) (J : Fp) (F' : Fz), Fz.le F F' ∧ HS (Base.of H []) F' H' [J] R ∧ OS F' (.slice z ow.length A) ow J ∧ aT f [(2, (.slice none 0 0)), (3, (.slice z ow.length A)), (7, (.slice a_l l.length k_l)), (8, (iI (l.length : Int))), (9, (iI (i : Int)))] ∧ mm = l.length - i ∧ (i ≤ l.length) ∧ (ow = jt [] (l.take i))) _ ⟨([] : List Int), 0, none, 0, [], _, fR, a9, (OS.nil : OS F (.slice none 0 0) ([] : List Int) []), (agC rfl (agC rfl (agC rfl (agC rfl (agC rfl agN))))), rfl, (by omega), (by rfl)⟩ ?_
 rintro e3 f4 H4 ⟨ow, i, z, A, J, F4, a4, T, I, b3, rfl, h1, h2⟩ b5
 refine aH _ b3 (fun _ => ?_)
 clear b3
 replace hl := hl.mono a4
 have hasc : Asc ow := h2 ▸ uni_asc List.Pairwise.nil
 have hle : ow.length ≤ i := by rw [h2]; exact Nat.le_trans uni_len (by simp; omega)
 refine ao 1 rfl ?_
 refine wR 2 [] 10 10 [] [(10, (.bool (decide ((i : Int) < (l.length : Int)))))] trivial rfl fun _ => ?_
 refine am 4 5 (v := (decide ((i : Int) < (l.length : Int)))) rfl rfl rfl rfl (fun c7 => ?_) (fun c7 => ?_)
 ·
  try simp only [BS] at c7
  obtain ⟨et, b4⟩ := Sv.view (SR.sv hl T)
  have g9 := fI (b4 i)
  refine wR 2 [(1, .o (iI (l.getD i 0)))] 11 12 [5] [(5, (iI (l.getD i 0)))] (vA (Sv.ix (j := (i : Int)) (SR.sv hl T) (by omega) (by omega)) (vA (ql 3 0 (vI (b4 i) (by omega)) rfl rfl) trivial)) rfl fun _ => ?_
  refine wR 3 [] 13 14 [6] [(6, (iI (ow.length : Int)))] trivial rfl fun _ => ?_
  refine aC (fun (mm : Nat) f H' => ∃ (k : Nat), H' = H4 ∧ aT f [(2, (.slice none 0 0)), (3, (.slice z ow.length A)), (5, (iI (l.getD i 0))), (6, (iI (k : Int))), (7, (.slice a_l l.length k_l)), (8, (iI (l.length : Int))), (9, (iI (i : Int))), (10, (.bool (decide ((i : Int) < (l.length : Int)))))] ∧ mm = k + 1 ∧ (k ≤ ow.length) ∧ (∀ j, k ≤ j → j < ow.length → l.getD i 0 ≤ ow.getD j 0)) _ ⟨ow.length, rfl, (agC rfl (agC rfl (agC rfl (agC rfl (agC rfl (agC rfl (agC rfl (agC rfl agN)))))))), rfl, (by omega), (by intro j h5 h6; omega)⟩ ?_
  rintro ec ev H4 ⟨k, rfl, a8, rfl, h3, h4⟩ c0
  refine aH _ a8 (fun _ => ?_)
  clear a8
  refine ao 2 rfl ?_
  obtain ⟨d1, bb⟩ := Sv.view (OS.sv I T (i := 0) rfl)
  have ey := fI (bb (k - 1))
  refine wR 1 [(5, .e ((k - 1 : Nat) : Int)), (7, .o (iI (ow.getD (k - 1) 0)))] 15 25 [] [(25, (.bool ((decide ((0 : Int) < (k : Int))) && (decide ((l.getD i 0) ≤ (ow.getD (k - 1) 0))))))] (vA (fun (Z : (decide ((0 : Int) < (k : Int))) = true) => (ve (n := (k : Int) - 1) (m := ((k - 1 : Nat) : Int)) (by (try simp only [BS] at Z); omega) (by (try simp only [BS] at Z); omega))) (vA (fun (Z : (decide ((0 : Int) < (k : Int))) = true) => (Sv.ix (j := ((k - 1 : Nat) : Int)) (OS.sv I T (i := 0) rfl) (by (try simp only [BS] at Z); omega) (by (try simp only [BS] at Z); omega))) (vA (fun (Z : (decide ((0 : Int) < (k : Int))) = true) => (ql 3 0 (vI (bb (k - 1)) (by (try simp only [BS] at Z); omega)) rfl rfl)) trivial))) rfl fun _ => ?_
  refine am 2 6 (v := ((decide ((0 : Int) < (k : Int))) && (decide ((l.getD i 0) ≤ (ow.getD (k - 1) 0))))) rfl rfl rfl rfl (fun a5 => ?_) (fun a5 => ?_)
  ·
   try simp only [BS] at a5
   refine wR 2 [(1, .e ((k - 1 : Nat) : Int))] 26 27 [6] [(6, (iI ((k - 1 : Nat) : Int)))] (vA (ve (n := (k : Int) - 1) (m := ((k - 1 : Nat) : Int)) (by omega) (by omega)) trivial) rfl fun _ => ?_
   refine c0 _ _ _ ?_ ⟨k - 1, rfl, (agC rfl (agC rfl (agC rfl (agC rfl (agC rfl (agC rfl (agC rfl (agC rfl agN)))))))), rfl, (by omega), (by exact ge_step h4 (by omega))⟩
   omega
  ·
   try simp only [BS] at a5
   have hk := pre_eqR hasc h3 h4 (by omega)
   obtain ⟨d2, bj⟩ := Sv.view (OS.sv I T (i := 0) rfl)
   have ez := fI (bj k)
   refine wR 1 [(8, .o (iI (ow.getD k 0)))] 28 39 [] [(39, (.bool ((decide ((k : Int) < (ow.length : Int))) && ((ow.getD k 0) == (l.getD i 0)))))] (vA (fun (Z : (decide ((k : Int) < (ow.length : Int))) = true) => (Sv.ix (j := (k : Int)) (OS.sv I T (i := 0) rfl) (by (try simp only [BS] at Z); omega) (by (try simp only [BS] at Z); omega))) (vA (fun (Z : (decide ((k : Int) < (ow.length : Int))) = true) => (ql 3 0 (vI (bj k) (by (try simp only [BS] at Z); omega)) rfl rfl)) trivial)) rfl fun _ => ?_
   refine am 3 2 (v := ((decide ((k : Int) < (ow.length : Int))) && ((ow.getD k 0) == (l.getD i 0)))) rfl rfl rfl rfl (fun a6 => ?_) (fun a6 => ?_)
   ·
    try simp only [BS] at a6
    refine wR 1 [] 9 9 [55] [(9, (iI ((i : Int) + 1)))] (vA (vi (n := (i : Int) + 1) (by omega)) trivial) rfl fun _ => ?_
    refine b5 _ _ _ ?_ ⟨ow, i + 1, z, A, J, _, (a4), T, I, (agC rfl (agC rfl (agC rfl (agC rfl (agC rfl agN))))), rfl, (by omega), (by (rw [← uni_step (by omega) h2]; exact ins_same hk (by omega) (by omega)))⟩
    omega
   ·
    try simp only [BS] at a6
    refine ab ?_
    refine wm (.slice z ow.length A) rfl rfl rfl ?_
    refine aR (ct (α := Int) (ps := [(0, (iI 0))]) (cells := [(iI 0)]) ([0] : List Int) T rfl rfl rfl (by kernel_rfl) ⟨[(iI 0)], [], rfl, ⟨rfl, by omega⟩, rfl⟩ rfl) rfl rfl ?_
    rintro _ ei dl ⟨em, e0, rfl, co, aq, _⟩
    have aq : HS _ _ _ [J, dl] _ := aq
    refine aR (cQ (α := Int) (q := 0) I aq rfl rfl rfl (OS.sv co aq (i := 1) rfl) rfl rfl rfl rfl rfl rfl rfl (by (simp only [List.length_append, List.length_cons, List.length_nil]; omega))) rfl rfl ?_
    rintro _ c6 b6 ⟨U, V, rfl, a0, ad, _⟩
    have ad : HS _ _ _ [b6, _] _ := ad
    refine wa (.slice U (ow ++ ([0] : List Int)).length V) rfl rfl rfl ?_
    refine ai 2 rfl ?_
    have la : (ow ++ ([0] : List Int)).length = ow.length + 1 := by simp
    refine aV rfl ?_
    refine fm (.slice U (ow ++ ([0] : List Int)).length V) rfl rfl rfl ?_
    refine fm (iI (k : Int)) rfl rfl rfl ?_
    refine wfv (v := (iI ((k : Int) + 1))) (ap_add rfl rfl (w_i64 (n := (k : Int) + 1) (by omega))) ?_
    refine dO (id := .r) (rs_cutX (α := Int) (i := k + 1) a0 ad.log0 (q := 0) rfl rfl rfl rfl (optN (by omega)) (by omega)) rfl rfl (by rintro _ _ _ ⟨_, _, _, hH, _⟩; simp only at hH; subst hH; exact did_r fun b hb => absurd hb List.not_mem_nil) (kb rfl) ?_
    rintro _ _ _ ⟨ep, e1, rfl, ag, eb, bl⟩ c3 b0
    simp only at ag; replace ag := ag.symm; subst ag
    have av := HS.lg ad.log0 ad b0
    generalize ({ { c6 with log := [] } with log := c3 } : Heap) = ch at av ⊢
    refine fm (.slice U (ow ++ ([0] : List Int)).length V) rfl rfl rfl ?_
    refine fm (iI (k : Int)) rfl rfl rfl ?_
    refine dO (id := .r) (rs_cutX (α := Int) (i := k) a0 av.log0 (q := 0) rfl rfl rfl rfl (optN (by omega)) (by omega)) rfl rfl (by rintro _ _ _ ⟨_, _, _, hH, _⟩; simp only at hH; subst hH; exact did_r fun b hb => absurd hb List.not_mem_nil) (kb rfl) ?_
    rintro _ _ _ ⟨es, e2, rfl, aj, cv, dn⟩ c4 b1
    simp only at aj; replace aj := aj.symm; subst aj
    have a2 := HS.lg av.log0 av b1
    generalize ({ { ch with log := [] } with log := c4 } : Heap) = dt at a2 ⊢
    refine dO (id := .x (b6.map Prod.fst)) (rs_cp (α := Int) (i := k + 1) a0 a2.log0 (q := 0) rfl rfl bl (by omega) cv rfl rfl rfl) rfl rfl (by rintro _ _ b7 ⟨rfl, ap, _, hwr⟩; exact cF rfl rfl (Wr.did hwr)) (kb rfl) ?_
    rintro _ c8 b7 ⟨rfl, ap, O, _⟩ c5 b2
    replace O := HS.lg O a2 b2
    generalize ({ c8 with log := c5 } : Heap) = dv at O ⊢
    have O : HS _ _ _ [b7, _] _ := O
    have ea := OS.len' ap
    refine bZ ?_
    refine ao 1 rfl ?_
    refine ab ?_
    refine wRo 4 0 [] 51 54 [] [(53, (iI (l.getD i 0))), (54, (.pointer (some ⟨sB (.slice U (ow ++ ([0] : List Int)).length V), sO (.slice U (ow ++ ([0] : List Int)).length V) + k * Rp.sz Int, none⟩)))] (vA (Sv.ix (j := (k : Int)) (OS.sv ap O (i := 0) rfl) (by omega) (by omega)) trivial) rfl fun _ => ?_
    refine aU (eh (α := Int) (j := k) (off := 0) (q := 0) (l.getD i 0) ap O rfl rfl rfl rfl rfl rfl rfl rfl (aS (x := (0 : Int)) (by omega)) rfl (by rintro cs ⟨rfl, _⟩; exact ⟨Nat.le_of_ble_eq_true rfl, rfl, by omega⟩)) rfl ?_
    rintro _ el b9 ⟨a1, a3, _⟩
    have a3 : HS _ _ _ [b9, _] _ := a3
    have ds := OS.len' a1
    refine ai 2 rfl ?_
    refine wR 1 [] 9 9 [55] [(9, (iI ((i : Int) + 1)))] (vA (vi (n := (i : Int) + 1) (by omega)) trivial) rfl fun _ => ?_
    refine b5 _ _ _ ?_ ⟨(cpL (ow ++ ([0] : List Int)) (k + 1) ((ow ++ ([0] : List Int)).drop k)).set k (l.getD i 0), i + 1, U, V, b9, _, (a4), (HS.sub a3 (List.sublist_append_left _ _)), (OS.norm a1), (agC rfl (agC (show Value.slice U (ow ++ ([0] : List Int)).length V = Value.slice U ((cpL (ow ++ ([0] : List Int)) (k + 1) ((ow ++ ([0] : List Int)).drop k)).set k (l.getD i 0)).length V by rw [OS.len' a1]) (agC rfl (agC rfl (agC rfl agN))))), rfl, (by omega), (by (rw [cp_ins hk h3 (by omega)]; exact uni_step (by omega) h2))⟩
    omega
 ·
  try simp only [BS] at c7
  refine wR 1 [] 2 2 [56] [(2, (.slice z ow.length A))] trivial rfl fun _ => ?_
  refine ah ⟨.inr rfl, _, rfl, z, A, ow, J, _, (a4), (HS.only T (i := 0) rfl), rfl, I, (by exact uni_all (by omega) h2)⟩
set_option maxHeartbeats 1000000 in
theorem vreads_c (ex : FuncId) {ad : Option Addr} {ag : Nat} (iv : VInT) {F : Fz} {H : Heap} {R : List Fp} (hs : HS (.of H []) F H [] R) (hm : in64 iv.i.op) (hn : in64 iv.i.a) (hp : in64 iv.i.b) (hr : in64 iv.i.c) (ht : in64 iv.i.n) (z : SR F (.slice ad iv.args.length ag) iv.args) (hT : TB 37 tabC F) (hlen : iv.args.length ≤ 1048576) : C Tryd.prog 1 (KT 60 ex 37 tabC) 45 [(.agg ⟨[(iI iv.i.op), (iI iv.i.a), (iI iv.i.b), (iI iv.i.c), (iI iv.i.n), (.slice ad iv.args.length ag)]⟩)] H fun v H' => ∃ (ar : Option Addr) (kr : Nat) (r : List Int) (p : Fp) (F' : Fz), Fz.le F F' ∧ HS (.of H []) F' H' [p] R ∧ v = .slice ar r.length kr ∧ OS F' (.slice ar r.length kr) r p ∧ r = bd iv := by
 refine aL Tryd.func45 rfl rfl ?_
 refine ao 1 rfl ?_
 refine ab ?_
 refine aR (cw hs rfl rfl) rfl rfl ?_
 rintro _ H2 _ ⟨b1, rfl, a0, _⟩
 let b7 : Fp := [(b1, .cells [(iI iv.i.op), (iI iv.i.a), (iI iv.i.b), (iI iv.i.c), (iI iv.i.n), (.slice ad iv.args.length ag)] none false)]
 have a0 : HS _ _ _ [b7] _ := a0
 refine wa (.slice none 0 0) rfl rfl rfl ?_
 refine ai 3 rfl ?_
 refine wR 1 [(2, .o (iI iv.i.op)), (3, .o (.bool (alV iv.i.op)))] 6 10 [] [(10, (.bool (!(alV iv.i.op))))] (vA (ql 3 0 (HS.hc a0 (i := 0) rfl) rfl rfl) (vA (m1.kW ex iv.i.op H2) trivial)) rfl fun _ => ?_
 refine am 1 2 (v := (!(alV iv.i.op))) rfl rfl rfl rfl (fun c4 => ?_) (fun c4 => ?_)
 ·
  try simp only [BS] at c4
  refine wR 1 [] 2 2 [] [(2, (.slice none 0 0))] trivial rfl fun _ => ?_
  refine ah ⟨.inr rfl, _, rfl, none, 0, ([] : List Int), [], _, fR, (HS.cons (HS.forget a0)), rfl, (OS.nil : OS _ _ _ []), (by exact reads_no (by assumption))⟩
 ·
  try simp only [BS] at c4
  refine ab ?_
  refine wRo 3 0 [(2, .o (iI iv.i.op))] 12 14 [] [(14, (iI iv.i.op))] (vA (ql 3 0 (HS.hc a0 (i := 0) rfl) rfl rfl) trivial) rfl fun _ => ?_
  refine aD (az rfl rfl rfl) rfl rfl (m1.mInfo_c ex iv.i.op (HS.call a0) (by omega) hT) ?_
  rintro _ H7 ⟨x7, o7, F7, d1, b3, rfl, g9, ha, rfl, rfl⟩
  replace b3 := HS.back a0 rfl b3
  have b3 : HS _ _ _ [_] _ := b3
  replace hT := hT.mono d1
  replace z := z.mono d1
  refine wRo 3 4 [] 16 17 [11] [(16, (.agg ⟨[(.string ⟨⟨(aI iv.i.op).name.b⟩⟩), (iI (aI iv.i.op).form), (.bool (aI iv.i.op).ra), (.bool (aI iv.i.op).wa), (.bool (aI iv.i.op).rb), (.bool (aI iv.i.op).mt), (iI (aI iv.i.op).words)]⟩)), (17, (.bool (infO iv.i.op)))] trivial rfl fun _ => ?_
  refine aR (bK b3 rfl) rfl rfl ?_
  rintro _ hD _ ⟨b9, rfl, c3, _⟩
  have c3 : HS _ _ _ [_, [(b9, .cells [(.string ⟨⟨[]⟩⟩), (iI 0), (.bool false), (.bool false), (.bool false), (.bool false), (iI 0)] none false)]] _ := c3
  refine aU (aG (q := 1) c3 rfl rfl rfl rfl rfl rfl rfl rfl rfl) rfl ?_
  rintro _ hE _ ⟨a9, _⟩
  let ch : Fp := [(b9, .cells [(.string ⟨⟨(aI iv.i.op).name.b⟩⟩), (iI (aI iv.i.op).form), (.bool (aI iv.i.op).ra), (.bool (aI iv.i.op).wa), (.bool (aI iv.i.op).rb), (.bool (aI iv.i.op).mt), (iI (aI iv.i.op).words)] none false)]
  have a9 : HS _ _ _ [_, ch] _ := a9
  refine wa (.bool (infO iv.i.op)) rfl rfl rfl ?_
  refine ai 2 rfl ?_
  refine wR 3 [] 1 0 [5] [(5, (.slice none 0 0))] trivial rfl fun _ => ?_
  refine wR 1 [(1, .o (.bool (aI iv.i.op).ra))] 18 19 [] [(19, (.bool (aI iv.i.op).ra))] (vA (ql 4 2 (HS.hc a9 (i := 1) rfl) rfl rfl) trivial) rfl fun _ => ?_
  have av := HS.snoc a9
  have av : HS _ _ _ [_, _, []] _ := av
  refine cT (fun f H' => ∃ (l1 : List Int) (A : Option Addr) (O : Nat) (V : Fp) (F' : Fz), Fz.le F7 F' ∧ HS (Base.of H []) F' H' [b7, ch, V] R ∧ OS F' (.slice A l1.length O) l1 V ∧ aT f [(1, (.pointer (some ⟨b1, 0, none⟩))), (2, (.slice none 0 0)), (3, (.pointer (some ⟨b9, 0, none⟩))), (5, (.slice A l1.length O))] ∧ (l1 = if (aI iv.i.op).ra = true then [iv.i.a] else [])) (fun ei => ?_) ?_
  ·
   refine am 0 0 (v := (aI iv.i.op).ra) rfl rfl rfl rfl (fun dk => ?_) (fun dk => ?_)
   ·
    try simp only [BS] at dk
    refine ab ?_
    refine wRo 4 0 [(3, .o (iI iv.i.a))] 20 23 [] [(20, (.slice none 0 0)), (23, (iI iv.i.a))] (vA (ql 3 1 (HS.hc av (i := 0) rfl) rfl rfl) trivial) rfl fun _ => ?_
    refine aR (ct (α := Int) (ps := [(0, (iI iv.i.a))]) (cells := [(iI iv.i.a)]) ([iv.i.a] : List Int) av rfl rfl rfl (by kernel_rfl) ⟨[(iI iv.i.a)], [], rfl, ⟨rfl, by omega⟩, rfl⟩ rfl) rfl rfl ?_
    rintro _ hG hb ⟨hV, h4, rfl, f6, bj, _⟩
    have bj : HS _ _ _ [_, _, _, hb] _ := bj
    refine aR (cQ (α := Int) (q := 2) (OS.nil : OS F7 (.slice none 0 0) ([] : List Int) []) bj rfl rfl rfl (OS.sv f6 bj (i := 3) rfl) rfl rfl rfl rfl rfl rfl rfl (by (simp only [List.length_append, List.length_cons, List.length_nil]; omega))) rfl rfl ?_
    rintro _ hH ey ⟨c9, es, rfl, c0, c5, _⟩
    have c5 : HS _ _ _ [_, _, ey, _] _ := c5
    have c0 : OS F7 (.slice c9 ([iv.i.a] : List Int).length es) ([iv.i.a] : List Int) ey := c0
    refine wa (.slice c9 ([iv.i.a] : List Int).length es) rfl rfl rfl ?_
    refine ai 0 rfl ?_
    exact ei _ _ ⟨([iv.i.a] : List Int), c9, es, ey, _, fR, (HS.sub c5 (List.sublist_append_left _ _)), c0, (agC rfl (agC rfl (agC rfl (agC rfl agN)))), (by (rw [if_pos (by first | assumption | omega)]; done))⟩
   ·
    try simp only [BS] at dk
    exact ei _ _ ⟨([] : List Int), none, 0, [], _, fR, av, (OS.nil : OS F7 (.slice none 0 0) ([] : List Int) []), (agC rfl (agC rfl (agC rfl (agC rfl agN)))), (by (rw [if_neg (by first | omega | (intro hh; simp_all; done))]; done))⟩
  ·
   rintro hY hF ⟨l1, A, O, V, g6, ci, bb, b4, d2, q1⟩
   refine aH _ d2 (fun _ => ?_)
   clear d2
   replace hT := hT.mono ci
   replace z := z.mono ci
   have n1 : l1.length ≤ 1 := by rw [q1]; exact ie
   refine ao 3 rfl ?_
   refine wR 1 [(1, .o (.bool (aI iv.i.op).rb))] 26 27 [] [(27, (.bool (aI iv.i.op).rb))] (vA (ql 4 4 (HS.hc bb (i := 1) rfl) rfl rfl) trivial) rfl fun _ => ?_
   refine cT (fun f H' => ∃ (l2 : List Int) (I : Option Addr) (T : Nat) (Z : Fp) (F' : Fz), Fz.le g6 F' ∧ HS (Base.of H []) F' H' [b7, ch, Z] R ∧ OS F' (.slice I l2.length T) l2 Z ∧ aT f [(1, (.pointer (some ⟨b1, 0, none⟩))), (2, (.slice none 0 0)), (5, (.slice I l2.length T))] ∧ (l2 = l1 ++ if (aI iv.i.op).rb = true then [iv.i.b] else [])) (fun el => ?_) ?_
   ·
    refine am 0 0 (v := (aI iv.i.op).rb) rfl rfl rfl rfl (fun dl => ?_) (fun dl => ?_)
    ·
     try simp only [BS] at dl
     refine ab ?_
     refine wRo 4 0 [(3, .o (iI iv.i.b))] 28 31 [] [(28, (.slice A l1.length O)), (31, (iI iv.i.b))] (vA (ql 3 2 (HS.hc bb (i := 0) rfl) rfl rfl) trivial) rfl fun _ => ?_
     refine aR (ct (α := Int) (ps := [(0, (iI iv.i.b))]) (cells := [(iI iv.i.b)]) ([iv.i.b] : List Int) bb rfl rfl rfl (by kernel_rfl) ⟨[(iI iv.i.b)], [], rfl, ⟨rfl, by omega⟩, rfl⟩ rfl) rfl rfl ?_
     rintro _ hK he ⟨hW, h5, rfl, f7, bl, _⟩
     have bl : HS _ _ _ [_, _, V, he] _ := bl
     refine aR (cQ (α := Int) (q := 2) b4 bl rfl rfl rfl (OS.sv f7 bl (i := 3) rfl) rfl rfl rfl rfl rfl rfl rfl (by (simp only [List.length_append, List.length_cons, List.length_nil]; omega))) rfl rfl ?_
     rintro _ hL fd ⟨e2, e5, rfl, f9, c6, _⟩
     have c6 : HS _ _ _ [_, _, fd, _] _ := c6
     refine wa (.slice e2 (l1 ++ ([iv.i.b] : List Int)).length e5) rfl rfl rfl ?_
     refine ai 0 rfl ?_
     exact el _ _ ⟨l1 ++ ([iv.i.b] : List Int), e2, e5, fd, _, fR, (HS.sub c6 (List.sublist_append_left _ _)), f9, (agC rfl (agC rfl (agC rfl agN))), (by (rw [if_pos (by first | assumption | omega)]; done))⟩
    ·
     try simp only [BS] at dl
     exact el _ _ ⟨l1, A, O, V, _, fR, bb, b4, (agC rfl (agC rfl (agC rfl agN))), (by (rw [if_neg (by first | omega | (intro hh; simp_all; done)), List.append_nil]))⟩
   ·
    rintro h1 hI ⟨l2, I, T, Z, g7, co, a1, b5, ea, q2⟩
    refine aH _ ea (fun _ => ?_)
    clear ea
    replace hT := hT.mono co
    replace z := z.mono co
    have n2 : l2.length ≤ 2 := by rw [q2, List.length_append]; exact Nat.add_le_add n1 ie
    refine ao 3 rfl ?_
    refine wR 1 [(2, .o (iI iv.i.op)), (7, .o (iI iv.i.op))] 34 43 [] [(43, (.bool ((iv.i.op == 11) || (iv.i.op == 12))))] (vA (ql 3 0 (HS.hc a1 (i := 0) rfl) rfl rfl) (vA (fun (g1 : (iv.i.op == 11) = false) => (ql 3 0 (HS.hc a1 (i := 0) rfl) rfl rfl)) trivial)) rfl fun _ => ?_
    refine cT (fun f H' => ∃ (l3 : List Int) (J : Option Addr) (U : Nat) (aq : Fp) (F' : Fz), Fz.le g7 F' ∧ HS (Base.of H []) F' H' [b7, ch, aq] R ∧ OS F' (.slice J l3.length U) l3 aq ∧ aT f [(1, (.pointer (some ⟨b1, 0, none⟩))), (2, (.slice none 0 0)), (5, (.slice J l3.length U))] ∧ (l3 = l2 ++ if iv.i.op = 11 ∨ iv.i.op = 12 then [iv.i.c] else [])) (fun em => ?_) ?_
    ·
     refine am 0 0 (v := ((iv.i.op == 11) || (iv.i.op == 12))) rfl rfl rfl rfl (fun dn => ?_) (fun dn => ?_)
     ·
      try simp only [BS] at dn
      refine ab ?_
      refine wRo 4 0 [(3, .o (iI iv.i.c))] 44 47 [] [(44, (.slice I l2.length T)), (47, (iI iv.i.c))] (vA (ql 3 3 (HS.hc a1 (i := 0) rfl) rfl rfl) trivial) rfl fun _ => ?_
      refine aR (ct (α := Int) (ps := [(0, (iI iv.i.c))]) (cells := [(iI iv.i.c)]) ([iv.i.c] : List Int) a1 rfl rfl rfl (by kernel_rfl) ⟨[(iI iv.i.c)], [], rfl, ⟨rfl, by omega⟩, rfl⟩ rfl) rfl rfl ?_
      rintro _ hN hf ⟨hX, h6, rfl, gn, b0, _⟩
      have b0 : HS _ _ _ [_, _, Z, hf] _ := b0
      refine aR (cQ (α := Int) (q := 2) b5 b0 rfl rfl rfl (OS.sv gn b0 (i := 3) rfl) rfl rfl rfl rfl rfl rfl rfl (by (simp only [List.length_append, List.length_cons, List.length_nil]; omega))) rfl rfl ?_
      rintro _ hP fi ⟨e3, e6, rfl, g2, c7, _⟩
      have c7 : HS _ _ _ [_, _, fi, _] _ := c7
      refine wa (.slice e3 (l2 ++ ([iv.i.c] : List Int)).length e6) rfl rfl rfl ?_
      refine ai 0 rfl ?_
      exact em _ _ ⟨l2 ++ ([iv.i.c] : List Int), e3, e6, fi, _, fR, (HS.sub c7 (List.sublist_append_left _ _)), g2, (agC rfl (agC rfl (agC rfl agN))), (by (rw [if_pos (by first | assumption | omega)]; done))⟩
     ·
      try simp only [BS] at dn
      exact em _ _ ⟨l2, I, T, Z, _, fR, a1, b5, (agC rfl (agC rfl (agC rfl agN))), (by (rw [if_neg (by first | omega | (intro hh; simp_all; done)), List.append_nil]))⟩
    ·
     rintro h2 hM ⟨l3, J, U, aq, g8, cv, a2, b6, eb, q3⟩
     refine aH _ eb (fun _ => ?_)
     clear eb
     replace hT := hT.mono cv
     replace z := z.mono cv
     have n3 : l3.length ≤ 3 := by rw [q3, List.length_append]; exact Nat.add_le_add n2 ie
     refine ao 3 rfl ?_
     refine wR 1 [(2, .o (iI iv.i.op))] 50 53 [] [(53, (.bool (iv.i.op == 6)))] (vA (ql 3 0 (HS.hc a2 (i := 0) rfl) rfl rfl) trivial) rfl fun _ => ?_
     refine cT (fun f H' => ∃ (l4 : List Int) (aj : Option Addr) (ap : Nat) (a7 : Fp) (F' : Fz), Fz.le g8 F' ∧ HS (Base.of H []) F' H' [b7, ch, a7] R ∧ OS F' (.slice aj l4.length ap) l4 a7 ∧ aT f [(2, (.slice none 0 0)), (5, (.slice aj l4.length ap))] ∧ (l4 = l3 ++ if iv.i.op = 6 then iv.args else [])) (fun ep => ?_) ?_
     ·
      refine am 0 0 (v := (iv.i.op == 6)) rfl rfl rfl rfl (fun ds => ?_) (fun ds => ?_)
      ·
       try simp only [BS] at ds
       refine ab ?_
       refine wRo 3 0 [(2, .o (.slice ad iv.args.length ag))] 54 56 [] [(54, (.slice J l3.length U)), (56, (.slice ad iv.args.length ag))] (vA (ql 25 5 (HS.hc a2 (i := 0) rfl) rfl rfl) trivial) rfl fun _ => ?_
       refine aR (cQ (α := Int) (q := 2) b6 a2 rfl rfl rfl (SR.sv z a2) rfl rfl rfl rfl rfl rfl rfl (by omega)) rfl rfl ?_
       rintro _ hR fj ⟨e4, e9, rfl, g3, c8, _⟩
       have c8 : HS _ _ _ [_, _, fj] _ := c8
       refine wa (.slice e4 (l3 ++ iv.args).length e9) rfl rfl rfl ?_
       refine ai 0 rfl ?_
       exact ep _ _ ⟨l3 ++ iv.args, e4, e9, fj, _, fR, c8, g3, (agC rfl (agC rfl agN)), (by (rw [if_pos (by first | assumption | omega)]; done))⟩
      ·
       try simp only [BS] at ds
       exact ep _ _ ⟨l3, J, U, aq, _, fR, a2, b6, (agC rfl (agC rfl agN)), (by (rw [if_neg (by first | omega | (intro hh; simp_all; done)), List.append_nil]))⟩
     ·
      rintro h3 hQ ⟨l4, aj, ap, a7, hA, dt, g5, ev, ec, q4⟩
      refine aH _ ec (fun _ => ?_)
      clear ec
      have n4 : l4.length ≤ 1048579 := by rw [q4, List.length_append]; (have hq : (if iv.i.op = 6 then iv.args else []).length ≤ iv.args.length := by split <;> first | exact Nat.le_refl _ | exact Nat.zero_le _); omega
      refine ao 2 rfl ?_
      refine ab ?_
      refine wm (.slice aj l4.length ap) rfl rfl rfl ?_
      obtain ⟨hB, dv, b2, g4, hv⟩ := OS.frz ev g5 (i := 2) rfl
      have b2 : HS _ _ _ [_, _, _] _ := b2
      replace hT := (hT.mono dt).mono dv
      refine aD (az rfl rfl rfl) rfl rfl (unique_c ex l4 (HS.call b2) g4 hT (by omega)) ?_
      rintro _ hS ⟨dd, et, h7, f1, hC, f4, a3, rfl, e1, rfl⟩
      replace a3 := HS.back b2 rfl a3
      have a3 : HS _ _ _ [_, _, _, f1] _ := a3
      refine wa (.slice dd (jt [] l4).length et) rfl rfl rfl ?_
      refine ai 1 rfl ?_
      refine ah ⟨.inr rfl, _, rfl, dd, et, jt [] l4, f1, _, (fT (fT (fT (fT (fT (fT (d1) ci) co) cv) dt) dv) f4), (HS.only a3 (i := 3) rfl), rfl, e1, (by exact reads_yes (by assumption) (by simp only [q4, q3, q2, q1, fe, List.append_assoc]))⟩
set_option maxHeartbeats 1000000 in
theorem vwrites_c (ex : FuncId) {I : Option Addr} {J : Nat} (iv : VInT) {F : Fz} {H : Heap} {R : List Fp} (hs : HS (.of H []) F H [] R) (a2 : in64 iv.i.op) (a3 : in64 iv.i.a) (a4 : in64 iv.i.b) (a5 : in64 iv.i.c) (a6 : in64 iv.i.n) (a7 : SR F (.slice I iv.args.length J) iv.args) (hT : TB 37 tabC F) : C Tryd.prog 1 (KT 60 ex 37 tabC) 46 [(.agg ⟨[(iI iv.i.op), (iI iv.i.a), (iI iv.i.b), (iI iv.i.c), (iI iv.i.n), (.slice I iv.args.length J)]⟩)] H fun v H' => ∃ (ar : Option Addr) (kr : Nat) (r : List Int) (p : Fp) (F' : Fz), Fz.le F F' ∧ HS (.of H []) F' H' [p] R ∧ v = .slice ar r.length kr ∧ OS F' (.slice ar r.length kr) r p ∧ r = aQ iv := by
 refine aL Tryd.func46 rfl rfl ?_
 refine ao 1 rfl ?_
 refine ab ?_
 refine aR (cw hs rfl rfl) rfl rfl ?_
 rintro _ H2 _ ⟨b1, rfl, A, _⟩
 have A : HS _ _ _ [[(b1, .cells [(iI iv.i.op), (iI iv.i.a), (iI iv.i.b), (iI iv.i.c), (iI iv.i.n), (.slice I iv.args.length J)] none false)]] _ := A
 refine wa (.slice none 0 0) rfl rfl rfl ?_
 refine ai 3 rfl ?_
 refine wR 1 [(2, .o (iI iv.i.op)), (3, .o (.bool (alV iv.i.op)))] 5 9 [] [(9, (.bool (!(alV iv.i.op))))] (vA (ql 3 0 (HS.hc A (i := 0) rfl) rfl rfl) (vA (m1.kW ex iv.i.op H2) trivial)) rfl fun _ => ?_
 refine am 1 2 (v := (!(alV iv.i.op))) rfl rfl rfl rfl (fun c4 => ?_) (fun c4 => ?_)
 ·
  try simp only [BS] at c4
  refine wR 1 [] 2 2 [] [(2, (.slice none 0 0))] trivial rfl fun _ => ?_
  refine ah ⟨.inr rfl, _, rfl, none, 0, ([] : List Int), [], _, fR, (HS.cons (HS.forget A)), rfl, (OS.nil : OS _ _ _ []), (by exact writes_no (by assumption))⟩
 ·
  try simp only [BS] at c4
  refine ab ?_
  refine wRo 3 0 [(2, .o (iI iv.i.op))] 11 13 [] [(13, (iI iv.i.op))] (vA (ql 3 0 (HS.hc A (i := 0) rfl) rfl rfl) trivial) rfl fun _ => ?_
  refine aD (az rfl rfl rfl) rfl rfl (m1.mInfo_c ex iv.i.op (HS.call A) (by omega) hT) ?_
  rintro _ H7 ⟨x7, o7, F7, ad, O, rfl, a0, a1, rfl, rfl⟩
  replace O := HS.back A rfl O
  have O : HS _ _ _ [_] _ := O
  refine wRo 3 4 [] 15 16 [10] [(15, (.agg ⟨[(.string ⟨⟨(aI iv.i.op).name.b⟩⟩), (iI (aI iv.i.op).form), (.bool (aI iv.i.op).ra), (.bool (aI iv.i.op).wa), (.bool (aI iv.i.op).rb), (.bool (aI iv.i.op).mt), (iI (aI iv.i.op).words)]⟩)), (16, (.bool (infO iv.i.op)))] trivial rfl fun _ => ?_
  refine aR (bK O rfl) rfl rfl ?_
  rintro _ bj _ ⟨b9, rfl, T, _⟩
  have T : HS _ _ _ [_, [(b9, .cells [(.string ⟨⟨[]⟩⟩), (iI 0), (.bool false), (.bool false), (.bool false), (.bool false), (iI 0)] none false)]] _ := T
  refine aU (aG (q := 1) T rfl rfl rfl rfl rfl rfl rfl rfl rfl) rfl ?_
  rintro _ bl _ ⟨z, _⟩
  have z : HS _ _ _ [_, [(b9, .cells [(.string ⟨⟨(aI iv.i.op).name.b⟩⟩), (iI (aI iv.i.op).form), (.bool (aI iv.i.op).ra), (.bool (aI iv.i.op).wa), (.bool (aI iv.i.op).rb), (.bool (aI iv.i.op).mt), (iI (aI iv.i.op).words)] none false)]] _ := z
  refine wa (.bool (infO iv.i.op)) rfl rfl rfl ?_
  refine ai 3 rfl ?_
  refine wR 1 [(1, .o (.bool (aI iv.i.op).wa)), (5, .o (iI iv.i.op)), (11, .o (iI iv.i.op))] 17 30 [] [(30, (.bool (((aI iv.i.op).wa || (iv.i.op == 6)) || (iv.i.op == 38))))] (vA (ql 4 3 (HS.hc z (i := 1) rfl) rfl rfl) (vA (fun (g1 : (aI iv.i.op).wa = false) => (ql 3 0 (HS.hc z (i := 0) rfl) rfl rfl)) (vA (fun (g1 : ((aI iv.i.op).wa || (iv.i.op == 6)) = false) => (ql 3 0 (HS.hc z (i := 0) rfl) rfl rfl)) trivial))) rfl fun _ => ?_
  refine am 1 2 (v := (((aI iv.i.op).wa || (iv.i.op == 6)) || (iv.i.op == 38))) rfl rfl rfl rfl (fun V => ?_) (fun V => ?_)
  ·
   try simp only [BS] at V
   refine ab ?_
   refine wRo 3 0 [(2, .o (iI iv.i.a))] 31 33 [] [(33, (iI iv.i.a))] (vA (ql 3 1 (HS.hc z (i := 0) rfl) rfl rfl) trivial) rfl fun _ => ?_
   refine aR (ct (α := Int) (ps := [(0, (iI iv.i.a))]) (cells := [(iI iv.i.a)]) ([iv.i.a] : List Int) z rfl rfl rfl (by kernel_rfl) ⟨[(iI iv.i.a)], [], rfl, ⟨rfl, by omega⟩, rfl⟩ rfl) rfl rfl ?_
   rintro _ b0 aj ⟨Z, ag, rfl, aq, U, _⟩
   have U : HS _ _ _ [_, _, aj] _ := U
   refine wa (.slice Z ([iv.i.a] : List Int).length ag) rfl rfl rfl ?_
   refine ai 1 rfl ?_
   refine ah ⟨.inr rfl, _, rfl, Z, ag, ([iv.i.a] : List Int), aj, _, (ad), (HS.only U (i := 2) rfl), rfl, aq, (by exact ke (by assumption) (or_assoc.1 (by assumption)))⟩
  ·
   try simp only [BS] at V
   refine wR 1 [] 2 2 [] [(2, (.slice none 0 0))] trivial rfl fun _ => ?_
   refine ah ⟨.inr rfl, _, rfl, none, 0, ([] : List Int), [], _, (ad), (HS.cons (HS.forget z)), rfl, (OS.nil : OS _ _ _ []), (by exact writes_not (by simp_all))⟩
theorem vsucc_c (ex : FuncId) {J : Option Addr} {T : Nat} (b : BlkT) {F : Fz} {H : Heap} {R : List Fp} (hs : HS (.of H []) F H [] R) (a9 : SR F (.slice J b.ins.length T) b.ins) (bb : in64 b.fin) (bj : in64 b.reg) (bl : in64 b.tgt) (b0 : in64 b.els) (hT : TB 37 tabC F) : C Tryd.prog 1 (KT 60 ex 37 tabC) 47 [(.agg ⟨[(.slice J b.ins.length T), (iI b.fin), (iI b.reg), (iI b.tgt), (iI b.els)]⟩)] H fun v H' => ∃ (ar : Option Addr) (kr : Nat) (r : List Int) (p : Fp) (F' : Fz), Fz.le F F' ∧ HS (.of H []) F' H' [p] R ∧ v = .slice ar r.length kr ∧ OS F' (.slice ar r.length kr) r p ∧ r = bN b := by
 refine aL Tryd.func47 rfl rfl ?_
 refine ao 1 rfl ?_
 refine ab ?_
 refine aR (cw hs rfl rfl) rfl rfl ?_
 rintro _ H2 _ ⟨b1, rfl, z, _⟩
 have z : HS _ _ _ [[(b1, .cells [(.slice J b.ins.length T), (iI b.fin), (iI b.reg), (iI b.tgt), (iI b.els)] none false)]] _ := z
 refine wa (.slice none 0 0) rfl rfl rfl ?_
 refine ai 3 rfl ?_
 refine wR 3 [(1, .o (iI b.fin))] 3 4 [] [(4, (iI b.fin))] (vA (ql 3 1 (HS.hc z (i := 0) rfl) rfl rfl) trivial) rfl fun _ => ?_
 refine wR 1 [] 5 6 [] [(5, (.bool (b.fin == 1)))] trivial rfl fun _ => ?_
 refine am 1 1 (v := (b.fin == 1)) rfl rfl rfl rfl (fun c5 => ?_) (fun c5 => ?_)
 ·
  try simp only [BS] at c5
  refine ab ?_
  refine wRo 2 0 [(1, .o (iI b.tgt))] 7 8 [] [(8, (iI b.tgt))] (vA (ql 3 3 (HS.hc z (i := 0) rfl) rfl rfl) trivial) rfl fun _ => ?_
  refine aR (ct (α := Int) (ps := [(0, (iI b.tgt))]) (cells := [(iI b.tgt)]) ([b.tgt] : List Int) z rfl rfl rfl (by kernel_rfl) ⟨[(iI b.tgt)], [], rfl, ⟨rfl, by omega⟩, rfl⟩ rfl) rfl rfl ?_
  rintro _ H8 p7 ⟨a7, k7, rfl, a3, ad, _⟩
  have ad : HS _ _ _ [_, p7] _ := ad
  refine wa (.slice a7 ([b.tgt] : List Int).length k7) rfl rfl rfl ?_
  refine ai 1 rfl ?_
  refine ah ⟨.inr rfl, _, rfl, a7, k7, ([b.tgt] : List Int), p7, _, fR, (HS.only ad (i := 1) rfl), rfl, a3, (by exact succ1 (by assumption))⟩
 ·
  try simp only [BS] at c5
  refine wR 1 [] 10 11 [] [(10, (.bool (b.fin == 2)))] trivial rfl fun _ => ?_
  refine am 1 3 (v := (b.fin == 2)) rfl rfl rfl rfl (fun V => ?_) (fun V => ?_)
  ·
   try simp only [BS] at V
   refine ab ?_
   refine wRo 4 0 [(1, .o (iI b.tgt)), (3, .o (iI b.els))] 12 15 [] [(13, (iI b.tgt)), (15, (iI b.els))] (vA (ql 3 3 (HS.hc z (i := 0) rfl) rfl rfl) (vA (ql 3 4 (HS.hc z (i := 0) rfl) rfl rfl) trivial)) rfl fun _ => ?_
   refine aR (ct (α := Int) (ps := [(0, (iI b.tgt)), (1, (iI b.els))]) (cells := [(iI b.tgt), (iI b.els)]) ([b.tgt, b.els] : List Int) z rfl rfl rfl (by kernel_rfl) ⟨[(iI b.tgt)], [(iI b.els)], rfl, ⟨rfl, by omega⟩, ⟨[(iI b.els)], [], rfl, ⟨rfl, by omega⟩, rfl⟩⟩ rfl) rfl rfl ?_
   rintro _ b5 a5 ⟨b7, b9, rfl, a0, O, _⟩
   have O : HS _ _ _ [_, a5] _ := O
   obtain ⟨b3, Z, I, a1, b2⟩ := OS.frz a0 O (i := 1) rfl
   have I : HS _ _ _ [_, []] _ := I
   replace hT := hT.mono Z
   refine aD (az rfl rfl rfl) rfl rfl (unique_c ex ([b.tgt, b.els] : List Int) (HS.call I) a1 hT (by simp)) ?_
   rintro _ b6 ⟨U, ag, ch, ap, b4, av, A, rfl, aj, rfl⟩
   replace A := HS.back I rfl A
   have A : HS _ _ _ [_, _, ap] _ := A
   refine wa (.slice U (jt [] ([b.tgt, b.els] : List Int)).length ag) rfl rfl rfl ?_
   refine ai 1 rfl ?_
   refine ah ⟨.inr rfl, _, rfl, U, ag, jt [] ([b.tgt, b.els] : List Int), ap, _, (fT (Z) av), (HS.only A (i := 2) rfl), rfl, aj, (by exact (succ2 (by assumption)).symm)⟩
  ·
   try simp only [BS] at V
   refine wR 1 [] 2 2 [] [(2, (.slice none 0 0))] trivial rfl fun _ => ?_
   refine ah ⟨.inr rfl, _, rfl, none, 0, ([] : List Int), [], _, fR, (HS.cons (HS.forget z)), rfl, (OS.nil : OS _ _ _ []), (by exact succ0 (by omega))⟩
end Go.Proofs.YtlabedbmgmfbaaaDoor.ma
