/-
 Ascending lists and live points, the allocator: by symbolic runs. No condition but bounds on lengths.
-/
import Derived.Test.YtknafdcgpaejlaaDoorZSMJ
noncomputable section
namespace Go.Proofs.YtknafdcgpaejlaaDoor.na
open Go.R
set_option maxRecDepth 10000
set_option linter.unusedVariables false
set_option linter.unusedSimpArgs false
open m1 m2 m3 m4 m5 m6 ma ml mb mc md mf mg mh mi mj
theorem con_at {l : List Int} {n : Int} {k : Nat} (h : k < l.length) (e : l.getD k 0 = n) : jd l n = true := iq.2 (e ▸ mem_at h)
theorem con_not {l : List Int} {n : Int} {k : Nat} (ha : Asc l) (I : ∀ j, j < k → l.getD j 0 < n) (J : ∀ j, k ≤ j → j < l.length → n ≤ l.getD j 0) (h : ¬ (k < l.length ∧ l.getD k 0 = n)) : jd l n = false := by
 rw [Bool.eq_false_iff]
 intro hc
 obtain ⟨j, hj, e⟩ := List.mem_iff_getElem.1 (iq.1 hc)
 have e' : l.getD j 0 = n := by rw [List.getD_eq_getElem?_getD, List.getElem?_eq_getElem hj]; exact e
 rcases Nat.lt_or_ge j k with A | A
 ·
  have := I j A; omega
 have N := J k (Nat.le_refl _) (by omega)
 rcases Nat.eq_or_lt_of_le A with E | E
 ·
  subst E; exact h ⟨hj, e'⟩
 have := asc_at ha E hj
 exact h ⟨by omega, by omega⟩
theorem con_fin {l : List Int} {n : Int} {lo hi : Nat} (ha : Asc l) (h : ¬ (lo : Int) < (hi : Int)) (N : lo ≤ hi ∧ hi ≤ l.length) (E : ∀ j, j < lo → l.getD j 0 < n) (I : ∀ j, hi ≤ j → j < l.length → n ≤ l.getD j 0) (b : Bool) (hb : b = true ↔ (lo < l.length ∧ l.getD lo 0 = n)) : b = jd l n := by
 have e : lo = hi := by omega
 subst e
 cases b with
 | true => obtain ⟨A, J⟩ := hb.1 rfl; exact (con_at A J).symm
 | false => exact (con_not ha E I fun A => by have := hb.2 A; cases this).symm
theorem bs_lo {l : List Int} {n : Int} {m : Nat} (ha : Asc l) (hm : m < l.length) (h : l.getD m 0 < n) : ∀ j, j < m + 1 → l.getD j 0 < n := fun j hj => by
 rcases Nat.eq_or_lt_of_le (Nat.le_of_lt_succ hj) with e | e
 ·
  subst e; exact h
 have := asc_at ha e hm; omega
theorem bs_hi {l : List Int} {n : Int} {m : Nat} (ha : Asc l) (h : ¬ l.getD m 0 < n) : ∀ j, m ≤ j → j < l.length → n ≤ l.getD j 0 := fun j hj hl => by
 rcases Nat.eq_or_lt_of_le hj with e | e
 ·
  subst e; omega
 have := asc_at ha e hl; omega
theorem con1 {n x : Int} : jd [n] x = decide (x = n) := by
 unfold jd
 simp only [List.any_cons, List.any_nil, Bool.or_false]
 rw [Bool.eq_iff_iff]; simp only [decide_eq_true_eq]; exact ⟨fun h => h.symm, fun h => h.symm⟩
theorem ins_in {l : List Int} {n : Int} (ha : Asc l) (h : jd l n = true) : fK l n = l := by
 obtain ⟨j, hj, e⟩ := List.mem_iff_getElem.1 (iq.1 h)
 have e' : l.getD j 0 = n := by rw [List.getD_eq_getElem?_getD, List.getElem?_eq_getElem hj]; exact e
 have hk := pre_eq (l := l) (n := n) (k := j) (by omega) (fun i hi => by have := asc_at ha hi hj; omega) (fun _ => by omega)
 exact (ins_same hk hj e').symm
theorem Lst.ins {l : List Int} {S : Nat → Prop} {n : Int} (h : Lst l S) (hn : 0 ≤ n) : Lst (fK l n) (fun r => S r ∨ (r : Int) = n) := ⟨ins_asc h.asc, fun x => by
 rw [ins_mem, h.mem]
 constructor
 ·
  rintro (rfl | A)
  ·
   exact ⟨hn, .inr (by omega)⟩
  exact ⟨A.1, .inl A.2⟩
 rintro ⟨A, E | E⟩
 ·
  exact .inr ⟨A, E⟩
 exact .inl (by omega)⟩
theorem Lst.del {l : List Int} {S : Nat → Prop} {n : Int} (h : Lst l S) : Lst (minV l [n]) (fun r => S r ∧ (r : Int) ≠ n) := Lst.ext (Lst.minus h) fun r => by rw [List.mem_singleton]
structure PtX (c : VFnT) (b : Nat) (l : List (List Int)) : Prop where
 len : l.length = (bz c b).ins.length + 2
 pt : ∀ i, i ≤ (bz c b).ins.length → Lst (ej l i) (ptS c b i)
 out : Lst (ej l ((bz c b).ins.length + 1)) (LOut c b)
structure PsF (c : VFnT) (p : List (List (List Int))) : Prop where
 len : p.length = c.blocks.length
 at_ : ∀ b, b < c.blocks.length → PtX c b (p.getD b default)
theorem ps_snoc {c : VFnT} {al : List (List (List Int))} {k : Nat} {l : List (List Int)} (hl : al.length = k) (h : ∀ b, b < k → PtX c b (al.getD b default)) (hx : PtX c k l) : ∀ b, b < k + 1 → PtX c b ((al ++ [l]).getD b default) := fun b hb => by
 rw [at_snoc]
 split
 ·
  rename_i e; rw [hl] at e; subst e; exact hx
 exact h b (by omega)
theorem end_yes2 {c : VFnT} {b : Nat} {o : List Int} (h : Lst o (LOut c b)) (hf : (bz c b).fin = 2 ∨ (bz c b).fin = 3) (hr : 0 ≤ (bz c b).reg) : Lst (fK o (bz c b).reg) (ptS c b (bz c b).ins.length) := Lst.ext (Lst.ins h hr) fun r => by
 unfold ptS
 rw [List.drop_length]
 show _ ↔ endS _ _ _
 unfold endS endV
 rw [if_pos hf, List.mem_singleton]
theorem end_no2 {c : VFnT} {b : Nat} {o : List Int} (h : Lst o (LOut c b)) (hf : ¬ ((bz c b).fin = 2 ∨ (bz c b).fin = 3)) : Lst o (ptS c b (bz c b).ins.length) := Lst.ext h fun r => by
 unfold ptS
 rw [List.drop_length]
 show _ ↔ endS _ _ _
 unfold endS endV
 rw [if_neg hf]
 exact ⟨.inl, fun h => h.elim id fun h => by cases h⟩
def wrS (S : Nat → Prop) (l : List Int) (q r : Nat) : Prop := S r ∧ (r : Int) ∉ l.take q
def rdS (S : Nat → Prop) (l : List Int) (q r : Nat) : Prop := S r ∨ (r : Int) ∈ l.take q
theorem wr_zero {w : List Int} {S : Nat → Prop} {l : List Int} (h : Lst w S) : Lst w (wrS S l 0) := Lst.ext h fun r => by unfold wrS; simp
theorem wr_yes {w : List Int} {S : Nat → Prop} {l : List Int} {q : Nat} (hq : q < l.length) (h : Lst w (wrS S l q)) : Lst (minV w [l.getD q 0]) (wrS S l (q + 1)) := Lst.ext (Lst.del h) fun r => by
 unfold wrS
 rw [bn hq (d := 0), List.mem_append, List.mem_singleton, and_assoc, not_or]
theorem wr_no {w : List Int} {S : Nat → Prop} {l : List Int} {q : Nat} (hq : q < l.length) (hc : jd w (l.getD q 0) = false) (h : Lst w (wrS S l q)) : Lst w (wrS S l (q + 1)) := Lst.ext h fun r => by
 unfold wrS
 rw [bn hq (d := 0), List.mem_append, List.mem_singleton, not_or]
 constructor
 ·
  rintro ⟨A, E⟩
  refine ⟨A, E, fun e => ?_⟩
  have : (r : Int) ∈ w := (h.mem r).2 ⟨by omega, by simpa using ⟨A, E⟩⟩
  rw [e] at this
  rw [iq.2 this] at hc; cases hc
 rintro ⟨A, E, _⟩; exact ⟨A, E⟩
theorem rd_zero {w : List Int} {S : Nat → Prop} {l : List Int} (h : Lst w S) : Lst w (rdS S l 0) := Lst.ext h fun r => by unfold rdS; simp
theorem rd_yes {w : List Int} {S : Nat → Prop} {l : List Int} {q : Nat} (hq : q < l.length) (A : 0 ≤ l.getD q 0) (h : Lst w (rdS S l q)) : Lst (fK w (l.getD q 0)) (rdS S l (q + 1)) := Lst.ext (Lst.ins h A) fun r => by
 unfold rdS
 rw [bn hq (d := 0), List.mem_append, List.mem_singleton, or_assoc]
theorem wr_lt {S : Nat → Prop} {l : List Int} {m : Int} (hs : ∀ r, S r → (r : Int) < m) {q r : Nat} (h : wrS S l q r) : (r : Int) < m := hs r h.1
theorem rd_lt {S : Nat → Prop} {l : List Int} {m : Int} (hs : ∀ r, S r → (r : Int) < m) (hl : ∀ x ∈ l, 0 ≤ x ∧ x < m) {q r : Nat} (h : rdS S l q r) : (r : Int) < m := by
 rcases h with h | h
 ·
  exact hs r h
 exact (hl _ (List.mem_of_mem_take h)).2
theorem pt_done {c : VFnT} {b i q p : Nat} {w : List Int} (hi : i < (bz c b).ins.length) (hq : (ab ((bz c b).ins.getD i default)).length ≤ q) (hp : (aD ((bz c b).ins.getD i default)).length ≤ p) (h : Lst w (rdS (wrS (ptS c b (i + 1)) (ab ((bz c b).ins.getD i default)) q) (aD ((bz c b).ins.getD i default)) p)) : Lst w (ptS c b i) := Lst.ext h fun r => by
 unfold rdS wrS ptS
 rw [List.take_of_length_le hq, List.take_of_length_le hp, tr_drop hi]
 exact or_comm
theorem pset {c : VFnT} {b i : Nat} {l : List (List Int)} {x : List Int} (hl : l.length = (bz c b).ins.length + 2) (h : ∀ j, i < j → j ≤ (bz c b).ins.length → Lst (ej l j) (ptS c b j)) (hi : i ≤ (bz c b).ins.length) (hx : Lst x (ptS c b i)) : ∀ j, i ≤ j → j ≤ (bz c b).ins.length → Lst (ej (l.set i x) j) (ptS c b j) := fun j E A => by
 rw [dq (by omega)]
 split
 ·
  rename_i e; subst e; exact hx
 rename_i e; exact h j (by omega) A
theorem contains_c (ex : FuncId) {a_l : Option Addr} {k_l : Nat} (l : List Int) (n : Int) {F : Fz} {H : Heap} {R : List Fp} (hs : HS (.of H []) F H [] R) (hl : SR F (.slice a_l l.length k_l) l) (hn : in64 n) (hT : TB 37 tabC F) (ha : Asc l) (hlen : l.length ≤ 1073741824) : C Tryd.prog 1 (KT 60 ex 37 tabC) 94 [(.slice a_l l.length k_l), (iI n)] H fun v H' => ∃ (r : Bool), H' = H ∧ v = .bool r ∧ r = jd l n := by
 refine aM Tryd.func94 rfl rfl ?_
 refine am 1 rfl ?_
 refine wR 2 [] 4 4 [] [(4, (.bool false))] trivial rfl fun _ => ?_
 refine wR 3 [] 8 9 [5, 6] [(5, (iI 0)), (6, (iI (l.length : Int)))] trivial rfl fun _ => ?_
 refine ak (fun (mm : Nat) f H' => ∃ (lo : Nat) (hi : Nat), H' = H ∧ aH f [(0, (.slice a_l l.length k_l)), (1, (iI n)), (4, (.bool false)), (5, (iI (lo : Int))), (6, (iI (hi : Int)))] ∧ mm = hi - lo ∧ (lo ≤ hi ∧ hi ≤ l.length) ∧ (∀ j, j < lo → l.getD j 0 < n) ∧ (∀ j, hi ≤ j → j < l.length → n ≤ l.getD j 0)) _ ⟨0, l.length, rfl, (agC rfl (agC rfl (agC rfl (agC rfl (agC rfl agN))))), rfl, (by first | assumption | omega | (simp at *; omega)), (by intro j hj; omega), (by intro j Z h2; omega)⟩ ?_
 rintro av f3 H ⟨lo, hi, rfl, O, rfl, Z, h2, h3⟩ U
 refine aq _ O (fun _ => ?_)
 clear O
 refine am 2 rfl ?_
 refine wR 1 [] 10 12 [] [(12, (.bool (decide ((lo : Int) < (hi : Int)))))] trivial rfl fun _ => ?_
 refine au 3 5 (v := (decide ((lo : Int) < (hi : Int)))) rfl rfl rfl rfl (fun I => ?_) (fun I => ?_)
 ·
  have V := I
  try simp only [BS] at V
  refine wR 2 [] 13 16 [7] [(7, (iI (((lo + hi) / 2 : Nat) : Int)))] (vA (vi (n := (lo : Int) + (hi : Int)) (by omega)) (vA (vA (show (2 : Int) ≠ 0 from by decide) (vi (n := (((lo + hi) / 2 : Nat) : Int)) (by omega))) trivial)) rfl fun _ => ?_
  obtain ⟨an, T⟩ := Sv.view (SR.sv hl hs)
  have g8 := fI (T ((lo + hi) / 2))
  refine wR 1 [(3, .o (iI (l.getD ((lo + hi) / 2) 0)))] 17 22 [] [(22, (.bool (decide ((l.getD ((lo + hi) / 2) 0) < n))))] (vA (Sv.ix (j := (((lo + hi) / 2 : Nat) : Int)) (SR.sv hl hs) (by omega) (by omega)) (vA (ql 3 0 (vI (T ((lo + hi) / 2)) (by omega)) rfl rfl) trivial)) rfl fun _ => ?_
  refine au 0 0 (v := (decide ((l.getD ((lo + hi) / 2) 0) < n))) rfl rfl rfl rfl (fun A => ?_) (fun A => ?_)
  ·
   have E := A
   try simp only [BS] at E
   refine wR 2 [] 23 24 [5] [(5, (iI ((((lo + hi) / 2 : Nat) : Int) + 1)))] (vA (vi (n := (((lo + hi) / 2 : Nat) : Int) + 1) (by omega)) trivial) rfl fun _ => ?_
   refine U _ _ _ ?_ ⟨((lo + hi) / 2) + 1, hi, rfl, (agC rfl (agC rfl (agC rfl (agC rfl (agC rfl agN))))), rfl, (by first | assumption | omega | (simp at *; omega)), (by first | assumption | exact bs_lo ha (by omega) (by assumption)), (by first | assumption | exact bs_hi ha (by assumption))⟩
   omega
  have E := A
  try simp only [BS] at E
  refine wR 2 [] 25 25 [6] [(6, (iI (((lo + hi) / 2 : Nat) : Int)))] trivial rfl fun _ => ?_
  refine U _ _ _ ?_ ⟨lo, (lo + hi) / 2, rfl, (agC rfl (agC rfl (agC rfl (agC rfl (agC rfl agN))))), rfl, (by first | assumption | omega | (simp at *; omega)), (by first | assumption | exact bs_lo ha (by omega) (by assumption)), (by first | assumption | exact bs_hi ha (by assumption))⟩
  omega
 have V := I
 try simp only [BS] at V
 obtain ⟨ag, J⟩ := Sv.view (SR.sv hl hs)
 have ar := fI (J lo)
 refine wR 1 [(8, .o (iI (l.getD lo 0)))] 26 37 [4] [(4, (.bool ((decide ((lo : Int) < (l.length : Int))) && ((l.getD lo 0) == n))))] (vA (fun (N : (decide ((lo : Int) < (l.length : Int))) = true) => (Sv.ix (j := (lo : Int)) (SR.sv hl hs) (by (try simp only [BS] at N); omega) (by (try simp only [BS] at N); omega))) (vA (fun (N : (decide ((lo : Int) < (l.length : Int))) = true) => (ql 3 0 (vI (J lo) (by (try simp only [BS] at N); omega)) rfl rfl)) trivial)) rfl fun _ => ?_
 refine az ⟨.inr rfl, _, rfl, ((decide ((lo : Int) < (l.length : Int))) && ((l.getD lo 0) == n)), rfl, rfl, (by exact con_fin ha (by assumption) Z h2 h3 _ (by simp <;> omega))⟩
theorem gk (ex : FuncId) {a_l : Option Addr} {k_l : Nat} (l : List Int) (n : Int) {F : Fz} {H : Heap} {R : List Fp} (hs : HS (.of H []) F H [] R) (hl : SR F (.slice a_l l.length k_l) l) (hn : in64 n) (hT : TB 37 tabC F) (ha : Asc l) (hlen : l.length ≤ 1073741824) : C Tryd.prog 1 (KT 60 ex 37 tabC) 94 [(.slice a_l l.length k_l), (iI n)] H fun v H' => v = (.bool (jd l n)) ∧ H' = H :=
 cq (contains_c ex l n hs hl hn hT ha hlen) (by rintro _ _ ⟨_, rfl, rfl, rfl⟩; exact ⟨rfl, rfl⟩)
theorem without_c (ex : FuncId) {a_l : Option Addr} {k_l : Nat} (l : List Int) (n : Int) {F : Fz} {H : Heap} {R : List Fp} (hs : HS (.of H []) F H [] R) (hl : SR F (.slice a_l l.length k_l) l) (hn : in64 n) (hT : TB 37 tabC F) (hlen : l.length ≤ 1073741824) : C Tryd.prog 1 (KT 60 ex 37 tabC) 95 [(.slice a_l l.length k_l), (iI n)] H fun v H' => ∃ (ar : Option Addr) (kr : Nat) (r : List Int) (p : Fp) (F' : Fz), Fz.le F F' ∧ HS (.of H []) F' H' [p] R ∧ v = .slice ar r.length kr ∧ OS F' (.slice ar r.length kr) r p ∧ r = minV l [n] := by
 refine aM Tryd.func95 rfl rfl ?_
 refine am 1 rfl ?_
 refine wR 2 [] 4 4 [] [(4, (.slice none 0 0))] trivial rfl fun _ => ?_
 refine wR 3 [] 1 0 [5] [(5, (.slice none 0 0))] trivial rfl fun _ => ?_
 refine wR 2 [] 8 10 [] [(8, (.slice a_l l.length k_l)), (9, (iI (l.length : Int))), (10, (iI 0))] trivial rfl fun _ => ?_
 have ag := HS.snoc hs
 have ag : HS _ _ _ [[]] _ := ag
 refine ak (fun (mm : Nat) f H' => ∃ (o : List Int) (i : Nat) (A : Option Addr) (E : Nat) (I : Fp) (F' : Fz), Fz.le F F' ∧ HS (Base.of H []) F' H' [I] R ∧ OS F' (.slice A o.length E) o I ∧ aH f [(1, (iI n)), (4, (.slice none 0 0)), (5, (.slice A o.length E)), (8, (.slice a_l l.length k_l)), (9, (iI (l.length : Int))), (10, (iI (i : Int)))] ∧ mm = l.length - i ∧ (i ≤ l.length) ∧ (o = minV (l.take i) [n])) _ ⟨([] : List Int), 0, none, 0, [], _, fR, ag, (OS.nil : OS F (.slice none 0 0) ([] : List Int) []), (agC rfl (agC rfl (agC rfl (agC rfl (agC rfl (agC rfl agN)))))), rfl, (by first | assumption | omega | (simp at *; omega)), (by rfl)⟩ ?_
 rintro bb f4 H4 ⟨o, i, A, E, I, F4, U, O, J, an, rfl, h1, N⟩ aw
 refine aq _ an (fun _ => ?_)
 clear an
 replace hl := hl.mono U
 have n4 : o.length ≤ l.length := by rw [N]; exact Nat.le_trans min_len (by simp; omega)
 refine am 1 rfl ?_
 refine wR 2 [] 11 11 [] [(11, (.bool (decide ((i : Int) < (l.length : Int)))))] trivial rfl fun _ => ?_
 refine au 4 5 (v := (decide ((i : Int) < (l.length : Int)))) rfl rfl rfl rfl (fun Z => ?_) (fun Z => ?_)
 ·
  have c7 := Z
  try simp only [BS] at c7
  obtain ⟨a8, av⟩ := Sv.view (SR.sv hl O)
  have g9 := fI (av i)
  refine wR 2 [(1, .o (iI (l.getD i 0)))] 12 13 [7] [(7, (iI (l.getD i 0)))] (vA (Sv.ix (j := (i : Int)) (SR.sv hl O) (by omega) (by omega)) (vA (ql 3 0 (vI (av i) (by omega)) rfl rfl) trivial)) rfl fun _ => ?_
  refine wR 1 [] 14 16 [] [(16, (.bool ((l.getD i 0) != n)))] trivial rfl fun _ => ?_
  refine au 0 2 (v := ((l.getD i 0) != n)) rfl rfl rfl rfl (fun T => ?_) (fun T => ?_)
  ·
   have V := T
   try simp only [BS] at V
   refine aa ?_
   refine wRo 2 0 [] 17 18 [] [(17, (.slice A o.length E)), (18, (iI (l.getD i 0)))] trivial rfl fun _ => ?_
   refine aK (bF (α := Int) (ps := [(0, (iI (l.getD i 0)))]) (cells := [(iI (l.getD i 0))]) ([(l.getD i 0)] : List Int) O rfl rfl rfl (by kernel_rfl) ⟨[(iI (l.getD i 0))], [], rfl, ⟨rfl, by omega⟩, rfl⟩ rfl) rfl rfl ?_
   rintro _ a5 a4 ⟨a7, a9, rfl, a1, (ad : HS _ _ _ [I, a4] _), _⟩
   refine aK (ca (α := Int) (q := 0) J ad rfl rfl rfl (OS.sv a1 ad (i := 1) rfl) rfl rfl rfl rfl rfl rfl rfl (by first | omega | (simp only [List.length_append, List.length_cons, List.length_nil]; omega))) rfl rfl ?_
   rintro _ a6 ay ⟨al, ax, rfl, a2, (a3 : HS _ _ _ [ay, _] _), _⟩
   refine wa (.slice al (o ++ ([(l.getD i 0)] : List Int)).length ax) rfl rfl rfl ?_
   refine aj 2 rfl ?_
   refine wR 1 [] 10 10 [21] [(10, (iI ((i : Int) + 1)))] (vA (vi (n := (i : Int) + 1) (by omega)) trivial) rfl fun _ => ?_
   refine aw _ _ _ ?_ ⟨o ++ ([(l.getD i 0)] : List Int), i + 1, al, ax, ay, _, (U), (HS.sub a3 (List.sublist_append_left _ _)), a2, (agC rfl (agC rfl (agC rfl (agC rfl (agC rfl (agC rfl agN)))))), rfl, (by first | assumption | omega | (simp at *; omega)), (by first | exact (eH (by omega) N).1 (by rw [con1]; exact decide_eq_false (by assumption)) | exact (eH (by omega) N).2 (by rw [con1]; exact decide_eq_true (by simp_all; done)) | exact (eH (by omega) N).2 (by rw [con1]; exact decide_eq_true (by omega)))⟩
   omega
  have V := T
  try simp only [BS] at V
  refine wR 1 [] 10 10 [21] [(10, (iI ((i : Int) + 1)))] (vA (vi (n := (i : Int) + 1) (by omega)) trivial) rfl fun _ => ?_
  refine aw _ _ _ ?_ ⟨o, i + 1, A, E, I, _, (U), O, J, (agC rfl (agC rfl (agC rfl (agC rfl (agC rfl (agC rfl agN)))))), rfl, (by first | assumption | omega | (simp at *; omega)), (by first | exact (eH (by omega) N).1 (by rw [con1]; exact decide_eq_false (by assumption)) | exact (eH (by omega) N).2 (by rw [con1]; exact decide_eq_true (by simp_all; done)) | exact (eH (by omega) N).2 (by rw [con1]; exact decide_eq_true (by omega)))⟩
  omega
 have c7 := Z
 try simp only [BS] at c7
 refine wR 1 [] 4 4 [22] [(4, (.slice A o.length E))] trivial rfl fun _ => ?_
 refine az ⟨.inr rfl, _, rfl, A, E, o, I, _, (U), (HS.only O (i := 0) rfl), rfl, J, (by rw [N, List.take_of_length_le (by omega)])⟩
theorem insert_c (ex : FuncId) {a_l : Option Addr} {k_l : Nat} (l : List Int) (n : Int) {F : Fz} {H : Heap} {R : List Fp} (hs : HS (.of H []) F H [] R) (hl : SR F (.slice a_l l.length k_l) l) (hn : in64 n) (hT : TB 37 tabC F) (ha : Asc l) (hlen : l.length ≤ 1000000) : C Tryd.prog 1 (KT 60 ex 37 tabC) 93 [(.slice a_l l.length k_l), (iI n)] H fun v H' => ∃ (ar : Option Addr) (kr : Nat) (r : List Int) (F' : Fz), Fz.le F F' ∧ HS (.of H []) F' H' [] R ∧ v = .slice ar r.length kr ∧ SR F' (.slice ar r.length kr) r ∧ r = fK l n := by
 refine aM Tryd.func93 rfl rfl ?_
 refine am 1 rfl ?_
 refine wR 3 [] 4 4 [] [(4, (.slice none 0 0))] trivial rfl fun _ => ?_
 refine wR 1 [(2, .o (.bool (jd l n)))] 6 8 [] [(8, (.bool (jd l n)))] (vA (gk ex l n (HS.call hs) hl (by omega) hT (by omega) (by omega)) trivial) rfl fun _ => ?_
 refine au 1 2 (v := (jd l n)) rfl rfl rfl rfl (fun ax => ?_) (fun ax => ?_)
 ·
  have c3 := ax
  try simp only [BS] at c3
  have hc := c3
  refine wR 1 [] 4 4 [9] [(4, (.slice a_l l.length k_l))] trivial rfl fun _ => ?_
  refine az ⟨.inr rfl, _, rfl, a_l, k_l, l, _, fR, (HS.forget hs), rfl, hl, (by first | exact (ins_in ha (by simpa using hc)).symm | exact ins_new (pre_eq h1 h2 (by omega)) (fun hh => absurd (con_at hh.1 hh.2) (by simpa using hc)))⟩
 have c3 := ax
 try simp only [BS] at c3
 have hc := c3
 refine wR 3 [] 1 0 [5] [(5, (iI 0))] trivial rfl fun _ => ?_
 refine ak (fun (mm : Nat) f H' => ∃ (k : Nat), H' = H ∧ aH f [(0, (.slice a_l l.length k_l)), (1, (iI n)), (4, (.slice none 0 0)), (5, (iI (k : Int)))] ∧ mm = l.length - k ∧ (k ≤ l.length) ∧ (∀ j, j < k → l.getD j 0 < n)) _ ⟨0, rfl, (agC rfl (agC rfl (agC rfl (agC rfl agN)))), rfl, (by first | assumption | omega | (simp at *; omega)), (by intro j hj; omega)⟩ ?_
 rintro f4 f6 H ⟨k, rfl, b0, rfl, h1, h2⟩ d2
 refine aq _ b0 (fun _ => ?_)
 clear b0
 refine am 2 rfl ?_
 obtain ⟨fi, b1⟩ := Sv.view (SR.sv hl hs)
 have g8 := fI (b1 k)
 refine wR 1 [(8, .o (iI (l.getD k 0)))] 10 21 [] [(21, (.bool ((decide ((k : Int) < (l.length : Int))) && (decide ((l.getD k 0) < n)))))] (vA (fun (g1 : (decide ((k : Int) < (l.length : Int))) = true) => (Sv.ix (j := (k : Int)) (SR.sv hl hs) (by (try simp only [BS] at g1); omega) (by (try simp only [BS] at g1); omega))) (vA (fun (g1 : (decide ((k : Int) < (l.length : Int))) = true) => (ql 3 0 (vI (b1 k) (by (try simp only [BS] at g1); omega)) rfl rfl)) trivial)) rfl fun _ => ?_
 refine au 2 5 (v := ((decide ((k : Int) < (l.length : Int))) && (decide ((l.getD k 0) < n)))) rfl rfl rfl rfl (fun ad => ?_) (fun ad => ?_)
 ·
  have av := ad
  try simp only [BS] at av
  refine wR 2 [] 22 23 [5] [(5, (iI ((k : Int) + 1)))] (vA (vi (n := (k : Int) + 1) (by omega)) trivial) rfl fun _ => ?_
  refine d2 _ _ _ ?_ ⟨k + 1, rfl, (agC rfl (agC rfl (agC rfl (agC rfl agN)))), rfl, (by first | assumption | omega | (simp at *; omega)), (by exact lt_succ h2 (by omega))⟩
  omega
 have av := ad
 try simp only [BS] at av
 refine bL rfl ?_
 refine dC (id := .a) (bF (α := Int) (ps := []) (cells := []) ([] : List Int) hs.log0 rfl rfl rfl (by kernel_rfl) rfl rfl) rfl rfl (fun _ _ _ _ => did_a rfl rfl rfl) trivial ?_
 rintro _ dk b3 ⟨e4, f0, rfl, cc, E, _⟩ c4 a4
 replace E := HS.lg E hs a4
 generalize ({ dk with log := c4 } : Heap) = b5 at E ⊢
 have E : HS _ _ _ [b3] _ := E
 refine fm (.slice a_l l.length k_l) rfl rfl rfl ?_
 refine fm (iI (k : Int)) rfl rfl rfl ?_
 refine dC (id := .q fun b => F b ≠ none) (rs_cutt (α := Int) (j := k) hl E.log0 rfl rfl rfl (optN (by omega)) (by omega)) rfl rfl (by rintro _ _ _ ⟨_, _, _, hH, _⟩; exact did_q rfl (SR.q hl)) (⟨.inl rfl, ⟨.inl rfl, ⟨.inr trivial, trivial⟩⟩⟩) ?_
 rintro _ _ _ ⟨e5, f1, rfl, T, ci⟩ c5 a5
 simp only at T; replace T := T.symm; subst T
 have O := HS.lg E.log0 E a5
 generalize ({ { b5 with log := [] } with log := c5 } : Heap) = es at O ⊢
 refine dC (id := .x (b3.map Prod.fst)) (ca (α := Int) (q := 0) cc O.log0 rfl rfl rfl (SR.sv ci O.log0) rfl rfl rfl rfl rfl rfl rfl (by first | omega | (simp only [List.length_append, List.length_cons, List.length_nil, List.length_take, List.length_drop]; omega))) rfl rfl (by rintro _ _ al ⟨bk, b2, rfl, V, _, hwr⟩; exact d3 rfl rfl (Wr.did hwr)) (⟨.inl rfl, ⟨.inl rfl, ⟨.inl rfl, ⟨.inl rfl, trivial⟩⟩⟩⟩) ?_
 rintro _ dl al ⟨bk, b2, rfl, V, J, _⟩ c6 a6
 replace J := HS.lg J O a6
 generalize ({ dl with log := c6 } : Heap) = et at J ⊢
 have J : HS _ _ _ [al] _ := J
 have V : OS F (.slice bk (l.take k).length b2) (l.take k) al := V
 refine fm (iI n) rfl rfl rfl ?_
 refine dC (id := .a) (bF (α := Int) (ps := [(0, (iI n))]) (cells := [(iI n)]) ([n] : List Int) J.log0 rfl rfl rfl (by kernel_rfl) ⟨[(iI n)], [], rfl, ⟨rfl, by omega⟩, rfl⟩ rfl) rfl rfl (fun _ _ _ _ => did_a rfl rfl rfl) (⟨.inl rfl, ⟨.inr trivial, ⟨.inr trivial, ⟨.inr trivial, ⟨.inr trivial, ⟨.inr trivial, trivial⟩⟩⟩⟩⟩⟩) ?_
 rintro _ dn em ⟨e6, f2, rfl, ch, A, _⟩ c7 a7
 replace A := HS.lg A J a7
 generalize ({ dn with log := c7 } : Heap) = ez at A ⊢
 have A : HS _ _ _ [_, em] _ := A
 refine dC (id := .x (al.map Prod.fst)) (ca (α := Int) (q := 0) V A.log0 rfl rfl rfl (OS.sv ch A.log0 (i := 1) rfl) rfl rfl rfl rfl rfl rfl rfl (by first | omega | (simp only [List.length_append, List.length_cons, List.length_nil, List.length_take, List.length_drop]; omega))) rfl rfl (by rintro _ _ a2 ⟨dv, ea, rfl, ay, _, hwr⟩; exact d3 rfl rfl (Wr.did hwr)) (⟨.inl rfl, ⟨.inl rfl, ⟨.inl rfl, ⟨.inl rfl, ⟨.inl rfl, ⟨.inl rfl, ⟨.inl rfl, trivial⟩⟩⟩⟩⟩⟩⟩) ?_
 rintro _ ds a2 ⟨dv, ea, rfl, ay, I, _⟩ c8 a8
 replace I := HS.lg I A a8
 generalize ({ ds with log := c8 } : Heap) = b6 at I ⊢
 have I : HS _ _ _ [a2, _] _ := I
 refine fm (.slice a_l l.length k_l) rfl rfl rfl ?_
 refine fm (iI (k : Int)) rfl rfl rfl ?_
 refine dC (id := .q fun b => F b ≠ none) (rs_cutd (α := Int) (i := k) hl I.log0 rfl rfl rfl (optN (by omega)) (by omega)) rfl rfl (by rintro _ _ _ ⟨_, _, _, hH, _⟩; exact did_q rfl (SR.q hl)) (⟨.inl rfl, ⟨.inl rfl, ⟨.inr (HS.apq A (i := 0) rfl), ⟨.inr trivial, ⟨.inr trivial, ⟨.inr (HS.apq O (i := 0) rfl), ⟨.inr trivial, ⟨.inr trivial, ⟨.inr trivial, ⟨.inr trivial, trivial⟩⟩⟩⟩⟩⟩⟩⟩⟩⟩) ?_
 rintro _ _ _ ⟨fd, f3, rfl, U, co⟩ c9 a9
 simp only at U; replace U := U.symm; subst U
 have Z := HS.lg I.log0 I a9
 generalize ({ { b6 with log := [] } with log := c9 } : Heap) = e0 at Z ⊢
 refine dC (id := .x (a2.map Prod.fst)) (ca (α := Int) (q := 0) ay Z.log0 rfl rfl rfl (SR.sv co Z.log0) rfl rfl rfl rfl rfl rfl rfl (by first | omega | (simp only [List.length_append, List.length_cons, List.length_nil, List.length_take, List.length_drop]; omega))) rfl rfl (by rintro _ _ b4 ⟨an, a1, rfl, a0, _, hwr⟩; exact d3 rfl rfl (Wr.did hwr)) (⟨.inl rfl, ⟨.inl rfl, ⟨.inl rfl, ⟨.inl rfl, ⟨.inl rfl, ⟨.inl rfl, ⟨.inl rfl, ⟨.inl rfl, ⟨.inl rfl, ⟨.inl rfl, ⟨.inl rfl, trivial⟩⟩⟩⟩⟩⟩⟩⟩⟩⟩⟩) ?_
 rintro _ dt b4 ⟨an, a1, rfl, a0, N, _⟩ dd bb
 replace N := HS.lg N Z bb
 generalize ({ dt with log := dd } : Heap) = e1 at N ⊢
 have N : HS _ _ _ [b4, _] _ := N
 refine fa (.slice an (((l.take k) ++ ([n] : List Int)) ++ (l.drop k)).length a1) rfl rfl rfl ?_
 refine d8 ?_
 refine am 1 rfl ?_
 obtain ⟨e3, b9, ag, c0, e2⟩ := OS.frz a0 N (i := 0) rfl
 have ag : HS _ _ _ [[], _] _ := ag
 refine az ⟨.inr rfl, _, rfl, an, a1, ((l.take k) ++ ([n] : List Int)) ++ (l.drop k), _, (b9), (HS.forget ag), rfl, c0, (by first | exact (ins_in ha (by simpa using hc)).symm | exact ins_new (pre_eq h1 h2 (by omega)) (fun hh => absurd (con_at hh.1 hh.2) (by simpa using hc)))⟩
set_option maxHeartbeats 2000000 in
theorem points_c (ex : FuncId) {ad : Option Addr} {ag : Nat} (c : VFnT) {F : Fz} {H : Heap} {R : List Fp} (hs : HS (.of H []) F H [] R) (kM : in64 c.params) (kN : in64 c.regs) (co : SR F (.slice ad c.blocks.length ag) c.blocks) (hT : TB 37 tabC F) (hval : ef c = true) (hins : ∀ j, (c.blocks.getD j default).ins.length ≤ 1073741822) : C Tryd.prog 1 (KT 60 ex 37 tabC) 51 [(.agg ⟨[(iI c.params), (iI c.regs), (.slice ad c.blocks.length ag)]⟩)] H fun v H' => ∃ (aps : Option Addr) (kps : Nat) (ps : List (List (List Int))) (p : Fp) (F' : Fz), Fz.le F F' ∧ HS (.of H []) F' H' [p] R ∧ v = .slice aps ps.length kps ∧ OS F' (.slice aps ps.length kps) ps p ∧ (PsF c ps) := by
 have vF := vF_of hval
 have hnb := vF.nb
 have hrg := vF.regs
 refine aM Tryd.func51 rfl rfl ?_
 refine am 1 rfl ?_
 refine aa ?_
 refine aK (cF hs rfl rfl) rfl rfl ?_
 rintro _ H2 _ ⟨b1, rfl, (hv : HS _ _ _ [[(b1, .cells [(iI c.params), (iI c.regs), (.slice ad c.blocks.length ag)] none false)]] _), _⟩
 refine wa (.slice none 0 0) rfl rfl rfl ?_
 refine aj 2 rfl ?_
 refine aa ?_
 let ja : Value := (.agg ⟨[(iI c.params), (iI c.regs), (.slice ad c.blocks.length ag)]⟩)
 refine wRo 1 0 [(0, .o ja)] 16 16 [] [(16, ja)] (vA (qn 24 0 3 (HS.hc hv (i := 0) rfl) rfl rfl rfl rfl) trivial) rfl fun _ => ?_
 refine aE (aB rfl rfl rfl) rfl rfl (md.blocks_c ex c (HS.call hv) (by first | (dsimp only; omega) | omega) (by first | (dsimp only; omega) | omega) co hT (by exact fun j => Nat.le_trans (hins j) (by omega))) ?_
 rintro _ H4 ⟨lv, lL, x4, c6, c7, y4, F4, hm, f9, rfl, kR, dk, lJ, lI⟩
 replace f9 : HS _ _ _ [_] _ := HS.back hv rfl f9
 refine wRo 5 2 [] 18 19 [3, 4, 15] [(4, (.slice c6 y4.length c7))] trivial rfl fun _ => ?_
 refine aj 2 rfl ?_
 have bk : BkF c _ y4 := (by assumption : ef c = true → _) hval
 have hly := bk.ly
 refine wR 3 [] 1 0 [5] [(5, (.slice none 0 0))] trivial rfl fun _ => ?_
 refine wR 2 [(1, .o (.slice ad c.blocks.length ag))] 20 23 [] [(21, (.slice ad c.blocks.length ag)), (22, (iI (c.blocks.length : Int))), (23, (iI 0))] (vA (ql 22 2 (HS.hc f9 (i := 0) rfl) rfl rfl) trivial) rfl fun _ => ?_
 have hA := HS.snoc f9
 have hA : HS _ _ _ [_, []] _ := hA
 let dv : Fp := [(b1, .cells [(iI c.params), (iI c.regs), (.slice ad c.blocks.length ag)] none false)]
 refine ak (fun (mm : Nat) f H' => ∃ (al : List (List (List Int))) (k : Nat) (V : Option Addr) (Z : Nat) (an : Fp) (F' : Fz), Fz.le F4 F' ∧ HS (Base.of H []) F' H' [dv, an] R ∧ OS F' (.slice V al.length Z) al an ∧ aH f [(2, (.slice none 0 0)), (4, (.slice c6 y4.length c7)), (5, (.slice V al.length Z)), (21, (.slice ad c.blocks.length ag)), (22, (iI (c.blocks.length : Int))), (23, (iI (k : Int)))] ∧ mm = c.blocks.length - k ∧ (al.length = k) ∧ (k ≤ c.blocks.length) ∧ (∀ b, b < k → PtX c b (al.getD b default))) _ ⟨([] : List (List (List Int))), 0, none, 0, [], _, fR, hA, (OS.nil : OS F4 (.slice none 0 0) ([] : List (List (List Int))) []), (agC rfl (agC rfl (agC rfl (agC rfl (agC rfl (agC rfl agN)))))), rfl, (by rfl), (by first | assumption | omega | (simp at *; omega)), (by intro b hb; omega)⟩ ?_
 rintro lM f8 H8 ⟨al, k, V, Z, an, F8, ds, go, a5, ib, rfl, e1, hk, e2⟩ kl
 refine aq _ ib (fun _ => ?_)
 clear ib
 replace hT := (hT.mono hm).mono ds
 replace co := (co.mono hm).mono ds
 replace dk := dk.mono ds
 refine am 1 rfl ?_
 refine wR 2 [] 24 24 [] [(24, (.bool (decide ((k : Int) < (c.blocks.length : Int)))))] trivial rfl fun _ => ?_
 refine au 4 5 (v := (decide ((k : Int) < (c.blocks.length : Int)))) rfl rfl rfl rfl (fun d1 => ?_) (fun d1 => ?_)
 ·
  have ha := d1
  try simp only [BS] at ha
  refine aa ?_
  obtain ⟨O, hB⟩ := Sv.view (SR.sv co go)
  obtain ⟨ko, kp, kr, kt, a0⟩ := BlkT.fx (hB k)
  let c8 : Value := (.agg ⟨[(.slice (cA (O k) 0) (c.blocks.getD k default).ins.length (cK (O k) 0)), (iI (c.blocks.getD k default).fin), (iI (c.blocks.getD k default).reg), (iI (c.blocks.getD k default).tgt), (iI (c.blocks.getD k default).els)]⟩)
  refine wRo 3 0 [(2, .o c8)] 25 27 [] [(25, (iI (k : Int))), (27, c8)] (vA (Sv.ix (j := (k : Int)) (SR.sv co go) (by first | (dsimp only; omega) | omega) (by first | (dsimp only; omega) | omega)) (vA (qn 48 0 5 (BlkT.vw (hB k) (by first | (dsimp only; omega) | omega)) rfl rfl rfl rfl) trivial)) rfl fun _ => ?_
  refine aK (bx go rfl) rfl rfl ?_
  rintro _ k6 _ ⟨b7, rfl, (j4 : HS _ _ _ [_, an, [(b7, .cells [(.slice none 0 0), (iI 0), (iI 0), (iI 0), (iI 0)] none false)]] _), _⟩
  refine wa (iI (k : Int)) rfl rfl rfl ?_
  refine aT (aP (q := 2) j4 rfl rfl rfl rfl rfl rfl rfl rfl rfl) rfl ?_
  rintro _ k7 _ ⟨(hu : HS _ _ _ [_, _, [(b7, .cells [(.slice (cA (O k) 0) (c.blocks.getD k default).ins.length (cK (O k) 0)), (iI (c.blocks.getD k default).fin), (iI (c.blocks.getD k default).reg), (iI (c.blocks.getD k default).tgt), (iI (c.blocks.getD k default).els)] none false)]] _), _⟩
  refine aj 2 rfl ?_
  have hbn : k < c.blocks.length := by omega
  have hbl := hins k
  have hrl : (List.replicate ((c.blocks.getD k default).ins.length + 2) ([] : List Int)).length = (c.blocks.getD k default).ins.length + 2 := List.length_replicate
  have hfn : ((c.blocks.getD k default).fin = 2 ∨ (c.blocks.getD k default).fin = 3) → 0 ≤ (c.blocks.getD k default).reg ∧ (c.blocks.getD k default).reg < c.regs := vF.fin k hbn
  have hyl := Lst.len (bk.hy k hbn) hrg.1 (fun r h => lout_lt vF h)
  have hya := (bk.hy k hbn).asc
  refine aa ?_
  refine wRo 4 0 [(1, .o (.slice (cA (O k) 0) (c.blocks.getD k default).ins.length (cK (O k) 0)))] 28 31 [] [(31, (iI (((c.blocks.getD k default).ins.length : Int) + 2)))] (vA (ql 46 0 (HS.hc hu (i := 2) rfl) rfl rfl) (vA (vi (n := ((c.blocks.getD k default).ins.length : Int) + 2) (by first | (dsimp only; omega) | omega)) trivial)) rfl fun _ => ?_
  refine aK (cV ([] : (List Int)) hu rfl rfl rfl rfl rfl rfl rfl rfl rfl ⟨none, 0, rfl, SR.nil⟩ (by first | (dsimp only; omega) | omega) (by first | (dsimp only; omega) | omega)) rfl rfl ?_
  rintro _ k8 il ⟨J, N, rfl, dd, (c3 : HS _ _ _ [_, _, _, il] _), _⟩
  have dd : OS F8 (.slice J (List.replicate ((c.blocks.getD k default).ins.length + 2) ([] : (List Int))).length N) (List.replicate ((c.blocks.getD k default).ins.length + 2) ([] : (List Int))) il := dd
  refine wa (.slice J (List.replicate ((c.blocks.getD k default).ins.length + 2) ([] : (List Int))).length N) rfl rfl rfl ?_
  refine aj 2 rfl ?_
  obtain ⟨I, hC⟩ := Sv.view (SR.sv dk c3)
  have hW := fL (hC k)
  refine wR 2 [(3, .o (.slice (cA (I k) 0) (y4.getD k default).length (cK (I k) 0)))] 33 36 [9] [(9, (.slice (cA (I k) 0) (y4.getD k default).length (cK (I k) 0)))] (vA (Sv.ix (j := (k : Int)) (SR.sv dk c3) (by first | (dsimp only; omega) | omega) (by first | (dsimp only; omega) | omega)) (vA (ql 25 0 (vL (hC k) (by first | (dsimp only; omega) | omega)) rfl rfl) trivial)) rfl fun _ => ?_
  refine aa ?_
  refine wRo 7 0 [(2, .o (.slice (cA (O k) 0) (c.blocks.getD k default).ins.length (cK (O k) 0)))] 37 43 [] [(42, (.slice (cA (I k) 0) (y4.getD k default).length (cK (I k) 0))), (43, (.pointer (some ⟨sB (.slice J (List.replicate ((c.blocks.getD k default).ins.length + 2) ([] : (List Int))).length N), sO (.slice J (List.replicate ((c.blocks.getD k default).ins.length + 2) ([] : (List Int))).length N) + ((c.blocks.getD k default).ins.length + 1) * Rp.sz (List Int), none⟩)))] (vA (ql 46 0 (HS.hc c3 (i := 2) rfl) rfl rfl) (vA (vi (n := ((c.blocks.getD k default).ins.length : Int) + 1) (by first | (dsimp only; omega) | omega)) (vA (Sv.ix (j := ((c.blocks.getD k default).ins.length : Int) + 1) (OS.sv dd c3 (i := 3) rfl) (by first | (dsimp only; omega) | omega) (by first | (dsimp only; omega) | omega)) trivial))) rfl fun _ => ?_
  refine aT (ei (α := (List Int)) (j := (c.blocks.getD k default).ins.length + 1) (off := 0) (q := 3) (y4.getD k default) dd c3 rfl rfl rfl rfl rfl rfl rfl rfl (aY (x := default) (by first | (dsimp only; omega) | omega)) rfl (by rintro cs ⟨_, _, rfl, _⟩; exact ⟨Nat.le_of_ble_eq_true rfl, ⟨(cA (I k) 0), (cK (I k) 0), rfl, hW⟩⟩)) rfl ?_
  rintro _ k9 it ⟨c0, (b0 : HS _ _ _ [_, _, _, it] _), _⟩
  have kE := OS.len' c0
  refine aj 3 rfl ?_
  refine wR 1 [(1, .o (iI (c.blocks.getD k default).fin)), (5, .o (iI (c.blocks.getD k default).fin))] 44 51 [] [(51, (.bool (((c.blocks.getD k default).fin == 2) || ((c.blocks.getD k default).fin == 3))))] (vA (ql 3 1 (HS.hc b0 (i := 2) rfl) rfl rfl) (vA (fun (g1 : ((c.blocks.getD k default).fin == 2) = false) => (ql 3 1 (HS.hc b0 (i := 2) rfl) rfl rfl)) trivial)) rfl fun _ => ?_
  let g0 : Fp := [(b7, .cells [(.slice (cA (O k) 0) (c.blocks.getD k default).ins.length (cK (O k) 0)), (iI (c.blocks.getD k default).fin), (iI (c.blocks.getD k default).reg), (iI (c.blocks.getD k default).tgt), (iI (c.blocks.getD k default).els)] none false)]
  refine cG (fun f H' => ∃ (s1 : List Int) (T : Option Addr) (U : Nat) (F' : Fz), Fz.le F8 F' ∧ HS (Base.of H []) F' H' [dv, an, g0, it] R ∧ SR F' (.slice T s1.length U) s1 ∧ aH f [(2, (.slice none 0 0)), (4, (.slice c6 y4.length c7)), (5, (.slice V al.length Z)), (6, (iI (k : Int))), (7, (.pointer (some ⟨b7, 0, none⟩))), (8, (.slice J (List.replicate ((c.blocks.getD k default).ins.length + 2) ([] : (List Int))).length N)), (9, (.slice T s1.length U)), (21, (.slice ad c.blocks.length ag)), (22, (iI (c.blocks.length : Int))), (23, (iI (k : Int))), (24, (.bool (decide ((k : Int) < (c.blocks.length : Int))))), (25, (iI (k : Int))), (27, c8), (31, (iI (((c.blocks.getD k default).ins.length : Int) + 2))), (32, (.slice J (List.replicate ((c.blocks.getD k default).ins.length + 2) ([] : (List Int))).length N)), (42, (.slice (cA (I k) 0) (y4.getD k default).length (cK (I k) 0))), (43, (.pointer (some ⟨sB (.slice J (List.replicate ((c.blocks.getD k default).ins.length + 2) ([] : (List Int))).length N), sO (.slice J (List.replicate ((c.blocks.getD k default).ins.length + 2) ([] : (List Int))).length N) + ((c.blocks.getD k default).ins.length + 1) * Rp.sz (List Int), none⟩))), (51, (.bool (((c.blocks.getD k default).fin == 2) || ((c.blocks.getD k default).fin == 3))))] ∧ (Lst s1 (ptS c k (c.blocks.getD k default).ins.length))) (fun hI => ?_) ?_
  ·
   refine au 0 0 (v := (((c.blocks.getD k default).fin == 2) || ((c.blocks.getD k default).fin == 3))) rfl rfl rfl rfl (fun d2 => ?_) (fun d2 => ?_)
   ·
    have dl := d2
    try simp only [BS] at dl
    have hfe := dl
    have hfr := hfn hfe
    refine aa ?_
    refine wRo 3 0 [(2, .o (iI (c.blocks.getD k default).reg))] 52 54 [] [(52, (.slice (cA (I k) 0) (y4.getD k default).length (cK (I k) 0))), (54, (iI (c.blocks.getD k default).reg))] (vA (ql 3 2 (HS.hc b0 (i := 2) rfl) rfl rfl) trivial) rfl fun _ => ?_
    refine aE (aB rfl rfl rfl) rfl rfl (insert_c ex (y4.getD k default) (c.blocks.getD k default).reg (HS.call b0) hW (by first | (dsimp only; omega) | omega) hT (by first | assumption | omega) (by first | assumption | omega)) ?_
    rintro _ lb ⟨g6, hK, lN, kW, jc, e4, rfl, h4, rfl⟩
    replace e4 : HS _ _ _ [_, _, _, _] _ := HS.back b0 rfl e4
    refine wa (.slice g6 (fK (y4.getD k default) (c.blocks.getD k default).reg).length hK) rfl rfl rfl ?_
    refine aj 0 rfl ?_
    exact hI _ _ ⟨fK (y4.getD k default) (c.blocks.getD k default).reg, g6, hK, _, (jc), e4, h4, (agC rfl (agC rfl (agC rfl (agC rfl (agC rfl (agC rfl (agC rfl (agC rfl (agC rfl (agC rfl (agC rfl (agC rfl (agC rfl (agC rfl (agC rfl (agC rfl (agC rfl (agC rfl agN)))))))))))))))))), (by first | exact end_yes2 (bk.hy k hbn) hfe (hfn hfe).1 | exact end_no2 (bk.hy k hbn) (show ¬ ((c.blocks.getD k default).fin = 2 ∨ (c.blocks.getD k default).fin = 3) by omega))⟩
   have dl := d2
   try simp only [BS] at dl
   have hfe := dl
   exact hI _ _ ⟨(y4.getD k default), (cA (I k) 0), (cK (I k) 0), _, fR, b0, hW, (agC rfl (agC rfl (agC rfl (agC rfl (agC rfl (agC rfl (agC rfl (agC rfl (agC rfl (agC rfl (agC rfl (agC rfl (agC rfl (agC rfl (agC rfl (agC rfl (agC rfl (agC rfl agN)))))))))))))))))), (by first | exact end_yes2 (bk.hy k hbn) hfe (hfn hfe).1 | exact end_no2 (bk.hy k hbn) (show ¬ ((c.blocks.getD k default).fin = 2 ∨ (c.blocks.getD k default).fin = 3) by omega))⟩
  skip
  rintro lw la ⟨s1, T, U, ka, b9, e3, dt, hp, ih⟩
  refine aq _ hp (fun _ => ?_)
  clear hp
  replace c0 := c0.mono b9
  refine am 2 rfl ?_
  refine aa ?_
  refine wRo 6 0 [(2, .o (.slice (cA (O k) 0) (c.blocks.getD k default).ins.length (cK (O k) 0)))] 56 61 [] [(60, (.slice T s1.length U)), (61, (.pointer (some ⟨sB (.slice J (List.replicate ((c.blocks.getD k default).ins.length + 2) ([] : (List Int))).length N), sO (.slice J (List.replicate ((c.blocks.getD k default).ins.length + 2) ([] : (List Int))).length N) + (c.blocks.getD k default).ins.length * Rp.sz (List Int), none⟩)))] (vA (ql 46 0 (HS.hc e3 (i := 2) rfl) rfl rfl) (vA (Sv.ix (j := ((c.blocks.getD k default).ins.length : Int)) (OS.sv c0 e3 (i := 3) rfl) (by first | (dsimp only; omega) | omega) (by first | (dsimp only; omega) | omega)) trivial)) rfl fun _ => ?_
  refine aT (ei (α := (List Int)) (j := (c.blocks.getD k default).ins.length) (off := 0) (q := 3) s1 c0 e3 rfl rfl rfl rfl rfl rfl rfl rfl (aY (x := default) (by first | (dsimp only; omega) | omega)) rfl (by rintro cs ⟨_, _, rfl, _⟩; exact ⟨Nat.le_of_ble_eq_true rfl, ⟨T, U, rfl, dt⟩⟩)) rfl ?_
  rintro _ lc iv ⟨ez, (hw : HS _ _ _ [_, _, _, iv] _), _⟩
  have kF := OS.len' ez
  refine aj 3 rfl ?_
  refine wR 2 [(1, .o (.slice (cA (O k) 0) (c.blocks.getD k default).ins.length (cK (O k) 0)))] 62 65 [10] [(10, (iI (((c.blocks.getD k default).ins.length : Int) - 1)))] (vA (ql 46 0 (HS.hc hw (i := 2) rfl) rfl rfl) (vA (vi (n := ((c.blocks.getD k default).ins.length : Int) - 1) (by first | (dsimp only; omega) | omega)) trivial)) rfl fun _ => ?_
  refine ak (fun (mm : Nat) f H' => ∃ (sw : List Int) (pl : List (List Int)) (iz : Int) (a9 : Option Addr) (bb : Nat) (A : Option Addr) (E : Nat) (a4 : Fp) (F' : Fz), Fz.le ka F' ∧ HS (Base.of H []) F' H' [dv, an, g0, a4] R ∧ SR F' (.slice a9 sw.length bb) sw ∧ OS F' (.slice A pl.length E) pl a4 ∧ aH f [(2, (.slice none 0 0)), (4, (.slice c6 y4.length c7)), (5, (.slice V al.length Z)), (6, (iI (k : Int))), (7, (.pointer (some ⟨b7, 0, none⟩))), (8, (.slice A pl.length E)), (9, (.slice a9 sw.length bb)), (10, (iI iz)), (21, (.slice ad c.blocks.length ag)), (22, (iI (c.blocks.length : Int))), (23, (iI (k : Int))), (24, (.bool (decide ((k : Int) < (c.blocks.length : Int))))), (25, (iI (k : Int))), (27, c8), (31, (iI (((c.blocks.getD k default).ins.length : Int) + 2))), (42, (.slice (cA (I k) 0) (y4.getD k default).length (cK (I k) 0))), (43, (.pointer (some ⟨sB (.slice J (List.replicate ((c.blocks.getD k default).ins.length + 2) ([] : (List Int))).length N), sO (.slice J (List.replicate ((c.blocks.getD k default).ins.length + 2) ([] : (List Int))).length N) + ((c.blocks.getD k default).ins.length + 1) * Rp.sz (List Int), none⟩))), (51, (.bool (((c.blocks.getD k default).fin == 2) || ((c.blocks.getD k default).fin == 3)))), (60, (.slice T s1.length U)), (61, (.pointer (some ⟨sB (.slice J (List.replicate ((c.blocks.getD k default).ins.length + 2) ([] : (List Int))).length N), sO (.slice J (List.replicate ((c.blocks.getD k default).ins.length + 2) ([] : (List Int))).length N) + (c.blocks.getD k default).ins.length * Rp.sz (List Int), none⟩)))] ∧ mm = (iz + 1).toNat ∧ (pl.length = (c.blocks.getD k default).ins.length + 2) ∧ (-1 ≤ iz ∧ iz < ((c.blocks.getD k default).ins.length : Int)) ∧ (∀ j, (iz + 1).toNat ≤ j → j ≤ (c.blocks.getD k default).ins.length → Lst (ej pl j) (ptS c k j)) ∧ (Lst (ej pl ((c.blocks.getD k default).ins.length + 1)) (LOut c k)) ∧ (Lst sw (ptS c k (iz + 1).toNat))) _ ⟨s1, ((List.replicate ((c.blocks.getD k default).ins.length + 2) ([] : (List Int))).set ((c.blocks.getD k default).ins.length + 1) (y4.getD k default)).set (c.blocks.getD k default).ins.length s1, ((c.blocks.getD k default).ins.length : Int) - 1, T, U, J, N, iv, _, fR, hw, dt, (OS.norm ez), (agC rfl (agC rfl (agC rfl (agC rfl (agC rfl (agC (show Value.slice J (List.replicate ((c.blocks.getD k default).ins.length + 2) ([] : (List Int))).length N = Value.slice J (((List.replicate ((c.blocks.getD k default).ins.length + 2) ([] : (List Int))).set ((c.blocks.getD k default).ins.length + 1) (y4.getD k default)).set (c.blocks.getD k default).ins.length s1).length N by rw [OS.len' ez]) (agC rfl (agC rfl (agC rfl (agC rfl (agC rfl (agC rfl (agC rfl (agC rfl (agC rfl (agC rfl (agC rfl (agC rfl (agC rfl (agC rfl agN)))))))))))))))))))), rfl, (by simp), (by first | assumption | omega | (simp at *; omega)), (by exact fun j h1 h2 => by (rw [show j = (c.blocks.getD k default).ins.length by omega, dq (by simp), if_pos rfl]; exact ih)), (by rw [dq (by simp), if_neg (by omega), dq (by simp), if_pos rfl]; exact bk.hy k hbn), (by rw [show ((((c.blocks.getD k default).ins.length : Nat) : Int) - 1 + 1).toNat = (c.blocks.getD k default).ins.length by omega]; exact ih)⟩ ?_
  rintro kT lz ld ⟨sw, pl, iz, a9, bb, A, E, a4, kX, cc, b2, c4, aw, hq, rfl, f1, f2, f3, f4, f5⟩ j7
  refine aq _ hq (fun _ => ?_)
  clear hq
  replace hT := (hT.mono b9).mono cc
  replace a5 := (a5.mono b9).mono cc
  replace a0 := (a0.mono b9).mono cc
  refine am 2 rfl ?_
  refine wR 1 [] 66 67 [] [(67, (.bool (decide ((0 : Int) ≤ iz))))] trivial rfl fun _ => ?_
  refine au 5 4 (v := (decide ((0 : Int) ≤ iz))) rfl rfl rfl rfl (fun ea => ?_) (fun ea => ?_)
  ·
   have he := ea
   try simp only [BS] at he
   have hin : iz.toNat < (c.blocks.getD k default).ins.length := by omega
   have hvl : (∀ x ∈ aD ((c.blocks.getD k default).ins.getD iz.toNat default), 0 ≤ x ∧ x < c.regs) ∧ (∀ x ∈ ab ((c.blocks.getD k default).ins.getD iz.toNat default), 0 ≤ x ∧ x < c.regs) ∧ ((c.blocks.getD k default).ins.getD iz.toNat default).args.length ≤ 6 := cb (vF.ins k hbn iz.toNat hin)
   have kS := hvl.2.2
   have hwl := dK (v := ((c.blocks.getD k default).ins.getD iz.toNat default))
   have kQ := fq (v := ((c.blocks.getD k default).ins.getD iz.toNat default))
   refine aa ?_
   obtain ⟨hj, hD⟩ := Sv.view (SR.sv a0 b2)
   obtain ⟨ku, kv, kw, kx, ky, h7⟩ := VInT.fx (hD iz.toNat)
   let g5 : Value := (.agg ⟨[(iI ((c.blocks.getD k default).ins.getD iz.toNat default).i.op), (iI ((c.blocks.getD k default).ins.getD iz.toNat default).i.a), (iI ((c.blocks.getD k default).ins.getD iz.toNat default).i.b), (iI ((c.blocks.getD k default).ins.getD iz.toNat default).i.c), (iI ((c.blocks.getD k default).ins.getD iz.toNat default).i.n), (.slice (cA (hj iz.toNat) 5) ((c.blocks.getD k default).ins.getD iz.toNat default).args.length (cK (hj iz.toNat) 5))]⟩)
   refine wRo 5 0 [(1, .o (.slice (cA (O k) 0) (c.blocks.getD k default).ins.length (cK (O k) 0))), (4, .o g5)] 70 74 [] [(74, g5)] (vA (ql 46 0 (HS.hc b2 (i := 2) rfl) rfl rfl) (vA (Sv.ix (j := iz) (SR.sv a0 b2) (by first | (dsimp only; omega) | omega) (by first | (dsimp only; omega) | omega)) (vA (qn 52 0 6 (VInT.vw (hD iz.toNat) (by first | (dsimp only; omega) | omega)) rfl rfl rfl rfl) trivial))) rfl fun _ => ?_
   refine aE (aB rfl rfl rfl) rfl rfl (ma.fk ex ((c.blocks.getD k default).ins.getD iz.toNat default) (HS.call b2) (by first | (dsimp only; omega) | omega) (by first | (dsimp only; omega) | omega) (by first | (dsimp only; omega) | omega) (by first | (dsimp only; omega) | omega) (by first | (dsimp only; omega) | omega) h7 hT) ?_
   rintro _ lf ⟨g7, hQ, lO, hV, kd, ch, e5, rfl, b5, rfl⟩
   replace e5 : HS _ _ _ [_, _, _, a4, hV] _ := HS.back b2 rfl e5
   replace c4 := c4.mono ch
   refine wRo 2 6 [] 76 77 [] [(76, (iI ((ab ((c.blocks.getD k default).ins.getD iz.toNat default)).length : Int))), (77, (iI 0))] trivial rfl fun _ => ?_
   refine aj 2 rfl ?_
   refine ak (fun (mm : Nat) f H' => ∃ (w1 : List Int) (q : Nat) (a1 : Option Addr) (a3 : Nat) (F' : Fz), Fz.le kd F' ∧ HS (Base.of H []) F' H' [dv, an, g0, a4, hV] R ∧ SR F' (.slice a1 w1.length a3) w1 ∧ aH f [(2, (.slice none 0 0)), (4, (.slice c6 y4.length c7)), (5, (.slice V al.length Z)), (6, (iI (k : Int))), (7, (.pointer (some ⟨b7, 0, none⟩))), (8, (.slice A pl.length E)), (9, (.slice a1 w1.length a3)), (10, (iI iz)), (21, (.slice ad c.blocks.length ag)), (22, (iI (c.blocks.length : Int))), (23, (iI (k : Int))), (24, (.bool (decide ((k : Int) < (c.blocks.length : Int))))), (25, (iI (k : Int))), (27, c8), (31, (iI (((c.blocks.getD k default).ins.length : Int) + 2))), (42, (.slice (cA (I k) 0) (y4.getD k default).length (cK (I k) 0))), (43, (.pointer (some ⟨sB (.slice J (List.replicate ((c.blocks.getD k default).ins.length + 2) ([] : (List Int))).length N), sO (.slice J (List.replicate ((c.blocks.getD k default).ins.length + 2) ([] : (List Int))).length N) + ((c.blocks.getD k default).ins.length + 1) * Rp.sz (List Int), none⟩))), (51, (.bool (((c.blocks.getD k default).fin == 2) || ((c.blocks.getD k default).fin == 3)))), (60, (.slice T s1.length U)), (61, (.pointer (some ⟨sB (.slice J (List.replicate ((c.blocks.getD k default).ins.length + 2) ([] : (List Int))).length N), sO (.slice J (List.replicate ((c.blocks.getD k default).ins.length + 2) ([] : (List Int))).length N) + (c.blocks.getD k default).ins.length * Rp.sz (List Int), none⟩))), (67, (.bool (decide ((0 : Int) ≤ iz)))), (74, g5), (75, (.slice g7 (ab ((c.blocks.getD k default).ins.getD iz.toNat default)).length hQ)), (76, (iI ((ab ((c.blocks.getD k default).ins.getD iz.toNat default)).length : Int))), (77, (iI (q : Int)))] ∧ mm = (ab ((c.blocks.getD k default).ins.getD iz.toNat default)).length - q ∧ (Lst w1 (wrS (ptS c k (iz.toNat + 1)) (ab ((c.blocks.getD k default).ins.getD iz.toNat default)) q)) ∧ (q ≤ (ab ((c.blocks.getD k default).ins.getD iz.toNat default)).length)) _ ⟨sw, 0, a9, bb, _, fR, e5, c4, (agC rfl (agC rfl (agC rfl (agC rfl (agC rfl (agC rfl (agC rfl (agC rfl (agC rfl (agC rfl (agC rfl (agC rfl (agC rfl (agC rfl (agC rfl (agC rfl (agC rfl (agC rfl (agC rfl (agC rfl (agC rfl (agC rfl (agC rfl (agC rfl (agC rfl agN))))))))))))))))))))))))), rfl, (by exact wr_zero (by rw [show iz.toNat + 1 = (iz + 1).toNat by omega]; exact f5)), (by first | assumption | omega | (simp at *; omega))⟩ ?_
   rintro kU lA lh ⟨w1, q, a1, a3, kY, a6, ar, a2, hr, rfl, g1, g2⟩ hH
   refine aq _ hr (fun _ => ?_)
   clear hr
   replace hT := (hT.mono ch).mono a6
   replace b5 := b5.mono a6
   replace aw := (aw.mono ch).mono a6
   replace a0 := (a0.mono ch).mono a6
   have lD := Lst.len g1 hrg.1 (fun r h => wr_lt (fun r h => jr vF hbn h) h)
   have lC := g1.asc
   refine am 1 rfl ?_
   refine wR 2 [] 78 78 [] [(78, (.bool (decide ((q : Int) < ((ab ((c.blocks.getD k default).ins.getD iz.toNat default)).length : Int)))))] trivial rfl fun _ => ?_
   refine au 4 6 (v := (decide ((q : Int) < ((ab ((c.blocks.getD k default).ins.getD iz.toNat default)).length : Int)))) rfl rfl rfl rfl (fun em => ?_) (fun em => ?_)
   ·
    have hf := em
    try simp only [BS] at hf
    obtain ⟨kH, hE⟩ := Sv.view (OS.sv b5 ar (i := 4) rfl)
    have lG := fI (hE q)
    refine wR 2 [(1, .o (iI ((ab ((c.blocks.getD k default).ins.getD iz.toNat default)).getD q 0)))] 79 80 [12] [(12, (iI ((ab ((c.blocks.getD k default).ins.getD iz.toNat default)).getD q 0)))] (vA (Sv.ix (j := (q : Int)) (OS.sv b5 ar (i := 4) rfl) (by first | (dsimp only; omega) | omega) (by first | (dsimp only; omega) | omega)) (vA (ql 3 0 (vI (hE q) (by first | (dsimp only; omega) | omega)) rfl rfl) trivial)) rfl fun _ => ?_
    refine wR 1 [(2, .o (.bool (jd w1 ((ab ((c.blocks.getD k default).ins.getD iz.toNat default)).getD q 0))))] 81 83 [] [(83, (.bool (jd w1 ((ab ((c.blocks.getD k default).ins.getD iz.toNat default)).getD q 0))))] (vA (gk ex w1 ((ab ((c.blocks.getD k default).ins.getD iz.toNat default)).getD q 0) (HS.call ar) a2 (by first | (dsimp only; omega) | omega) hT (by first | assumption | omega) (by first | assumption | omega)) trivial) rfl fun _ => ?_
    refine au 0 2 (v := (jd w1 ((ab ((c.blocks.getD k default).ins.getD iz.toNat default)).getD q 0))) rfl rfl rfl rfl (fun es => ?_) (fun es => ?_)
    ·
     have hg := es
     try simp only [BS] at hg
     refine aa ?_
     refine wRo 2 0 [] 84 85 [] [(84, (.slice a1 w1.length a3)), (85, (iI ((ab ((c.blocks.getD k default).ins.getD iz.toNat default)).getD q 0)))] trivial rfl fun _ => ?_
     refine aE (aB rfl rfl rfl) rfl rfl (without_c ex w1 ((ab ((c.blocks.getD k default).ins.getD iz.toNat default)).getD q 0) (HS.call ar) a2 (by first | (dsimp only; omega) | omega) hT (by first | (dsimp only; omega) | omega)) ?_
     rintro _ lj ⟨g8, hR, lP, km, kZ, jq, e6, rfl, h5, rfl⟩
     replace e6 : HS _ _ _ [_, _, _, _, _, km] _ := HS.back ar rfl e6
     refine wa (.slice g8 (minV w1 [((ab ((c.blocks.getD k default).ins.getD iz.toNat default)).getD q 0)]).length hR) rfl rfl rfl ?_
     refine aj 2 rfl ?_
     refine wR 1 [] 77 77 [87] [(77, (iI ((q : Int) + 1)))] (vA (vi (n := (q : Int) + 1) (by first | (dsimp only; omega) | omega)) trivial) rfl fun _ => ?_
     obtain ⟨k0, jw, fd, j2, kO⟩ := OS.frz h5 e6 (i := 5) rfl
     have fd : HS _ _ _ [_, _, _, _, _, []] _ := fd
     refine hH _ _ _ ?_ ⟨minV w1 [((ab ((c.blocks.getD k default).ins.getD iz.toNat default)).getD q 0)], q + 1, g8, hR, _, (fT (fT (a6) jq) jw), (HS.sub fd (List.sublist_append_left _ _)), j2, (agC rfl (agC rfl (agC rfl (agC rfl (agC rfl (agC rfl (agC rfl (agC rfl (agC rfl (agC rfl (agC rfl (agC rfl (agC rfl (agC rfl (agC rfl (agC rfl (agC rfl (agC rfl (agC rfl (agC rfl (agC rfl (agC rfl (agC rfl (agC rfl (agC rfl agN))))))))))))))))))))))))), rfl, (by first | exact wr_yes (by omega) g1 | exact wr_no (by omega) (by simp_all; done) g1), (by first | assumption | omega | (simp at *; omega))⟩
     omega
    have hg := es
    try simp only [BS] at hg
    refine wR 1 [] 77 77 [87] [(77, (iI ((q : Int) + 1)))] (vA (vi (n := (q : Int) + 1) (by first | (dsimp only; omega) | omega)) trivial) rfl fun _ => ?_
    refine hH _ _ _ ?_ ⟨w1, q + 1, a1, a3, _, (a6), ar, a2, (agC rfl (agC rfl (agC rfl (agC rfl (agC rfl (agC rfl (agC rfl (agC rfl (agC rfl (agC rfl (agC rfl (agC rfl (agC rfl (agC rfl (agC rfl (agC rfl (agC rfl (agC rfl (agC rfl (agC rfl (agC rfl (agC rfl (agC rfl (agC rfl (agC rfl agN))))))))))))))))))))))))), rfl, (by first | exact wr_yes (by omega) g1 | exact wr_no (by omega) (by simp_all; done) g1), (by first | assumption | omega | (simp at *; omega))⟩
    omega
   have hf := em
   try simp only [BS] at hf
   refine aa ?_
   obtain ⟨hl, hF⟩ := Sv.view (SR.sv a0 ar)
   obtain ⟨kz, kA, kB, kC, kD, h8⟩ := VInT.fx (hF iz.toNat)
   let hX : Value := (.agg ⟨[(iI ((c.blocks.getD k default).ins.getD iz.toNat default).i.op), (iI ((c.blocks.getD k default).ins.getD iz.toNat default).i.a), (iI ((c.blocks.getD k default).ins.getD iz.toNat default).i.b), (iI ((c.blocks.getD k default).ins.getD iz.toNat default).i.c), (iI ((c.blocks.getD k default).ins.getD iz.toNat default).i.n), (.slice (cA (hl iz.toNat) 5) ((c.blocks.getD k default).ins.getD iz.toNat default).args.length (cK (hl iz.toNat) 5))]⟩)
   refine wRo 5 0 [(1, .o (.slice (cA (O k) 0) (c.blocks.getD k default).ins.length (cK (O k) 0))), (4, .o hX)] 88 92 [] [(92, hX)] (vA (ql 46 0 (HS.hc ar (i := 2) rfl) rfl rfl) (vA (Sv.ix (j := iz) (SR.sv a0 ar) (by first | (dsimp only; omega) | omega) (by first | (dsimp only; omega) | omega)) (vA (qn 52 0 6 (VInT.vw (hF iz.toNat) (by first | (dsimp only; omega) | omega)) rfl rfl rfl rfl) trivial))) rfl fun _ => ?_
   refine aE (aB rfl rfl rfl) rfl rfl (ma.jk ex ((c.blocks.getD k default).ins.getD iz.toNat default) (HS.call ar) (by first | (dsimp only; omega) | omega) (by first | (dsimp only; omega) | omega) (by first | (dsimp only; omega) | omega) (by first | (dsimp only; omega) | omega) (by first | (dsimp only; omega) | omega) h8 hT (by first | (dsimp only; omega) | omega)) ?_
   rintro _ ll ⟨jb, j9, lQ, i1, ke, c9, fi, rfl, b6, rfl⟩
   replace fi : HS _ _ _ [_, _, _, _, _, i1] _ := HS.back ar rfl fi
   replace a2 := a2.mono c9
   refine wRo 2 6 [] 94 95 [] [(94, (iI ((aD ((c.blocks.getD k default).ins.getD iz.toNat default)).length : Int))), (95, (iI 0))] trivial rfl fun _ => ?_
   refine aj 2 rfl ?_
   refine ak (fun (mm : Nat) f H' => ∃ (w2 : List Int) (p : Nat) (av : Option Addr) (ax : Nat) (F' : Fz), Fz.le ke F' ∧ HS (Base.of H []) F' H' [dv, an, g0, a4, hV, i1] R ∧ SR F' (.slice av w2.length ax) w2 ∧ aH f [(2, (.slice none 0 0)), (4, (.slice c6 y4.length c7)), (5, (.slice V al.length Z)), (6, (iI (k : Int))), (7, (.pointer (some ⟨b7, 0, none⟩))), (8, (.slice A pl.length E)), (9, (.slice av w2.length ax)), (10, (iI iz)), (21, (.slice ad c.blocks.length ag)), (22, (iI (c.blocks.length : Int))), (23, (iI (k : Int))), (24, (.bool (decide ((k : Int) < (c.blocks.length : Int))))), (25, (iI (k : Int))), (27, c8), (31, (iI (((c.blocks.getD k default).ins.length : Int) + 2))), (42, (.slice (cA (I k) 0) (y4.getD k default).length (cK (I k) 0))), (43, (.pointer (some ⟨sB (.slice J (List.replicate ((c.blocks.getD k default).ins.length + 2) ([] : (List Int))).length N), sO (.slice J (List.replicate ((c.blocks.getD k default).ins.length + 2) ([] : (List Int))).length N) + ((c.blocks.getD k default).ins.length + 1) * Rp.sz (List Int), none⟩))), (51, (.bool (((c.blocks.getD k default).fin == 2) || ((c.blocks.getD k default).fin == 3)))), (60, (.slice T s1.length U)), (61, (.pointer (some ⟨sB (.slice J (List.replicate ((c.blocks.getD k default).ins.length + 2) ([] : (List Int))).length N), sO (.slice J (List.replicate ((c.blocks.getD k default).ins.length + 2) ([] : (List Int))).length N) + (c.blocks.getD k default).ins.length * Rp.sz (List Int), none⟩))), (67, (.bool (decide ((0 : Int) ≤ iz)))), (74, g5), (75, (.slice g7 (ab ((c.blocks.getD k default).ins.getD iz.toNat default)).length hQ)), (76, (iI ((ab ((c.blocks.getD k default).ins.getD iz.toNat default)).length : Int))), (77, (iI (q : Int))), (78, (.bool (decide ((q : Int) < ((ab ((c.blocks.getD k default).ins.getD iz.toNat default)).length : Int))))), (92, hX), (93, (.slice jb (aD ((c.blocks.getD k default).ins.getD iz.toNat default)).length j9)), (94, (iI ((aD ((c.blocks.getD k default).ins.getD iz.toNat default)).length : Int))), (95, (iI (p : Int)))] ∧ mm = (aD ((c.blocks.getD k default).ins.getD iz.toNat default)).length - p ∧ (Lst w2 (rdS (wrS (ptS c k (iz.toNat + 1)) (ab ((c.blocks.getD k default).ins.getD iz.toNat default)) q) (aD ((c.blocks.getD k default).ins.getD iz.toNat default)) p)) ∧ (p ≤ (aD ((c.blocks.getD k default).ins.getD iz.toNat default)).length)) _ ⟨w1, 0, a1, a3, _, fR, fi, a2, (agC rfl (agC rfl (agC rfl (agC rfl (agC rfl (agC rfl (agC rfl (agC rfl (agC rfl (agC rfl (agC rfl (agC rfl (agC rfl (agC rfl (agC rfl (agC rfl (agC rfl (agC rfl (agC rfl (agC rfl (agC rfl (agC rfl (agC rfl (agC rfl (agC rfl (agC rfl (agC rfl (agC rfl (agC rfl (agC rfl agN)))))))))))))))))))))))))))))), rfl, (by exact rd_zero g1), (by first | assumption | omega | (simp at *; omega))⟩ ?_
   rintro kV lB lm ⟨w2, p, av, ax, k3, ci, b3, c5, ht, rfl, g3, g4⟩ j8
   refine aq _ ht (fun _ => ?_)
   clear ht
   replace hT := (hT.mono c9).mono ci
   replace b6 := b6.mono ci
   replace aw := (aw.mono c9).mono ci
   have lF := Lst.len g3 hrg.1 (fun r h => rd_lt (fun r h => wr_lt (fun r h => jr vF hbn h) h) hvl.1 h)
   have lE := g3.asc
   refine am 1 rfl ?_
   refine wR 2 [] 96 96 [] [(96, (.bool (decide ((p : Int) < ((aD ((c.blocks.getD k default).ins.getD iz.toNat default)).length : Int)))))] trivial rfl fun _ => ?_
   refine au 4 4 (v := (decide ((p : Int) < ((aD ((c.blocks.getD k default).ins.getD iz.toNat default)).length : Int)))) rfl rfl rfl rfl (fun et => ?_) (fun et => ?_)
   ·
    have hh := et
    try simp only [BS] at hh
    obtain ⟨kI, hG⟩ := Sv.view (OS.sv b6 b3 (i := 5) rfl)
    have lH := fI (hG p)
    refine wR 1 [(1, .o (iI ((aD ((c.blocks.getD k default).ins.getD iz.toNat default)).getD p 0)))] 97 98 [14] [(14, (iI ((aD ((c.blocks.getD k default).ins.getD iz.toNat default)).getD p 0)))] (vA (Sv.ix (j := (p : Int)) (OS.sv b6 b3 (i := 5) rfl) (by first | (dsimp only; omega) | omega) (by first | (dsimp only; omega) | omega)) (vA (ql 3 0 (vI (hG p) (by first | (dsimp only; omega) | omega)) rfl rfl) trivial)) rfl fun _ => ?_
    refine aa ?_
    refine wRo 2 0 [] 99 100 [] [(99, (.slice av w2.length ax)), (100, (iI ((aD ((c.blocks.getD k default).ins.getD iz.toNat default)).getD p 0)))] trivial rfl fun _ => ?_
    refine aE (aB rfl rfl rfl) rfl rfl (insert_c ex w2 ((aD ((c.blocks.getD k default).ins.getD iz.toNat default)).getD p 0) (HS.call b3) c5 (by first | (dsimp only; omega) | omega) hT (by first | assumption | omega) (by first | assumption | omega)) ?_
    rintro _ ln ⟨g9, hS, lR, k4, jZ, f0, rfl, h6, rfl⟩
    replace f0 : HS _ _ _ [_, _, _, _, _, _] _ := HS.back b3 rfl f0
    refine wa (.slice g9 (fK w2 ((aD ((c.blocks.getD k default).ins.getD iz.toNat default)).getD p 0)).length hS) rfl rfl rfl ?_
    refine aj 2 rfl ?_
    refine wR 1 [] 95 95 [102] [(95, (iI ((p : Int) + 1)))] (vA (vi (n := (p : Int) + 1) (by first | (dsimp only; omega) | omega)) trivial) rfl fun _ => ?_
    refine j8 _ _ _ ?_ ⟨fK w2 ((aD ((c.blocks.getD k default).ins.getD iz.toNat default)).getD p 0), p + 1, g9, hS, _, (fT (ci) jZ), f0, h6, (agC rfl (agC rfl (agC rfl (agC rfl (agC rfl (agC rfl (agC rfl (agC rfl (agC rfl (agC rfl (agC rfl (agC rfl (agC rfl (agC rfl (agC rfl (agC rfl (agC rfl (agC rfl (agC rfl (agC rfl (agC rfl (agC rfl (agC rfl (agC rfl (agC rfl (agC rfl (agC rfl (agC rfl (agC rfl (agC rfl agN)))))))))))))))))))))))))))))), rfl, (by exact rd_yes (by omega) (fu hvl.1 (by omega)).1 g3), (by first | assumption | omega | (simp at *; omega))⟩
    omega
   have hh := et
   try simp only [BS] at hh
   have hdone : Lst w2 (ptS c k iz.toNat) := pt_done hin (show (ab ((c.blocks.getD k default).ins.getD iz.toNat default)).length ≤ q by omega) (show (aD ((c.blocks.getD k default).ins.getD iz.toNat default)).length ≤ p by omega) g3
   refine aa ?_
   refine wRo 4 0 [] 103 106 [] [(105, (.slice av w2.length ax)), (106, (.pointer (some ⟨sB (.slice A pl.length E), sO (.slice A pl.length E) + iz.toNat * Rp.sz (List Int), none⟩)))] (vA (Sv.ix (j := iz) (OS.sv aw b3 (i := 3) rfl) (by first | (dsimp only; omega) | omega) (by first | (dsimp only; omega) | omega)) trivial) rfl fun _ => ?_
   refine aT (ei (α := (List Int)) (j := iz.toNat) (off := 0) (q := 3) w2 aw b3 rfl rfl rfl rfl rfl rfl rfl rfl (aY (x := default) (by first | (dsimp only; omega) | omega)) rfl (by rintro cs ⟨_, _, rfl, _⟩; exact ⟨Nat.le_of_ble_eq_true rfl, ⟨av, ax, rfl, c5⟩⟩)) rfl ?_
   rintro _ lp i2 ⟨e0, (j5 : HS _ _ _ [_, _, _, i2, _, _] _), _⟩
   have kG := OS.len' e0
   refine aj 2 rfl ?_
   refine wR 1 [] 68 69 [10] [(10, (iI (iz - 1)))] (vA (vi (n := iz - 1) (by first | (dsimp only; omega) | omega)) trivial) rfl fun _ => ?_
   refine j7 _ _ _ ?_ ⟨w2, pl.set iz.toNat w2, iz - 1, av, ax, A, E, i2, _, (fT (fT (fT (fT (cc) ch) a6) c9) ci), (HS.sub j5 (List.sublist_append_left _ _)), c5, (OS.norm e0), (agC rfl (agC rfl (agC rfl (agC rfl (agC rfl (agC (show Value.slice A pl.length E = Value.slice A (pl.set iz.toNat w2).length E by rw [OS.len' e0]) (agC rfl (agC rfl (agC rfl (agC rfl (agC rfl (agC rfl (agC rfl (agC rfl (agC rfl (agC rfl (agC rfl (agC rfl (agC rfl (agC rfl agN)))))))))))))))))))), rfl, (by rw [List.length_set]; exact f1), (by first | assumption | omega | (simp at *; omega)), (by rw [show (iz - 1 + 1).toNat = iz.toNat by omega]; exact pset f1 (fun j h1 h2 => f3 j (show (iz + 1).toNat ≤ j by omega) h2) (show iz.toNat ≤ (c.blocks.getD k default).ins.length by omega) hdone), (by rw [dq (by rw [f1]; omega), if_neg (by omega)]; exact f4), (by rw [show (iz - 1 + 1).toNat = iz.toNat by omega]; exact hdone)⟩
   omega
  have he := ea
  try simp only [BS] at he
  refine aa ?_
  refine wRo 2 0 [] 107 108 [] [(107, (.slice V al.length Z)), (108, (.slice A pl.length E))] trivial rfl fun _ => ?_
  obtain ⟨k5, hn, f6, j3, kP⟩ := OS.frz aw b2 (i := 3) rfl
  have f6 : HS _ _ _ [_, _, _, []] _ := f6
  replace a5 := a5.mono hn
  refine aK (bF (α := (List (List Int))) (ps := [(0, (.slice A pl.length E))]) (cells := [(.slice A pl.length E)]) ([pl] : List (List (List Int))) f6 rfl rfl rfl (by kernel_rfl) ⟨[(.slice A pl.length E)], [], rfl, ⟨A, E, rfl, j3⟩, rfl⟩ rfl) rfl rfl ?_
  rintro _ lq kn ⟨lu, lK, rfl, j0, (hz : HS _ _ _ [_, _, _, _, kn] _), _⟩
  refine aK (ca (α := (List (List Int))) (q := 1) a5 hz rfl rfl rfl (OS.sv j0 hz (i := 4) rfl) rfl rfl rfl rfl rfl rfl rfl (by first | omega | (simp only [List.length_append, List.length_cons, List.length_nil]; omega))) rfl rfl ?_
  rintro _ lr i3 ⟨h9, ik, rfl, j1, (j6 : HS _ _ _ [_, i3, _, _, _] _), _⟩
  refine wa (.slice h9 (al ++ ([pl] : List (List (List Int)))).length ik) rfl rfl rfl ?_
  refine aj 2 rfl ?_
  refine wR 1 [] 23 23 [111] [(23, (iI ((k : Int) + 1)))] (vA (vi (n := (k : Int) + 1) (by first | (dsimp only; omega) | omega)) trivial) rfl fun _ => ?_
  refine kl _ _ _ ?_ ⟨al ++ ([pl] : List (List (List Int))), k + 1, h9, ik, i3, _, (fT (fT (fT (ds) b9) cc) hn), (HS.sub j6 (List.sublist_append_left _ _)), j1, (agC rfl (agC rfl (agC rfl (agC rfl (agC rfl (agC rfl agN)))))), rfl, (by simp; omega), (by first | assumption | omega | (simp at *; omega)), (by exact ps_snoc e1 e2 ⟨f1, fun i hi => f3 i (by omega) hi, f4⟩)⟩
  omega
 have ha := d1
 try simp only [BS] at ha
 refine wR 1 [] 2 2 [112] [(2, (.slice V al.length Z))] trivial rfl fun _ => ?_
 refine az ⟨.inr rfl, _, rfl, V, Z, al, an, _, (fT (hm) ds), (HS.only go (i := 1) rfl), rfl, a5, (by exact ⟨by omega, fun b hb => e2 b (by omega)⟩)⟩
end Go.Proofs.YtknafdcgpaejlaaDoor.na
