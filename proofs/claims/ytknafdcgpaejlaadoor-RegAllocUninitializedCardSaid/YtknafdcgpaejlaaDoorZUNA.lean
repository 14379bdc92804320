/-
 Ascending lists and live points, the allocator: by symbolic runs. No condition but bounds on lengths.
-/
import Derived.Test.YtknafdcgpaejlaaDoorZUMJ
import Derived.Test.YtknafdcgpaejlaaDoorZURC
noncomputable section
namespace Go.Proofs.YtknafdcgpaejlaaDoor.na
open Go.R
set_option maxRecDepth 10000
set_option linter.unusedVariables false
set_option linter.unusedSimpArgs false
variable (ex : FuncId) {F : Fz} {H : Heap} {R : List Fp}
open m1 m2 m3 m4 m5 m6 ma ml mb mc md mf mg mh mi mj
theorem con_at {l : List Int} {n : Int} {k : Nat} (h : k < l.length) (e : l.getD k 0 = n) : gi l n = true := i7.2 (e ▸ iS h)
theorem con_not {l : List Int} {n : Int} {k : Nat} (ha : Asc l) (J : ∀ j, j < k → l.getD j 0 < n) (N : ∀ j, k ≤ j → j < l.length → n ≤ l.getD j 0) (h : ¬ (k < l.length ∧ l.getD k 0 = n)) : gi l n = false := by
 rw [a1k]
 intro hc
 obtain ⟨j, hj, e⟩ := a0y.1 (i7.1 hc)
 have e' : l.getD j 0 = n := by rw [a01, a06 hj]; exact e
 rcases a0j j k with A | A
 ·
  have := J j A; omega
 have T := N k (a09 _) (by omega)
 rcases a1L A with E | E
 ·
  subst E; exact h ⟨hj, e'⟩
 have := asc_at ha E hj
 exact h ⟨by omega, by omega⟩
theorem con_fin {l : List Int} {n : Int} {lo hi : Nat} (ha : Asc l) (h : ¬ (lo : Int) < (hi : Int)) (T : lo ≤ hi ∧ hi ≤ l.length) (E : ∀ j, j < lo → l.getD j 0 < n) (J : ∀ j, hi ≤ j → j < l.length → n ≤ l.getD j 0) (b : Bool) (hb : b = true ↔ (lo < l.length ∧ l.getD lo 0 = n)) : b = gi l n := by
 have e : lo = hi := by omega
 subst e
 cases b with
 | true => obtain ⟨A, N⟩ := hb.1 rfl; exact (con_at A N).symm
 | false => exact (con_not ha E J fun A => by have := hb.2 A; cases this).symm
theorem bs_lo {l : List Int} {n : Int} {m : Nat} (ha : Asc l) (hm : m < l.length) (h : l.getD m 0 < n) : ∀ j, j < m + 1 → l.getD j 0 < n := fun j hj => by
 rcases a1L (Nat.le_of_lt_succ hj) with e | e
 ·
  subst e; exact h
 have := asc_at ha e hm; omega
theorem bs_hi {l : List Int} {n : Int} {m : Nat} (ha : Asc l) (h : ¬ l.getD m 0 < n) : ∀ j, m ≤ j → j < l.length → n ≤ l.getD j 0 := fun j hj hl => by
 rcases a1L hj with e | e
 ·
  subst e; omega
 have := asc_at ha e hl; omega
theorem con1 {n x : Int} : gi [n] x = decide (x = n) := by
 unfold gi
 simp only [List.any_cons, List.any_nil, a21]
 rw [a0m]; simp only [decide_eq_true_eq]; exact ⟨fun h => h.symm, fun h => h.symm⟩
theorem ins_in {l : List Int} {n : Int} (ha : Asc l) (h : gi l n = true) : ed l n = l := by
 obtain ⟨j, hj, e⟩ := a0y.1 (i7.1 h)
 have e' : l.getD j 0 = n := by rw [a01, a06 hj]; exact e
 have hk := pre_eq (l := l) (n := n) (k := j) (by omega) (fun i hi => by have := asc_at ha hi hj; omega) (fun _ => by omega)
 exact (ka hk hj e').symm
theorem Lst.ins {l : List Int} {S : Nat → Prop} {n : Int} (h : Lst l S) (hn : 0 ≤ n) : Lst (ed l n) (fun r => S r ∨ (r : Int) = n) := ⟨ins_asc h.asc, fun x => by
 rw [ins_mem, h.mem]
 constructor
 ·
  rintro (rfl | A)
  ·
   exact ⟨hn, .inr (by omega)⟩
  exact ⟨A.1, .inl A.2⟩
 rintro ⟨A, E | E⟩
 ·
  exact .inr ⟨A, E⟩
 exact .inl (by omega)⟩
theorem Lst.del {l : List Int} {S : Nat → Prop} {n : Int} (h : Lst l S) : Lst (da l [n]) (fun r => S r ∧ (r : Int) ≠ n) := Lst.ext (Lst.minus h) fun r => by rw [a0d]
structure PtX (c : VFnT) (b : Nat) (l : List (List Int)) : Prop where
 len : l.length = (bA c b).ins.length + 2
 pt : ∀ i, i ≤ (bA c b).ins.length → Lst (cN l i) (ptS c b i)
 out : Lst (cN l ((bA c b).ins.length + 1)) (LOut c b)
structure PsF (c : VFnT) (p : List (List (List Int))) : Prop where
 len : p.length = c.blocks.length
 at_ : ∀ b, b < c.blocks.length → PtX c b (p.getD b default)
theorem ps_snoc {c : VFnT} {al : List (List (List Int))} {k : Nat} {l : List (List Int)} (hl : al.length = k) (h : ∀ b, b < k → PtX c b (al.getD b default)) (hx : PtX c k l) : ∀ b, b < k + 1 → PtX c b ((al ++ [l]).getD b default) := fun b hb => by
 rw [at_snoc]
 split
 ·
  rename_i e; rw [hl] at e; subst e; exact hx
 exact h b (by omega)
theorem end_yes2 {c : VFnT} {b : Nat} {o : List Int} (h : Lst o (LOut c b)) (hf : (bA c b).fin = 2 ∨ (bA c b).fin = 3) (hr : 0 ≤ (bA c b).reg) : Lst (ed o (bA c b).reg) (ptS c b (bA c b).ins.length) := Lst.ext (Lst.ins h hr) fun r => by
 unfold ptS
 rw [List.drop_length]
 show _ ↔ endS _ _ _
 unfold endS gN
 rw [if_pos hf, a0d]
theorem end_no2 {c : VFnT} {b : Nat} {o : List Int} (h : Lst o (LOut c b)) (hf : ¬ ((bA c b).fin = 2 ∨ (bA c b).fin = 3)) : Lst o (ptS c b (bA c b).ins.length) := Lst.ext h fun r => by
 unfold ptS
 rw [List.drop_length]
 show _ ↔ endS _ _ _
 unfold endS gN
 rw [if_neg hf]
 exact ⟨.inl, fun h => h.elim id fun h => by cases h⟩
def wrS (S : Nat → Prop) (l : List Int) (q r : Nat) : Prop := S r ∧ (r : Int) ∉ l.take q
def rdS (S : Nat → Prop) (l : List Int) (q r : Nat) : Prop := S r ∨ (r : Int) ∈ l.take q
theorem wr_zero {w : List Int} {S : Nat → Prop} {l : List Int} (h : Lst w S) : Lst w (wrS S l 0) := Lst.ext h fun r => by unfold wrS; simp
theorem wr_yes {w : List Int} {S : Nat → Prop} {l : List Int} {q : Nat} (hq : q < l.length) (h : Lst w (wrS S l q)) : Lst (da w [l.getD q 0]) (wrS S l (q + 1)) := Lst.ext (Lst.del h) fun r => by
 unfold wrS
 rw [bj hq (d := 0), a04, a0d, and_assoc, not_or]
theorem wr_no {w : List Int} {S : Nat → Prop} {l : List Int} {q : Nat} (hq : q < l.length) (hc : gi w (l.getD q 0) = false) (h : Lst w (wrS S l q)) : Lst w (wrS S l (q + 1)) := Lst.ext h fun r => by
 unfold wrS
 rw [bj hq (d := 0), a04, a0d, not_or]
 constructor
 ·
  rintro ⟨A, E⟩
  refine ⟨A, E, fun e => ?_⟩
  have : (r : Int) ∈ w := (h.mem r).2 ⟨by omega, by simpa using ⟨A, E⟩⟩
  rw [e] at this
  rw [i7.2 this] at hc; cases hc
 rintro ⟨A, E, _⟩; exact ⟨A, E⟩
theorem rd_zero {w : List Int} {S : Nat → Prop} {l : List Int} (h : Lst w S) : Lst w (rdS S l 0) := Lst.ext h fun r => by unfold rdS; simp
theorem rd_yes {w : List Int} {S : Nat → Prop} {l : List Int} {q : Nat} (hq : q < l.length) (A : 0 ≤ l.getD q 0) (h : Lst w (rdS S l q)) : Lst (ed w (l.getD q 0)) (rdS S l (q + 1)) := Lst.ext (Lst.ins h A) fun r => by
 unfold rdS
 rw [bj hq (d := 0), a04, a0d, or_assoc]
theorem wr_lt {S : Nat → Prop} {l : List Int} {m : Int} (hs : ∀ r, S r → (r : Int) < m) {q r : Nat} (h : wrS S l q r) : (r : Int) < m := hs r h.1
theorem rd_lt {S : Nat → Prop} {l : List Int} {m : Int} (hs : ∀ r, S r → (r : Int) < m) (hl : ∀ x ∈ l, 0 ≤ x ∧ x < m) {q r : Nat} (h : rdS S l q r) : (r : Int) < m := by
 rcases h with h | h
 ·
  exact hs r h
 exact (hl _ (a17 h)).2
theorem pt_done {c : VFnT} {b i q p : Nat} {w : List Int} (hi : i < (bA c b).ins.length) (hq : (ab ((bA c b).ins.getD i default)).length ≤ q) (hp : (az ((bA c b).ins.getD i default)).length ≤ p) (h : Lst w (rdS (wrS (ptS c b (i + 1)) (ab ((bA c b).ins.getD i default)) q) (az ((bA c b).ins.getD i default)) p)) : Lst w (ptS c b i) := Lst.ext h fun r => by
 unfold rdS wrS ptS
 rw [a0f hq, a0f hp, tr_drop hi]
 exact or_comm
theorem pset {c : VFnT} {b i : Nat} {l : List (List Int)} {x : List Int} (hl : l.length = (bA c b).ins.length + 2) (h : ∀ j, i < j → j ≤ (bA c b).ins.length → Lst (cN l j) (ptS c b j)) (hi : i ≤ (bA c b).ins.length) (hx : Lst x (ptS c b i)) : ∀ j, i ≤ j → j ≤ (bA c b).ins.length → Lst (cN (l.set i x) j) (ptS c b j) := fun j E A => by
 rw [cy (by omega)]
 split
 ·
  rename_i e; subst e; exact hx
 rename_i e; exact h j (by omega) A
theorem gz {a_l : Option Addr} {k_l : Nat} (l : List Int) (n : Int) (hs : HS (.of H []) F H [] R) (hl : SR F (.slice a_l l.length k_l) l) (hn : in64 n) (hT : TB 37 tabC F) (ha : Asc l) (hlen : l.length ≤ 1073741824) : kKt ex 94 [(.slice a_l l.length k_l), (iI n)] H fun v H' => ∃ (r : Bool), H' = H ∧ v = .bool r ∧ r = gi l n := by
 refine aH Tryd.func94 rfl rfl (ah 1 rfl (wT 2 [] 4 4 [] [(4, (.bool false))] rfl fun _ => wT 3 [] 8 9 [5, 6] [(5, (iI 0)), (6, (iI (l.length : Int)))] rfl fun _ => aj (fun (mm : Nat) f H' => ∃ (lo : Nat) (hi : Nat), H' = H ∧ aD f [(0, (.slice a_l l.length k_l)), (1, (iI n)), (5, (iI (lo : Int))), (6, (iI (hi : Int)))] ∧ mm = hi - lo ∧ (lo ≤ hi ∧ hi ≤ l.length) ∧ (∀ j, j < lo → l.getD j 0 < n) ∧ (∀ j, hi ≤ j → j < l.length → n ≤ l.getD j 0)) _ ⟨0, l.length, rfl, ⟨rfl, rfl, rfl, rfl, trivial⟩, rfl, (by omega), (by intro j hj; omega), (by intro j h1 h2; omega)⟩ ?_))
 rintro ax f3 H ⟨lo, hi, rfl, U, rfl, h1, h2, h3⟩ Z
 refine ap _ U (fun _ => ?_)
 clear U
 refine ah 2 rfl (wT 1 [] 10 12 [] [(12, (.bool (decide ((lo : Int) < (hi : Int)))))] rfl fun _ => am 3 5 (v := (decide ((lo : Int) < (hi : Int)))) rfl rfl rfl rfl (fun J => ?_) (fun J => ?_))
 ·
  have c5 := J
  try simp only [BS] at c5
  refine wR 2 [] 13 16 [7] [(7, (iI (((lo + hi) / 2 : Nat) : Int)))] (vA (vi (n := (lo : Int) + (hi : Int)) (by omega)) (vA (vA (show (2 : Int) ≠ 0 from by decide) (vi (n := (((lo + hi) / 2 : Nat) : Int)) (by omega))) trivial)) rfl fun _ => ?_
  obtain ⟨av, V⟩ := Sv.view (SR.sv hl hs)
  have g8 := fI (V ((lo + hi) / 2))
  refine wR 1 [(3, .o (iI (l.getD ((lo + hi) / 2) 0)))] 17 22 [] [(22, (.bool (decide ((l.getD ((lo + hi) / 2) 0) < n))))] (vA (Sv.ix (j := (((lo + hi) / 2 : Nat) : Int)) (SR.sv hl hs) (by omega) (by omega)) (vA (ql 3 0 (vI (V ((lo + hi) / 2)) (by omega)) rfl rfl) trivial)) rfl fun _ => am 0 0 (v := (decide ((l.getD ((lo + hi) / 2) 0) < n))) rfl rfl rfl rfl (fun A => ?_) (fun A => ?_)
  ·
   have E := A
   try simp only [BS] at E
   refine wU 2 [] 23 24 [5] [(5, (iI ((((lo + hi) / 2 : Nat) : Int) + 1)))] (vi (n := (((lo + hi) / 2 : Nat) : Int) + 1) (by omega)) rfl fun _ => Z _ _ _ ?_ ⟨((lo + hi) / 2) + 1, hi, rfl, ⟨rfl, rfl, rfl, rfl, trivial⟩, rfl, (by omega), (by exact bs_lo ha (by omega) (by assumption)), (by assumption)⟩
   omega
  have E := A
  try simp only [BS] at E
  refine wT 2 [] 25 25 [6] [(6, (iI (((lo + hi) / 2 : Nat) : Int)))] rfl fun _ => Z _ _ _ ?_ ⟨lo, (lo + hi) / 2, rfl, ⟨rfl, rfl, rfl, rfl, trivial⟩, rfl, (by omega), (by omega), (by exact bs_hi ha (by assumption))⟩
  omega
 have c5 := J
 try simp only [BS] at c5
 obtain ⟨an, N⟩ := Sv.view (SR.sv hl hs)
 have aw := fI (N lo)
 refine wR 1 [(8, .o (iI (l.getD lo 0)))] 26 37 [4] [(4, (.bool ((decide ((lo : Int) < (l.length : Int))) && ((l.getD lo 0) == n))))] (vA (fun (T : (decide ((lo : Int) < (l.length : Int))) = true) => (Sv.ix (j := (lo : Int)) (SR.sv hl hs) (by (try simp only [BS] at T); omega) (by (try simp only [BS] at T); omega))) (vA (fun (T : (decide ((lo : Int) < (l.length : Int))) = true) => (ql 3 0 (vI (N lo) (by (try simp only [BS] at T); omega)) rfl rfl)) trivial)) rfl fun _ => ak ⟨.inr rfl, _, rfl, ((decide ((lo : Int) < (l.length : Int))) && ((l.getD lo 0) == n)), rfl, rfl, (by exact con_fin ha (by assumption) h1 h2 h3 _ (by simp <;> omega))⟩
theorem d8 {a_l : Option Addr} {k_l : Nat} (l : List Int) (n : Int) (hs : HS (.of H []) F H [] R) (hl : SR F (.slice a_l l.length k_l) l) (hn : in64 n) (hT : TB 37 tabC F) (ha : Asc l) (hlen : l.length ≤ 1073741824) : kKt ex 94 [(.slice a_l l.length k_l), (iI n)] H fun v H' => v = (.bool (gi l n)) ∧ H' = H :=
 cq (gz ex l n hs hl hn hT ha hlen) (by rintro _ _ ⟨_, rfl, rfl, rfl⟩; exact ⟨rfl, rfl⟩)
theorem iy {a_l : Option Addr} {k_l : Nat} (l : List Int) (n : Int) (hs : HS (.of H []) F H [] R) (hl : SR F (.slice a_l l.length k_l) l) (hn : in64 n) (hT : TB 37 tabC F) (hlen : l.length ≤ 1073741824) : kKt ex 95 [(.slice a_l l.length k_l), (iI n)] H fun v H' => ∃ (ar : Option Addr) (kr : Nat) (r : List Int) (p : Fp) (F' : Fz), Fz.le F F' ∧ HS (.of H []) F' H' [p] R ∧ v = .slice ar r.length kr ∧ OS F' (.slice ar r.length kr) r p ∧ r = da l [n] := by
 refine aH Tryd.func95 rfl rfl (ah 1 rfl (wT 2 [] 4 4 [] [(4, (.slice none 0 0))] rfl fun _ => wT 3 [] 1 0 [5] [(5, (.slice none 0 0))] rfl fun _ => wT 2 [] 8 10 [] [(8, (.slice a_l l.length k_l)), (9, (iI (l.length : Int))), (10, (iI 0))] rfl fun _ => ?_))
 have al := HS.snoc hs
 have al : HS _ _ _ [[]] _ := al
 refine aj (fun (mm : Nat) f H' => ∃ (o : List Int) (i : Nat) (A : Option Addr) (E : Nat) (J : Fp) (F' : Fz), Fz.le F F' ∧ HS (Base.of H []) F' H' [J] R ∧ OS F' (.slice A o.length E) o J ∧ aD f [(1, (iI n)), (5, (.slice A o.length E)), (8, (.slice a_l l.length k_l)), (9, (iI (l.length : Int))), (10, (iI (i : Int)))] ∧ mm = l.length - i ∧ (i ≤ l.length) ∧ (o = da (l.take i) [n])) _ ⟨([] : List Int), 0, none, 0, [], _, fR, al, (OS.nil : OS _ (.slice none 0 0) ([] : List Int) []), ⟨rfl, rfl, rfl, rfl, rfl, trivial⟩, rfl, (by omega), (by rfl)⟩ ?_
 rintro bk f4 H4 ⟨o, i, A, E, J, F4, V, T, N, aw, rfl, h1, h2⟩ ay
 refine ap _ aw (fun _ => ?_)
 clear aw
 replace hl := hl.mono V
 have n4 : o.length ≤ l.length := by rw [h2]; exact a0c min_len (by simp; omega)
 refine ah 1 rfl (wT 2 [] 11 11 [] [(11, (.bool (decide ((i : Int) < (l.length : Int)))))] rfl fun _ => am 4 5 (v := (decide ((i : Int) < (l.length : Int)))) rfl rfl rfl rfl (fun ad => ?_) (fun ad => ?_))
 ·
  have c7 := ad
  try simp only [BS] at c7
  obtain ⟨bb, ax⟩ := Sv.view (SR.sv hl T)
  have g9 := fI (ax i)
  refine wR 2 [(1, .o (iI (l.getD i 0)))] 12 13 [7] [(7, (iI (l.getD i 0)))] (vA (Sv.ix (j := (i : Int)) (SR.sv hl T) (by omega) (by omega)) (vA (ql 3 0 (vI (ax i) (by omega)) rfl rfl) trivial)) rfl fun _ => wT 1 [] 14 16 [] [(16, (.bool ((l.getD i 0) != n)))] rfl fun _ => am 0 2 (v := ((l.getD i 0) != n)) rfl rfl rfl rfl (fun U => ?_) (fun U => ?_)
  ·
   have Z := U
   try simp only [BS] at Z
   refine aa (wTo 2 0 [] 17 18 [] [(17, (.slice A o.length E)), (18, (iI (l.getD i 0)))] rfl fun _ => aG (bt (α := Int) (ps := [(0, (iI (l.getD i 0)))]) (cells := [(iI (l.getD i 0))]) ([(l.getD i 0)] : List Int) T rfl rfl rfl (by kernel_rfl) ⟨[(iI (l.getD i 0))], [], rfl, ⟨rfl, by omega⟩, rfl⟩ rfl) rfl rfl ?_)
   rintro _ a7 a6 ⟨a9, be, rfl, a3, (ag : HS _ _ _ [J, a6] _), _⟩
   refine aG (bw (α := Int) (q := 0) N ag rfl rfl rfl (OS.sv a3 ag (i := 1) rfl) rfl rfl rfl rfl rfl rfl rfl (by (simp only [a05, a0a, a0e]; omega))) rfl rfl ?_
   rintro _ a8 a1 ⟨av, a0, rfl, a4, (a5 : HS _ _ _ [a1, _] _), _⟩
   refine wa (.slice av (o ++ ([(l.getD i 0)] : List Int)).length a0) rfl rfl rfl (ae 2 rfl (wU 1 [] 10 10 [21] [(10, (iI ((i : Int) + 1)))] (vi (n := (i : Int) + 1) (by omega)) rfl fun _ => ay _ _ _ ?_ ⟨o ++ ([(l.getD i 0)] : List Int), i + 1, av, a0, a1, _, (V), (HS.sub a5 (a03 _ _)), a4, ⟨rfl, rfl, rfl, rfl, rfl, trivial⟩, rfl, (by omega), (by exact (ig (by omega) h2).1 (by rw [con1]; exact decide_eq_false (by assumption)))⟩))
   omega
  have Z := U
  try simp only [BS] at Z
  refine wU 1 [] 10 10 [21] [(10, (iI ((i : Int) + 1)))] (vi (n := (i : Int) + 1) (by omega)) rfl fun _ => ay _ _ _ ?_ ⟨o, i + 1, A, E, J, _, (V), T, N, ⟨rfl, rfl, rfl, rfl, rfl, trivial⟩, rfl, (by omega), (by exact (ig (by omega) h2).2 (by rw [con1]; exact decide_eq_true (by simp_all; done)))⟩
  omega
 have c7 := ad
 try simp only [BS] at c7
 refine wT 1 [] 4 4 [22] [(4, (.slice A o.length E))] rfl fun _ => ak ⟨.inr rfl, _, rfl, A, E, o, J, _, (V), (HS.only T (i := 0) rfl), rfl, N, (by rw [h2, a0f (by omega)])⟩
theorem dM {a_l : Option Addr} {k_l : Nat} (l : List Int) (n : Int) (hs : HS (.of H []) F H [] R) (hl : SR F (.slice a_l l.length k_l) l) (hn : in64 n) (hT : TB 37 tabC F) (ha : Asc l) (hlen : l.length ≤ 1000000) : kKt ex 93 [(.slice a_l l.length k_l), (iI n)] H fun v H' => ∃ (ar : Option Addr) (kr : Nat) (r : List Int) (F' : Fz), Fz.le F F' ∧ HS (.of H []) F' H' [] R ∧ v = .slice ar r.length kr ∧ SR F' (.slice ar r.length kr) r ∧ r = ed l n := by
 refine aH Tryd.func93 rfl rfl (ah 1 rfl (wT 3 [] 4 4 [] [(4, (.slice none 0 0))] rfl fun _ => wU 1 [(2, .o (.bool (gi l n)))] 6 8 [] [(8, (.bool (gi l n)))] (d8 ex l n (HS.call hs) hl (by omega) hT (by omega) (by omega)) rfl fun _ => am 1 2 (v := (gi l n)) rfl rfl rfl rfl (fun a0 => ?_) (fun a0 => ?_)))
 ·
  have c3 := a0
  try simp only [BS] at c3
  have hc := c3
  refine wT 1 [] 4 4 [9] [(4, (.slice a_l l.length k_l))] rfl fun _ => ak ⟨.inr rfl, _, rfl, a_l, k_l, l, _, fR, (HS.forget hs), rfl, hl, (by exact (ins_in ha (by simpa using hc)).symm)⟩
 have c3 := a0
 try simp only [BS] at c3
 have hc := c3
 refine wT 3 [] 1 0 [5] [(5, (iI 0))] rfl fun _ => aj (fun (mm : Nat) f H' => ∃ (k : Nat), H' = H ∧ aD f [(0, (.slice a_l l.length k_l)), (1, (iI n)), (5, (iI (k : Int)))] ∧ mm = l.length - k ∧ (k ≤ l.length) ∧ (∀ j, j < k → l.getD j 0 < n)) _ ⟨0, rfl, ⟨rfl, rfl, rfl, trivial⟩, rfl, (by omega), (by intro j hj; omega)⟩ ?_
 rintro f2 f6 H ⟨k, rfl, bz, rfl, h1, h2⟩ dv
 refine ap _ bz (fun _ => ?_)
 clear bz
 refine ah 2 rfl ?_
 obtain ⟨e9, b0⟩ := Sv.view (SR.sv hl hs)
 have g8 := fI (b0 k)
 refine wR 1 [(8, .o (iI (l.getD k 0)))] 10 21 [] [(21, (.bool ((decide ((k : Int) < (l.length : Int))) && (decide ((l.getD k 0) < n)))))] (vA (fun (g1 : (decide ((k : Int) < (l.length : Int))) = true) => (Sv.ix (j := (k : Int)) (SR.sv hl hs) (by (try simp only [BS] at g1); omega) (by (try simp only [BS] at g1); omega))) (vA (fun (g1 : (decide ((k : Int) < (l.length : Int))) = true) => (ql 3 0 (vI (b0 k) (by (try simp only [BS] at g1); omega)) rfl rfl)) trivial)) rfl fun _ => am 2 5 (v := ((decide ((k : Int) < (l.length : Int))) && (decide ((l.getD k 0) < n)))) rfl rfl rfl rfl (fun al => ?_) (fun al => ?_)
 ·
  have ax := al
  try simp only [BS] at ax
  refine wU 2 [] 22 23 [5] [(5, (iI ((k : Int) + 1)))] (vi (n := (k : Int) + 1) (by omega)) rfl fun _ => dv _ _ _ ?_ ⟨k + 1, rfl, ⟨rfl, rfl, rfl, trivial⟩, rfl, (by omega), (by exact lt_succ h2 (by omega))⟩
  omega
 have ax := al
 try simp only [BS] at ax
 refine aS rfl (bM (id := .a) (bt (α := Int) (ps := []) (cells := []) ([] : List Int) hs.log0 rfl rfl rfl (by kernel_rfl) rfl rfl) rfl rfl (fun _ _ _ _ => gZ rfl rfl rfl) trivial ?_)
 rintro _ c9 b2 ⟨e3, fd, rfl, b7, E, _⟩ co a6
 replace E := HS.lg E hs a6
 generalize ({ c9 with log := co } : Heap) = b4 at E ⊢
 have E : HS _ _ _ [b2] _ := E
 refine fm (.slice a_l l.length k_l) rfl rfl rfl (fm (iI (k : Int)) rfl rfl rfl (bM (id := .q fun b => F b ≠ none) (j3 (α := Int) (j := k) hl E.log0 rfl rfl rfl (optN (by omega)) (by omega)) rfl rfl (by rintro _ _ _ ⟨_, _, _, hH, _⟩; exact did_q rfl (SR.q hl)) (kb rfl) ?_))
 rintro _ _ _ ⟨e4, fi, rfl, V, cc⟩ c0 a7
 simp only at V; replace V := V.symm; subst V
 have U := HS.lg E.log0 E a7
 generalize ({ { b4 with log := [] } with log := c0 } : Heap) = ea at U ⊢
 refine bM (id := .x (b2.map Prod.fst)) (bw (α := Int) (q := 0) b7 U.log0 rfl rfl rfl (SR.sv cc U.log0) rfl rfl rfl rfl rfl rfl rfl (by (simp only [a05, a0a, a0e, a0g, a0o]; omega))) rfl rfl (by rintro _ _ av ⟨bl, b1, rfl, ad, _, hwr⟩; exact bQ rfl rfl (Wr.did hwr)) (kb rfl) ?_
 rintro _ dd av ⟨bl, b1, rfl, ad, N, _⟩ c4 a8
 replace N := HS.lg N U a8
 generalize ({ dd with log := c4 } : Heap) = em at N ⊢
 have N : HS _ _ _ [av] _ := N
 have ad : OS F (.slice bl (l.take k).length b1) (l.take k) av := ad
 refine fm (iI n) rfl rfl rfl (bM (id := .a) (bt (α := Int) (ps := [(0, (iI n))]) (cells := [(iI n)]) ([n] : List Int) N.log0 rfl rfl rfl (by kernel_rfl) ⟨[(iI n)], [], rfl, ⟨rfl, by omega⟩, rfl⟩ rfl) rfl rfl (fun _ _ _ _ => gZ rfl rfl rfl) (kb rfl) ?_)
 rintro _ dk d2 ⟨e5, f0, rfl, b9, A, _⟩ c5 a9
 replace A := HS.lg A N a9
 generalize ({ dk with log := c5 } : Heap) = es at A ⊢
 have A : HS _ _ _ [_, d2] _ := A
 refine bM (id := .x (av.map Prod.fst)) (bw (α := Int) (q := 0) ad A.log0 rfl rfl rfl (OS.sv b9 A.log0 (i := 1) rfl) rfl rfl rfl rfl rfl rfl rfl (by (simp only [a05, a0a, a0e, a0g, a0o]; omega))) rfl rfl (by rintro _ _ a4 ⟨ds, d1, rfl, a1, _, hwr⟩; exact bQ rfl rfl (Wr.did hwr)) (kb rfl) ?_
 rintro _ dl a4 ⟨ds, d1, rfl, a1, J, _⟩ c6 bb
 replace J := HS.lg J A bb
 generalize ({ dl with log := c6 } : Heap) = b5 at J ⊢
 have J : HS _ _ _ [a4, _] _ := J
 refine fm (.slice a_l l.length k_l) rfl rfl rfl (fm (iI (k : Int)) rfl rfl rfl (bM (id := .q fun b => F b ≠ none) (rs_cutd (α := Int) (i := k) hl J.log0 rfl rfl rfl (optN (by omega)) (by omega)) rfl rfl (by rintro _ _ _ ⟨_, _, _, hH, _⟩; exact did_q rfl (SR.q hl)) (⟨.inl rfl, ⟨.inl rfl, ⟨.inr (HS.apq A (i := 0) rfl), ⟨.inr trivial, ⟨.inr trivial, ⟨.inr (HS.apq U (i := 0) rfl), ⟨.inr trivial, ⟨.inr trivial, ⟨.inr trivial, ⟨.inr trivial, trivial⟩⟩⟩⟩⟩⟩⟩⟩⟩⟩) ?_))
 rintro _ _ _ ⟨e6, f1, rfl, Z, ch⟩ c7 be
 simp only at Z; replace Z := Z.symm; subst Z
 have ag := HS.lg J.log0 J be
 generalize ({ { b5 with log := [] } with log := c7 } : Heap) = et at ag ⊢
 refine bM (id := .x (a4.map Prod.fst)) (bw (α := Int) (q := 0) a1 ag.log0 rfl rfl rfl (SR.sv ch ag.log0) rfl rfl rfl rfl rfl rfl rfl (by (simp only [a05, a0a, a0e, a0g, a0o]; omega))) rfl rfl (by rintro _ _ b3 ⟨aw, a3, rfl, a2, _, hwr⟩; exact bQ rfl rfl (Wr.did hwr)) (kb rfl) ?_
 rintro _ dn b3 ⟨aw, a3, rfl, a2, T, _⟩ c8 bk
 replace T := HS.lg T ag bk
 generalize ({ dn with log := c8 } : Heap) = ez at T ⊢
 have T : HS _ _ _ [b3, _] _ := T
 refine fa (.slice aw (((l.take k) ++ ([n] : List Int)) ++ (l.drop k)).length a3) rfl rfl rfl (bT (ah 1 rfl ?_))
 obtain ⟨e2, b6, an, ci, e1⟩ := OS.frz a2 T (i := 0) rfl
 have an : HS _ _ _ [[], _] _ := an
 refine ak ⟨.inr rfl, _, rfl, aw, a3, ((l.take k) ++ ([n] : List Int)) ++ (l.drop k), _, (b6), (HS.forget an), rfl, ci, (by exact ins_new (pre_eq h1 h2 (by omega)) (fun hh => absurd (con_at hh.1 hh.2) (by simpa using hc)))⟩
set_option maxHeartbeats 2000000 in
theorem points_c {U : Option Addr} {Z : Nat} (c : VFnT) (hs : HS (.of H []) F H [] R) (lq : in64 c.params) (lr : in64 c.regs) (ch : SR F (.slice U c.blocks.length Z) c.blocks) (hT : TB 37 tabC F) (hval : d6 c = true) (hins : ∀ j, (c.blocks.getD j default).ins.length ≤ 1073741822) : kKt ex 51 [(.agg ⟨[(iI c.params), (iI c.regs), (.slice U c.blocks.length Z)]⟩)] H fun v H' => ∃ (aps : Option Addr) (kps : Nat) (ps : List (List (List Int))) (p : Fp) (F' : Fz), Fz.le F F' ∧ HS (.of H []) F' H' [p] R ∧ v = .slice aps ps.length kps ∧ OS F' (.slice aps ps.length kps) ps p ∧ (PsF c ps) := by
 have vF := iE hval
 have hnb := vF.nb
 have hrg := vF.regs
 refine aH Tryd.func51 rfl rfl (ah 1 rfl (aa (aG (bG hs rfl rfl) rfl rfl ?_)))
 rintro _ H2 _ ⟨b1, rfl, (hp : HS _ _ _ [[(b1, .cells [(iI c.params), (iI c.regs), (.slice U c.blocks.length Z)] none false)]] _), _⟩
 let ib : Value := (.agg ⟨[(iI c.params), (iI c.regs), (.slice U c.blocks.length Z)]⟩)
 refine wa (.slice none 0 0) rfl rfl rfl (ae 2 rfl (aa (wUo 1 0 [(0, .o ib)] 16 16 [] [(16, ib)] (qn 24 0 3 (HS.hc hp (i := 0) rfl) rfl rfl rfl rfl) rfl fun _ => aA (aq rfl rfl rfl) rfl rfl (md.blocks_c ex c (HS.call hp) (by omega) (by omega) ch hT (by exact fun j => a0c (hins j) (by omega))) ?_)))
 rintro _ H4 ⟨l4, mw, x4, c5, c6, y4, F4, hf, fd, rfl, lz, c9, ms, mr⟩
 replace fd : HS _ _ _ [_] _ := HS.back hp rfl fd
 refine wTo 5 2 [] 18 19 [3, 4, 15] [(4, (.slice c5 y4.length c6))] rfl fun _ => ae 2 rfl ?_
 have bk : BkF c _ y4 := (by assumption : d6 c = true → _) hval
 have hly := bk.ly
 refine wT 3 [] 1 0 [5] [(5, (.slice none 0 0))] rfl fun _ => wU 2 [(1, .o (.slice U c.blocks.length Z))] 20 23 [] [(21, (.slice U c.blocks.length Z)), (22, (iI (c.blocks.length : Int))), (23, (iI 0))] (ql 22 2 (HS.hc fd (i := 0) rfl) rfl rfl) rfl fun _ => ?_
 have ht := HS.snoc fd
 have ht : HS _ _ _ [_, []] _ := ht
 let dn : Fp := [(b1, .cells [(iI c.params), (iI c.regs), (.slice U c.blocks.length Z)] none false)]
 refine aj (fun (mm : Nat) f H' => ∃ (al : List (List (List Int))) (k : Nat) (N : Option Addr) (T : Nat) (ad : Fp) (F' : Fz), Fz.le F4 F' ∧ HS (Base.of H []) F' H' [dn, ad] R ∧ OS F' (.slice N al.length T) al ad ∧ aD f [(4, (.slice c5 y4.length c6)), (5, (.slice N al.length T)), (21, (.slice U c.blocks.length Z)), (22, (iI (c.blocks.length : Int))), (23, (iI (k : Int)))] ∧ mm = c.blocks.length - k ∧ (al.length = k) ∧ (k ≤ c.blocks.length) ∧ (∀ b, b < k → PtX c b (al.getD b default))) _ ⟨([] : List (List (List Int))), 0, none, 0, [], _, fR, ht, (OS.nil : OS _ (.slice none 0 0) ([] : List (List (List Int))) []), ⟨rfl, rfl, rfl, rfl, rfl, trivial⟩, rfl, (by rfl), (by omega), (by intro b hb; omega)⟩ ?_
 rintro mx f8 H8 ⟨al, k, N, T, ad, F8, dk, fi, a5, hY, rfl, e1, hk, e2⟩ kT
 refine ap _ hY (fun _ => ?_)
 clear hY
 replace hT := (hT.mono hf).mono dk
 replace ch := (ch.mono hf).mono dk
 replace c9 := c9.mono dk
 refine ah 1 rfl (wT 2 [] 24 24 [] [(24, (.bool (decide ((k : Int) < (c.blocks.length : Int)))))] rfl fun _ => am 4 5 (v := (decide ((k : Int) < (c.blocks.length : Int)))) rfl rfl rfl rfl (fun ds => ?_) (fun ds => ?_))
 ·
  have g5 := ds
  try simp only [BS] at g5
  refine aa ?_
  obtain ⟨J, hu⟩ := Sv.view (SR.sv ch fi)
  obtain ⟨kW, kX, kY, kZ, aw⟩ := BlkT.fx (hu k)
  let ih : Value := (.agg ⟨[(.slice (cA (J k) 0) (c.blocks.getD k default).ins.length (cK (J k) 0)), (iI (c.blocks.getD k default).fin), (iI (c.blocks.getD k default).reg), (iI (c.blocks.getD k default).tgt), (iI (c.blocks.getD k default).els)]⟩)
  refine wRo 3 0 [(2, .o ih)] 25 27 [] [(25, (iI (k : Int))), (27, ih)] (vA (Sv.ix (j := (k : Int)) (SR.sv ch fi) (by omega) (by omega)) (vA (qn 48 0 5 (BlkT.vw (hu k) (by omega)) rfl rfl rfl rfl) trivial)) rfl fun _ => aG (bp fi rfl) rfl rfl ?_
  rintro _ lM _ ⟨b5, rfl, (kc : HS _ _ _ [_, ad, [(b5, .cells [(.slice none 0 0), (iI 0), (iI 0), (iI 0), (iI 0)] none false)]] _), _⟩
  refine wa (iI (k : Int)) rfl rfl rfl (aN (aI (q := 2) kc rfl rfl rfl rfl rfl rfl rfl rfl rfl) rfl ?_)
  rintro _ lN _ ⟨(hn : HS _ _ _ [_, _, [(b5, .cells [(.slice (cA (J k) 0) (c.blocks.getD k default).ins.length (cK (J k) 0)), (iI (c.blocks.getD k default).fin), (iI (c.blocks.getD k default).reg), (iI (c.blocks.getD k default).tgt), (iI (c.blocks.getD k default).els)] none false)]] _), _⟩
  refine ae 2 rfl ?_
  have hbn : k < c.blocks.length := by omega
  have hbl := hins k
  have hrl : (List.replicate ((c.blocks.getD k default).ins.length + 2) ([] : List Int)).length = (c.blocks.getD k default).ins.length + 2 := a0I
  have hfn : ((c.blocks.getD k default).fin = 2 ∨ (c.blocks.getD k default).fin = 3) → 0 ≤ (c.blocks.getD k default).reg ∧ (c.blocks.getD k default).reg < c.regs := vF.fin k hbn
  have hyl := Lst.len (bk.hy k hbn) hrg.1 (fun r h => j7 vF h)
  have hya := (bk.hy k hbn).asc
  refine aa (wRo 4 0 [(1, .o (.slice (cA (J k) 0) (c.blocks.getD k default).ins.length (cK (J k) 0)))] 28 31 [] [(31, (iI (((c.blocks.getD k default).ins.length : Int) + 2)))] (vA (ql 46 0 (HS.hc hn (i := 2) rfl) rfl rfl) (vA (vi (n := ((c.blocks.getD k default).ins.length : Int) + 2) (by omega)) trivial)) rfl fun _ => aG (cE ([] : (List Int)) hn rfl rfl rfl rfl rfl rfl rfl rfl rfl ⟨none, 0, rfl, SR.nil⟩ (by omega) (by omega)) rfl rfl ?_)
  rintro _ lO h4 ⟨a6, a7, rfl, c8, (co : HS _ _ _ [_, _, _, h4] _), _⟩
  have c8 : OS F8 (.slice a6 (List.replicate ((c.blocks.getD k default).ins.length + 2) ([] : (List Int))).length a7) (List.replicate ((c.blocks.getD k default).ins.length + 2) ([] : (List Int))) h4 := c8
  refine wa (.slice a6 (List.replicate ((c.blocks.getD k default).ins.length + 2) ([] : (List Int))).length a7) rfl rfl rfl (ae 2 rfl ?_)
  obtain ⟨V, hv⟩ := Sv.view (SR.sv c9 co)
  have hI := fL (hv k)
  refine wR 2 [(3, .o (.slice (cA (V k) 0) (y4.getD k default).length (cK (V k) 0)))] 33 36 [9] [(9, (.slice (cA (V k) 0) (y4.getD k default).length (cK (V k) 0)))] (vA (Sv.ix (j := (k : Int)) (SR.sv c9 co) (by omega) (by omega)) (vA (ql 25 0 (vL (hv k) (by omega)) rfl rfl) trivial)) rfl fun _ => aa (wRo 7 0 [(2, .o (.slice (cA (J k) 0) (c.blocks.getD k default).ins.length (cK (J k) 0)))] 37 43 [] [(42, (.slice (cA (V k) 0) (y4.getD k default).length (cK (V k) 0))), (43, (.pointer (some ⟨sB (.slice a6 (List.replicate ((c.blocks.getD k default).ins.length + 2) ([] : (List Int))).length a7), sO (.slice a6 (List.replicate ((c.blocks.getD k default).ins.length + 2) ([] : (List Int))).length a7) + ((c.blocks.getD k default).ins.length + 1) * Rp.sz (List Int), none⟩)))] (vA (ql 46 0 (HS.hc co (i := 2) rfl) rfl rfl) (vA (vi (n := ((c.blocks.getD k default).ins.length : Int) + 1) (by omega)) (vA (Sv.ix (j := ((c.blocks.getD k default).ins.length : Int) + 1) (OS.sv c8 co (i := 3) rfl) (by omega) (by omega)) trivial))) rfl fun _ => aN (db (α := (List Int)) (j := (c.blocks.getD k default).ins.length + 1) (off := 0) (q := 3) (y4.getD k default) c8 co rfl rfl rfl rfl rfl rfl rfl rfl (aM (x := default) (by omega)) rfl (by rintro cs ⟨_, _, rfl, _⟩; exact ⟨a07 rfl, ⟨(cA (V k) 0), (cK (V k) 0), rfl, hI⟩⟩)) rfl ?_)
  rintro _ lP h5 ⟨ci, (bz : HS _ _ _ [_, _, _, h5] _), _⟩
  have lc := OS.len' ci
  let f0 : Fp := [(b5, .cells [(.slice (cA (J k) 0) (c.blocks.getD k default).ins.length (cK (J k) 0)), (iI (c.blocks.getD k default).fin), (iI (c.blocks.getD k default).reg), (iI (c.blocks.getD k default).tgt), (iI (c.blocks.getD k default).els)] none false)]
  refine ae 3 rfl (wR 1 [(1, .o (iI (c.blocks.getD k default).fin)), (5, .o (iI (c.blocks.getD k default).fin))] 44 51 [] [(51, (.bool (((c.blocks.getD k default).fin == 2) || ((c.blocks.getD k default).fin == 3))))] (vA (ql 3 1 (HS.hc bz (i := 2) rfl) rfl rfl) (vA (fun (g1 : ((c.blocks.getD k default).fin == 2) = false) => (ql 3 1 (HS.hc bz (i := 2) rfl) rfl rfl)) trivial)) rfl fun _ => bU (fun f H' => ∃ (s1 : List Int) (ax : Option Addr) (a1 : Nat) (F' : Fz), Fz.le F8 F' ∧ HS (Base.of H []) F' H' [dn, ad, f0, h5] R ∧ SR F' (.slice ax s1.length a1) s1 ∧ aD f [(4, (.slice c5 y4.length c6)), (5, (.slice N al.length T)), (7, (.pointer (some ⟨b5, 0, none⟩))), (8, (.slice a6 (List.replicate ((c.blocks.getD k default).ins.length + 2) ([] : (List Int))).length a7)), (9, (.slice ax s1.length a1)), (21, (.slice U c.blocks.length Z)), (22, (iI (c.blocks.length : Int))), (23, (iI (k : Int)))] ∧ (Lst s1 (ptS c k (c.blocks.getD k default).ins.length))) (fun hD => ?_) ?_)
  ·
   refine am 0 0 (v := (((c.blocks.getD k default).fin == 2) || ((c.blocks.getD k default).fin == 3))) rfl rfl rfl rfl (fun dt => ?_) (fun dt => ?_)
   ·
    have dd := dt
    try simp only [BS] at dd
    have hfe := dd
    have hfr := hfn hfe
    refine aa (wUo 3 0 [(2, .o (iI (c.blocks.getD k default).reg))] 52 54 [] [(52, (.slice (cA (V k) 0) (y4.getD k default).length (cK (V k) 0))), (54, (iI (c.blocks.getD k default).reg))] (ql 3 2 (HS.hc bz (i := 2) rfl) rfl rfl) rfl fun _ => aA (aq rfl rfl rfl) rfl rfl (dM ex (y4.getD k default) (c.blocks.getD k default).reg (HS.call bz) hI (by omega) hT (by omega) (by omega)) ?_)
    rintro _ lR ⟨f7, hE, my, lE, i1, ez, rfl, hQ, rfl⟩
    replace ez : HS _ _ _ [_, _, _, _] _ := HS.back bz rfl ez
    refine wa (.slice f7 (ed (y4.getD k default) (c.blocks.getD k default).reg).length hE) rfl rfl rfl (ae 0 rfl ?_)
    exact hD _ _ ⟨ed (y4.getD k default) (c.blocks.getD k default).reg, f7, hE, _, (i1), ez, hQ, ⟨rfl, rfl, rfl, rfl, rfl, rfl, rfl, rfl, trivial⟩, (by exact end_yes2 (bk.hy k hbn) hfe (hfn hfe).1)⟩
   have dd := dt
   try simp only [BS] at dd
   have hfe := dd
   exact hD _ _ ⟨(y4.getD k default), (cA (V k) 0), (cK (V k) 0), _, fR, bz, hI, ⟨rfl, rfl, rfl, rfl, rfl, rfl, rfl, rfl, trivial⟩, (by exact end_no2 (bk.hy k hbn) (show ¬ ((c.blocks.getD k default).fin = 2 ∨ (c.blocks.getD k default).fin = 3) by omega))⟩
  skip
  rintro l5 lQ ⟨s1, ax, a1, ko, b6, et, dl, hh, h0⟩
  refine ap _ hh (fun _ => ?_)
  clear hh
  replace ci := ci.mono b6
  refine ah 2 rfl (aa (wRo 6 0 [(2, .o (.slice (cA (J k) 0) (c.blocks.getD k default).ins.length (cK (J k) 0)))] 56 61 [] [(60, (.slice ax s1.length a1)), (61, (.pointer (some ⟨sB (.slice a6 (List.replicate ((c.blocks.getD k default).ins.length + 2) ([] : (List Int))).length a7), sO (.slice a6 (List.replicate ((c.blocks.getD k default).ins.length + 2) ([] : (List Int))).length a7) + (c.blocks.getD k default).ins.length * Rp.sz (List Int), none⟩)))] (vA (ql 46 0 (HS.hc et (i := 2) rfl) rfl rfl) (vA (Sv.ix (j := ((c.blocks.getD k default).ins.length : Int)) (OS.sv ci et (i := 3) rfl) (by omega) (by omega)) trivial)) rfl fun _ => aN (db (α := (List Int)) (j := (c.blocks.getD k default).ins.length) (off := 0) (q := 3) s1 ci et rfl rfl rfl rfl rfl rfl rfl rfl (aM (x := default) (by omega)) rfl (by rintro cs ⟨_, _, rfl, _⟩; exact ⟨a07 rfl, ⟨ax, a1, rfl, dl⟩⟩)) rfl ?_))
  rintro _ lS h6 ⟨em, (hq : HS _ _ _ [_, _, _, h6] _), _⟩
  have ld := OS.len' em
  refine ae 3 rfl (wR 2 [(1, .o (.slice (cA (J k) 0) (c.blocks.getD k default).ins.length (cK (J k) 0)))] 62 65 [10] [(10, (iI (((c.blocks.getD k default).ins.length : Int) - 1)))] (vA (ql 46 0 (HS.hc hq (i := 2) rfl) rfl rfl) (vA (vi (n := ((c.blocks.getD k default).ins.length : Int) - 1) (by omega)) trivial)) rfl fun _ => aj (fun (mm : Nat) f H' => ∃ (sw : List Int) (pl : List (List Int)) (iz : Int) (be : Option Addr) (bl : Nat) (A : Option Addr) (E : Nat) (a3 : Fp) (F' : Fz), Fz.le ko F' ∧ HS (Base.of H []) F' H' [dn, ad, f0, a3] R ∧ SR F' (.slice be sw.length bl) sw ∧ OS F' (.slice A pl.length E) pl a3 ∧ aD f [(4, (.slice c5 y4.length c6)), (5, (.slice N al.length T)), (7, (.pointer (some ⟨b5, 0, none⟩))), (8, (.slice A pl.length E)), (9, (.slice be sw.length bl)), (10, (iI iz)), (21, (.slice U c.blocks.length Z)), (22, (iI (c.blocks.length : Int))), (23, (iI (k : Int)))] ∧ mm = (iz + 1).toNat ∧ (pl.length = (c.blocks.getD k default).ins.length + 2) ∧ (-1 ≤ iz ∧ iz < ((c.blocks.getD k default).ins.length : Int)) ∧ (∀ j, (iz + 1).toNat ≤ j → j ≤ (c.blocks.getD k default).ins.length → Lst (cN pl j) (ptS c k j)) ∧ (Lst (cN pl ((c.blocks.getD k default).ins.length + 1)) (LOut c k)) ∧ (Lst sw (ptS c k (iz + 1).toNat))) _ ⟨s1, ((List.replicate ((c.blocks.getD k default).ins.length + 2) ([] : (List Int))).set ((c.blocks.getD k default).ins.length + 1) (y4.getD k default)).set (c.blocks.getD k default).ins.length s1, ((c.blocks.getD k default).ins.length : Int) - 1, ax, a1, a6, a7, h6, _, fR, hq, dl, (OS.norm em), (agC rfl (agC rfl (agC rfl (agC (show Value.slice a6 (List.replicate ((c.blocks.getD k default).ins.length + 2) ([] : (List Int))).length a7 = Value.slice a6 (((List.replicate ((c.blocks.getD k default).ins.length + 2) ([] : (List Int))).set ((c.blocks.getD k default).ins.length + 1) (y4.getD k default)).set (c.blocks.getD k default).ins.length s1).length a7 by rw [OS.len' em]) ⟨rfl, rfl, rfl, rfl, rfl, trivial⟩)))), rfl, (by simp), (by omega), (by exact fun j h1 h2 => by (rw [show j = (c.blocks.getD k default).ins.length by omega, cy (by simp), if_pos rfl]; exact h0)), (by rw [cy (by simp), if_neg (by omega), cy (by simp), if_pos rfl]; exact bk.hy k hbn), (by rw [show ((((c.blocks.getD k default).ins.length : Nat) : Int) - 1 + 1).toNat = (c.blocks.getD k default).ins.length by omega]; exact h0)⟩ ?_)
  rintro lB l6 lT ⟨sw, pl, iz, be, bl, A, E, a3, lF, b7, b0, c0, ar, hj, rfl, f1, f2, f3, f4, f5⟩ ki
  refine ap _ hj (fun _ => ?_)
  clear hj
  replace hT := (hT.mono b6).mono b7
  replace a5 := (a5.mono b6).mono b7
  replace aw := (aw.mono b6).mono b7
  refine ah 2 rfl (wT 1 [] 66 67 [] [(67, (.bool (decide ((0 : Int) ≤ iz))))] rfl fun _ => am 5 4 (v := (decide ((0 : Int) ≤ iz))) rfl rfl rfl rfl (fun dv => ?_) (fun dv => ?_))
  ·
   have g6 := dv
   try simp only [BS] at g6
   have hin : iz.toNat < (c.blocks.getD k default).ins.length := by omega
   have hvl : (∀ x ∈ az ((c.blocks.getD k default).ins.getD iz.toNat default), 0 ≤ x ∧ x < c.regs) ∧ (∀ x ∈ ab ((c.blocks.getD k default).ins.getD iz.toNat default), 0 ≤ x ∧ x < c.regs) ∧ ((c.blocks.getD k default).ins.getD iz.toNat default).args.length ≤ 6 := bV (vF.ins k hbn iz.toNat hin)
   have lA := hvl.2.2
   have hwl := dR (v := ((c.blocks.getD k default).ins.getD iz.toNat default))
   have lw := eh (v := ((c.blocks.getD k default).ins.getD iz.toNat default))
   refine aa ?_
   obtain ⟨ha, hw⟩ := Sv.view (SR.sv aw b0)
   obtain ⟨k0, k3, k4, k5, k6, hV⟩ := VInT.fx (hw iz.toNat)
   let ik : Value := (.agg ⟨[(iI ((c.blocks.getD k default).ins.getD iz.toNat default).i.op), (iI ((c.blocks.getD k default).ins.getD iz.toNat default).i.a), (iI ((c.blocks.getD k default).ins.getD iz.toNat default).i.b), (iI ((c.blocks.getD k default).ins.getD iz.toNat default).i.c), (iI ((c.blocks.getD k default).ins.getD iz.toNat default).i.n), (.slice (cA (ha iz.toNat) 5) ((c.blocks.getD k default).ins.getD iz.toNat default).args.length (cK (ha iz.toNat) 5))]⟩)
   refine wRo 5 0 [(1, .o (.slice (cA (J k) 0) (c.blocks.getD k default).ins.length (cK (J k) 0))), (4, .o ik)] 70 74 [] [(74, ik)] (vA (ql 46 0 (HS.hc b0 (i := 2) rfl) rfl rfl) (vA (Sv.ix (j := iz) (SR.sv aw b0) (by omega) (by omega)) (vA (qn 52 0 6 (VInT.vw (hw iz.toNat) (by omega)) rfl rfl rfl rfl) trivial))) rfl fun _ => aA (aq rfl rfl rfl) rfl rfl (ma.fM ex ((c.blocks.getD k default).ins.getD iz.toNat default) (HS.call b0) (by omega) (by omega) (by omega) (by omega) (by omega) hV hT) ?_
   rintro _ lU ⟨it, kl, mz, hH, kr, b9, e0, rfl, b3, rfl⟩
   replace e0 : HS _ _ _ [_, _, _, a3, hH] _ := HS.back b0 rfl e0
   replace c0 := c0.mono b9
   refine wTo 2 6 [] 76 77 [] [(76, (iI ((ab ((c.blocks.getD k default).ins.getD iz.toNat default)).length : Int))), (77, (iI 0))] rfl fun _ => ae 2 rfl (aj (fun (mm : Nat) f H' => ∃ (w1 : List Int) (q : Nat) (ay : Option Addr) (a2 : Nat) (F' : Fz), Fz.le kr F' ∧ HS (Base.of H []) F' H' [dn, ad, f0, a3, hH] R ∧ SR F' (.slice ay w1.length a2) w1 ∧ aD f [(4, (.slice c5 y4.length c6)), (5, (.slice N al.length T)), (7, (.pointer (some ⟨b5, 0, none⟩))), (8, (.slice A pl.length E)), (9, (.slice ay w1.length a2)), (10, (iI iz)), (21, (.slice U c.blocks.length Z)), (22, (iI (c.blocks.length : Int))), (23, (iI (k : Int))), (75, (.slice it (ab ((c.blocks.getD k default).ins.getD iz.toNat default)).length kl)), (76, (iI ((ab ((c.blocks.getD k default).ins.getD iz.toNat default)).length : Int))), (77, (iI (q : Int)))] ∧ mm = (ab ((c.blocks.getD k default).ins.getD iz.toNat default)).length - q ∧ (Lst w1 (wrS (ptS c k (iz.toNat + 1)) (ab ((c.blocks.getD k default).ins.getD iz.toNat default)) q)) ∧ (q ≤ (ab ((c.blocks.getD k default).ins.getD iz.toNat default)).length)) _ ⟨sw, 0, be, bl, _, fR, e0, c0, ⟨rfl, rfl, rfl, rfl, rfl, rfl, rfl, rfl, rfl, rfl, rfl, rfl, trivial⟩, rfl, (by exact wr_zero (by rw [show iz.toNat + 1 = (iz + 1).toNat by omega]; exact f5)), (by omega)⟩ ?_)
   rintro lC l7 lV ⟨w1, q, ay, a2, lG, a8, ag, a0, hl, rfl, g1, g2⟩ hC
   refine ap _ hl (fun _ => ?_)
   clear hl
   replace hT := (hT.mono b9).mono a8
   replace b3 := b3.mono a8
   replace ar := (ar.mono b9).mono a8
   replace aw := (aw.mono b9).mono a8
   have me := Lst.len g1 hrg.1 (fun r h => wr_lt (fun r h => gX vF hbn h) h)
   have l9 := g1.asc
   refine ah 1 rfl (wT 2 [] 78 78 [] [(78, (.bool (decide ((q : Int) < ((ab ((c.blocks.getD k default).ins.getD iz.toNat default)).length : Int)))))] rfl fun _ => am 4 6 (v := (decide ((q : Int) < ((ab ((c.blocks.getD k default).ins.getD iz.toNat default)).length : Int)))) rfl rfl rfl rfl (fun d1 => ?_) (fun d1 => ?_))
   ·
    have g7 := d1
    try simp only [BS] at g7
    obtain ⟨lj, hz⟩ := Sv.view (OS.sv b3 ag (i := 4) rfl)
    have mp := fI (hz q)
    refine wR 2 [(1, .o (iI ((ab ((c.blocks.getD k default).ins.getD iz.toNat default)).getD q 0)))] 79 80 [12] [(12, (iI ((ab ((c.blocks.getD k default).ins.getD iz.toNat default)).getD q 0)))] (vA (Sv.ix (j := (q : Int)) (OS.sv b3 ag (i := 4) rfl) (by omega) (by omega)) (vA (ql 3 0 (vI (hz q) (by omega)) rfl rfl) trivial)) rfl fun _ => wU 1 [(2, .o (.bool (gi w1 ((ab ((c.blocks.getD k default).ins.getD iz.toNat default)).getD q 0))))] 81 83 [] [(83, (.bool (gi w1 ((ab ((c.blocks.getD k default).ins.getD iz.toNat default)).getD q 0))))] (d8 ex w1 ((ab ((c.blocks.getD k default).ins.getD iz.toNat default)).getD q 0) (HS.call ag) a0 (by omega) hT (by omega) (by omega)) rfl fun _ => am 0 2 (v := (gi w1 ((ab ((c.blocks.getD k default).ins.getD iz.toNat default)).getD q 0))) rfl rfl rfl rfl (fun d2 => ?_) (fun d2 => ?_)
    ·
     have g8 := d2
     try simp only [BS] at g8
     refine aa (wTo 2 0 [] 84 85 [] [(84, (.slice ay w1.length a2)), (85, (iI ((ab ((c.blocks.getD k default).ins.getD iz.toNat default)).getD q 0)))] rfl fun _ => aA (aq rfl rfl rfl) rfl rfl (iy ex w1 ((ab ((c.blocks.getD k default).ins.getD iz.toNat default)).getD q 0) (HS.call ag) a0 (by omega) hT (by omega)) ?_)
     rintro _ lW ⟨f9, hF, mA, kU, lH, i2, e3, rfl, hR, rfl⟩
     replace e3 : HS _ _ _ [_, _, _, _, _, kU] _ := HS.back ag rfl e3
     refine wa (.slice f9 (da w1 [((ab ((c.blocks.getD k default).ins.getD iz.toNat default)).getD q 0)]).length hF) rfl rfl rfl (ae 2 rfl (wU 1 [] 77 77 [87] [(77, (iI ((q : Int) + 1)))] (vi (n := (q : Int) + 1) (by omega)) rfl fun _ => ?_))
     obtain ⟨lI, i3, e4, jq, lu⟩ := OS.frz hR e3 (i := 5) rfl
     have e4 : HS _ _ _ [_, _, _, _, _, []] _ := e4
     refine hC _ _ _ ?_ ⟨da w1 [((ab ((c.blocks.getD k default).ins.getD iz.toNat default)).getD q 0)], q + 1, f9, hF, _, (fT (fT (a8) i2) i3), (HS.sub e4 (a03 _ _)), jq, ⟨rfl, rfl, rfl, rfl, rfl, rfl, rfl, rfl, rfl, rfl, rfl, rfl, trivial⟩, rfl, (by exact wr_yes (by omega) g1), (by omega)⟩
     omega
    have g8 := d2
    try simp only [BS] at g8
    refine wU 1 [] 77 77 [87] [(77, (iI ((q : Int) + 1)))] (vi (n := (q : Int) + 1) (by omega)) rfl fun _ => hC _ _ _ ?_ ⟨w1, q + 1, ay, a2, _, (a8), ag, a0, ⟨rfl, rfl, rfl, rfl, rfl, rfl, rfl, rfl, rfl, rfl, rfl, rfl, trivial⟩, rfl, (by exact wr_no (by omega) (by simp_all; done) g1), (by omega)⟩
    omega
   have g7 := d1
   try simp only [BS] at g7
   refine aa ?_
   obtain ⟨he, hA⟩ := Sv.view (SR.sv aw ag)
   obtain ⟨k7, k8, k9, la, lb, hW⟩ := VInT.fx (hA iz.toNat)
   let il : Value := (.agg ⟨[(iI ((c.blocks.getD k default).ins.getD iz.toNat default).i.op), (iI ((c.blocks.getD k default).ins.getD iz.toNat default).i.a), (iI ((c.blocks.getD k default).ins.getD iz.toNat default).i.b), (iI ((c.blocks.getD k default).ins.getD iz.toNat default).i.c), (iI ((c.blocks.getD k default).ins.getD iz.toNat default).i.n), (.slice (cA (he iz.toNat) 5) ((c.blocks.getD k default).ins.getD iz.toNat default).args.length (cK (he iz.toNat) 5))]⟩)
   refine wRo 5 0 [(1, .o (.slice (cA (J k) 0) (c.blocks.getD k default).ins.length (cK (J k) 0))), (4, .o il)] 88 92 [] [(92, il)] (vA (ql 46 0 (HS.hc ag (i := 2) rfl) rfl rfl) (vA (Sv.ix (j := iz) (SR.sv aw ag) (by omega) (by omega)) (vA (qn 52 0 6 (VInT.vw (hA iz.toNat) (by omega)) rfl rfl rfl rfl) trivial))) rfl fun _ => aA (aq rfl rfl rfl) rfl rfl (ma.hO ex ((c.blocks.getD k default).ins.getD iz.toNat default) (HS.call ag) (by omega) (by omega) (by omega) (by omega) (by omega) hW hT (by omega)) ?_
   rintro _ lX ⟨iv, kn, mB, h7, kx, c7, e5, rfl, b4, rfl⟩
   replace e5 : HS _ _ _ [_, _, _, _, _, h7] _ := HS.back ag rfl e5
   replace a0 := a0.mono c7
   refine wTo 2 6 [] 94 95 [] [(94, (iI ((az ((c.blocks.getD k default).ins.getD iz.toNat default)).length : Int))), (95, (iI 0))] rfl fun _ => ae 2 rfl (aj (fun (mm : Nat) f H' => ∃ (w2 : List Int) (p : Nat) (an : Option Addr) (av : Nat) (F' : Fz), Fz.le kx F' ∧ HS (Base.of H []) F' H' [dn, ad, f0, a3, hH, h7] R ∧ SR F' (.slice an w2.length av) w2 ∧ aD f [(4, (.slice c5 y4.length c6)), (5, (.slice N al.length T)), (7, (.pointer (some ⟨b5, 0, none⟩))), (8, (.slice A pl.length E)), (9, (.slice an w2.length av)), (10, (iI iz)), (21, (.slice U c.blocks.length Z)), (22, (iI (c.blocks.length : Int))), (23, (iI (k : Int))), (93, (.slice iv (az ((c.blocks.getD k default).ins.getD iz.toNat default)).length kn)), (94, (iI ((az ((c.blocks.getD k default).ins.getD iz.toNat default)).length : Int))), (95, (iI (p : Int)))] ∧ mm = (az ((c.blocks.getD k default).ins.getD iz.toNat default)).length - p ∧ (Lst w2 (rdS (wrS (ptS c k (iz.toNat + 1)) (ab ((c.blocks.getD k default).ins.getD iz.toNat default)) q) (az ((c.blocks.getD k default).ins.getD iz.toNat default)) p)) ∧ (p ≤ (az ((c.blocks.getD k default).ins.getD iz.toNat default)).length)) _ ⟨w1, 0, ay, a2, _, fR, e5, a0, ⟨rfl, rfl, rfl, rfl, rfl, rfl, rfl, rfl, rfl, rfl, rfl, rfl, trivial⟩, rfl, (by exact rd_zero g1), (by omega)⟩ ?_)
   rintro lD l8 lY ⟨w2, p, an, av, lJ, cc, b2, c3, hm, rfl, g3, g4⟩ kk
   refine ap _ hm (fun _ => ?_)
   clear hm
   replace hT := (hT.mono c7).mono cc
   replace b4 := b4.mono cc
   replace ar := (ar.mono c7).mono cc
   have mn := Lst.len g3 hrg.1 (fun r h => rd_lt (fun r h => wr_lt (fun r h => gX vF hbn h) h) hvl.1 h)
   have mk := g3.asc
   refine ah 1 rfl (wT 2 [] 96 96 [] [(96, (.bool (decide ((p : Int) < ((az ((c.blocks.getD k default).ins.getD iz.toNat default)).length : Int)))))] rfl fun _ => am 4 4 (v := (decide ((p : Int) < ((az ((c.blocks.getD k default).ins.getD iz.toNat default)).length : Int)))) rfl rfl rfl rfl (fun ea => ?_) (fun ea => ?_))
   ·
    have g9 := ea
    try simp only [BS] at g9
    obtain ⟨ll, hB⟩ := Sv.view (OS.sv b4 b2 (i := 5) rfl)
    have mq := fI (hB p)
    refine wR 1 [(1, .o (iI ((az ((c.blocks.getD k default).ins.getD iz.toNat default)).getD p 0)))] 97 98 [14] [(14, (iI ((az ((c.blocks.getD k default).ins.getD iz.toNat default)).getD p 0)))] (vA (Sv.ix (j := (p : Int)) (OS.sv b4 b2 (i := 5) rfl) (by omega) (by omega)) (vA (ql 3 0 (vI (hB p) (by omega)) rfl rfl) trivial)) rfl fun _ => aa (wTo 2 0 [] 99 100 [] [(99, (.slice an w2.length av)), (100, (iI ((az ((c.blocks.getD k default).ins.getD iz.toNat default)).getD p 0)))] rfl fun _ => aA (aq rfl rfl rfl) rfl rfl (dM ex w2 ((az ((c.blocks.getD k default).ins.getD iz.toNat default)).getD p 0) (HS.call b2) c3 (by omega) hT (by omega) (by omega)) ?_)
    rintro _ lZ ⟨go, hG, mC, lK, ja, e6, rfl, hS, rfl⟩
    replace e6 : HS _ _ _ [_, _, _, _, _, _] _ := HS.back b2 rfl e6
    refine wa (.slice go (ed w2 ((az ((c.blocks.getD k default).ins.getD iz.toNat default)).getD p 0)).length hG) rfl rfl rfl (ae 2 rfl (wU 1 [] 95 95 [102] [(95, (iI ((p : Int) + 1)))] (vi (n := (p : Int) + 1) (by omega)) rfl fun _ => kk _ _ _ ?_ ⟨ed w2 ((az ((c.blocks.getD k default).ins.getD iz.toNat default)).getD p 0), p + 1, go, hG, _, (fT (cc) ja), e6, hS, ⟨rfl, rfl, rfl, rfl, rfl, rfl, rfl, rfl, rfl, rfl, rfl, rfl, trivial⟩, rfl, (by exact rd_yes (by omega) (d3 hvl.1 (by omega)).1 g3), (by omega)⟩))
    omega
   have g9 := ea
   try simp only [BS] at g9
   have hdone : Lst w2 (ptS c k iz.toNat) := pt_done hin (show (ab ((c.blocks.getD k default).ins.getD iz.toNat default)).length ≤ q by omega) (show (az ((c.blocks.getD k default).ins.getD iz.toNat default)).length ≤ p by omega) g3
   refine aa (wUo 4 0 [] 103 106 [] [(105, (.slice an w2.length av)), (106, (.pointer (some ⟨sB (.slice A pl.length E), sO (.slice A pl.length E) + iz.toNat * Rp.sz (List Int), none⟩)))] (Sv.ix (j := iz) (OS.sv ar b2 (i := 3) rfl) (by omega) (by omega)) rfl fun _ => aN (db (α := (List Int)) (j := iz.toNat) (off := 0) (q := 3) w2 ar b2 rfl rfl rfl rfl rfl rfl rfl rfl (aM (x := default) (by omega)) rfl (by rintro cs ⟨_, _, rfl, _⟩; exact ⟨a07 rfl, ⟨an, av, rfl, c3⟩⟩)) rfl ?_)
   rintro _ l0 h8 ⟨es, (kd : HS _ _ _ [_, _, _, h8, _, _] _), _⟩
   have lf := OS.len' es
   refine ae 2 rfl (wU 1 [] 68 69 [10] [(10, (iI (iz - 1)))] (vi (n := iz - 1) (by omega)) rfl fun _ => ki _ _ _ ?_ ⟨w2, pl.set iz.toNat w2, iz - 1, an, av, A, E, h8, _, (fT (fT (fT (fT (b7) b9) a8) c7) cc), (HS.sub kd (a03 _ _)), c3, (OS.norm es), (agC rfl (agC rfl (agC rfl (agC (show Value.slice A pl.length E = Value.slice A (pl.set iz.toNat w2).length E by rw [OS.len' es]) ⟨rfl, rfl, rfl, rfl, rfl, trivial⟩)))), rfl, (by rw [a0h]; exact f1), (by omega), (by rw [show (iz - 1 + 1).toNat = iz.toNat by omega]; exact pset f1 (fun j h1 h2 => f3 j (show (iz + 1).toNat ≤ j by omega) h2) (show iz.toNat ≤ (c.blocks.getD k default).ins.length by omega) hdone), (by rw [cy (by rw [f1]; omega), if_neg (by omega)]; exact f4), (by rw [show (iz - 1 + 1).toNat = iz.toNat by omega]; exact hdone)⟩)
   omega
  have g6 := dv
  try simp only [BS] at g6
  refine aa (wTo 2 0 [] 107 108 [] [(107, (.slice N al.length T)), (108, (.slice A pl.length E))] rfl fun _ => ?_)
  obtain ⟨lL, hg, e9, jw, lv⟩ := OS.frz ar b0 (i := 3) rfl
  have e9 : HS _ _ _ [_, _, _, []] _ := e9
  replace a5 := a5.mono hg
  refine aG (bt (α := (List (List Int))) (ps := [(0, (.slice A pl.length E))]) (cells := [(.slice A pl.length E)]) ([pl] : List (List (List Int))) e9 rfl rfl rfl (by kernel_rfl) ⟨[(.slice A pl.length E)], [], rfl, ⟨A, E, rfl, jw⟩, rfl⟩ rfl) rfl rfl ?_
  rintro _ l1 kV ⟨l3, mu, rfl, jb, (hr : HS _ _ _ [_, _, _, _, kV] _), _⟩
  refine aG (bw (α := (List (List Int))) (q := 1) a5 hr rfl rfl rfl (OS.sv jb hr (i := 4) rfl) rfl rfl rfl rfl rfl rfl rfl (by (simp only [a05, a0a, a0e]; omega))) rfl rfl ?_
  rintro _ l2 h9 ⟨hX, h3, rfl, jc, (kg : HS _ _ _ [_, h9, _, _, _] _), _⟩
  refine wa (.slice hX (al ++ ([pl] : List (List (List Int)))).length h3) rfl rfl rfl (ae 2 rfl (wU 1 [] 23 23 [111] [(23, (iI ((k : Int) + 1)))] (vi (n := (k : Int) + 1) (by omega)) rfl fun _ => kT _ _ _ ?_ ⟨al ++ ([pl] : List (List (List Int))), k + 1, hX, h3, h9, _, (fT (fT (fT (dk) b6) b7) hg), (HS.sub kg (a03 _ _)), jc, ⟨rfl, rfl, rfl, rfl, rfl, trivial⟩, rfl, (by simp; omega), (by omega), (by exact ps_snoc e1 e2 ⟨f1, fun i hi => f3 i (by omega) hi, f4⟩)⟩))
  omega
 have g5 := ds
 try simp only [BS] at g5
 refine wT 1 [] 2 2 [112] [(2, (.slice N al.length T))] rfl fun _ => ak ⟨.inr rfl, _, rfl, N, T, al, ad, _, (fT (hf) dk), (HS.only fi (i := 1) rfl), rfl, a5, (by exact ⟨by omega, fun b hb => e2 b (by omega)⟩)⟩
end Go.Proofs.YtknafdcgpaejlaaDoor.na
