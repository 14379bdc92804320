/-
 Ascending lists and live points, the allocator: by symbolic runs. No condition but bounds on lengths.
-/
import Derived.Test.YtknafdcgpaejlaaDoorZAMJ
noncomputable section
namespace Go.Proofs.YtknafdcgpaejlaaDoor.na
open Go.R
set_option maxRecDepth 10000
set_option linter.unusedVariables false
open m1 m2 m3 m4 m5 m6 ma ml mb mc md mf mg mh mi mj
theorem con_at {l : List Int} {n : Int} {k : Nat} (h : k < l.length) (e : l.getD k 0 = n) : conV l n = true := con_iff.2 (e ▸ mem_at h)
theorem con_not {l : List Int} {n : Int} {k : Nat} (ha : Asc l) (E : ∀ j, j < k → l.getD j 0 < n) (I : ∀ j, k ≤ j → j < l.length → n ≤ l.getD j 0) (h : ¬ (k < l.length ∧ l.getD k 0 = n)) : conV l n = false := by
 rw [Bool.eq_false_iff]
 intro hc
 obtain ⟨j, hj, e⟩ := List.mem_iff_getElem.1 (con_iff.1 hc)
 have e' : l.getD j 0 = n := by rw [List.getD_eq_getElem?_getD, List.getElem?_eq_getElem hj]; exact e
 rcases Nat.lt_or_ge j k with z | z
 ·
  have := E j z; omega
 ·
  have J := I k (Nat.le_refl _) (by omega)
  rcases Nat.eq_or_lt_of_le z with A | A
  ·
   subst A; exact h ⟨hj, e'⟩
  ·
   have := asc_at ha A hj
   exact h ⟨by omega, by omega⟩
theorem con_fin {l : List Int} {n : Int} {lo hi : Nat} (ha : Asc l) (h : ¬ (lo : Int) < (hi : Int)) (J : lo ≤ hi ∧ hi ≤ l.length) (A : ∀ j, j < lo → l.getD j 0 < n) (E : ∀ j, hi ≤ j → j < l.length → n ≤ l.getD j 0) (b : Bool) (hb : b = true ↔ (lo < l.length ∧ l.getD lo 0 = n)) : b = conV l n := by
 have e : lo = hi := by omega
 subst e
 cases b with
 | true => obtain ⟨z, I⟩ := hb.1 rfl; exact (con_at z I).symm
 | false => exact (con_not ha A E fun z => by have := hb.2 z; cases this).symm
theorem bs_lo {l : List Int} {n : Int} {m : Nat} (ha : Asc l) (hm : m < l.length) (h : l.getD m 0 < n) : ∀ j, j < m + 1 → l.getD j 0 < n := fun j hj => by
 rcases Nat.eq_or_lt_of_le (Nat.le_of_lt_succ hj) with e | e
 ·
  subst e; exact h
 ·
  have := asc_at ha e hm; omega
theorem bs_hi {l : List Int} {n : Int} {m : Nat} (ha : Asc l) (h : ¬ l.getD m 0 < n) : ∀ j, m ≤ j → j < l.length → n ≤ l.getD j 0 := fun j hj hl => by
 rcases Nat.eq_or_lt_of_le hj with e | e
 ·
  subst e; omega
 ·
  have := asc_at ha e hl; omega
theorem con1 {n x : Int} : conV [n] x = decide (x = n) := by
 unfold conV
 simp only [List.any_cons, List.any_nil, Bool.or_false]
 rw [Bool.eq_iff_iff]; simp only [decide_eq_true_eq]; exact ⟨fun h => h.symm, fun h => h.symm⟩
theorem ins_in {l : List Int} {n : Int} (ha : Asc l) (h : conV l n = true) : insV l n = l := by
 obtain ⟨j, hj, e⟩ := List.mem_iff_getElem.1 (con_iff.1 h)
 have e' : l.getD j 0 = n := by rw [List.getD_eq_getElem?_getD, List.getElem?_eq_getElem hj]; exact e
 have hk := pre_eq (l := l) (n := n) (k := j) (by omega) (fun i hi => by have := asc_at ha hi hj; omega) (fun _ => by omega)
 exact (ins_same hk hj e').symm
theorem Lst.ins {l : List Int} {S : Nat → Prop} {n : Int} (h : Lst l S) (hn : 0 ≤ n) : Lst (insV l n) (fun r => S r ∨ (r : Int) = n) := ⟨ins_asc h.asc, fun x => by
 rw [ins_mem, h.mem]
 constructor
 ·
  rintro (rfl | z)
  ·
   exact ⟨hn, .inr (by omega)⟩
  ·
   exact ⟨z.1, .inl z.2⟩
 ·
  rintro ⟨z, A | A⟩
  ·
   exact .inr ⟨z, A⟩
  ·
   exact .inl (by omega)⟩
theorem Lst.del {l : List Int} {S : Nat → Prop} {n : Int} (h : Lst l S) : Lst (minV l [n]) (fun r => S r ∧ (r : Int) ≠ n) := Lst.ext (Lst.minus h) fun r => by rw [List.mem_singleton]
structure PtX (c : VFnT) (b : Nat) (l : List (List Int)) : Prop where
 len : l.length = (blkN c b).ins.length + 2
 pt : ∀ i, i ≤ (blkN c b).ins.length → Lst (rowN l i) (ptS c b i)
 out : Lst (rowN l ((blkN c b).ins.length + 1)) (LOut c b)
structure PsF (c : VFnT) (p : List (List (List Int))) : Prop where
 len : p.length = c.blocks.length
 at_ : ∀ b, b < c.blocks.length → PtX c b (p.getD b default)
theorem ps_snoc {c : VFnT} {al : List (List (List Int))} {k : Nat} {l : List (List Int)} (hl : al.length = k) (h : ∀ b, b < k → PtX c b (al.getD b default)) (hx : PtX c k l) : ∀ b, b < k + 1 → PtX c b ((al ++ [l]).getD b default) := fun b hb => by
 rw [at_snoc]
 split
 ·
  rename_i e; rw [hl] at e; subst e; exact hx
 ·
  exact h b (by omega)
theorem end_yes2 {c : VFnT} {b : Nat} {o : List Int} (h : Lst o (LOut c b)) (hf : (blkN c b).fin = 2 ∨ (blkN c b).fin = 3) (hr : 0 ≤ (blkN c b).reg) : Lst (insV o (blkN c b).reg) (ptS c b (blkN c b).ins.length) := Lst.ext (Lst.ins h hr) fun r => by
 unfold ptS
 rw [List.drop_length]
 show _ ↔ endS _ _ _
 unfold endS endV
 rw [if_pos hf, List.mem_singleton]
theorem end_no2 {c : VFnT} {b : Nat} {o : List Int} (h : Lst o (LOut c b)) (hf : ¬ ((blkN c b).fin = 2 ∨ (blkN c b).fin = 3)) : Lst o (ptS c b (blkN c b).ins.length) := Lst.ext h fun r => by
 unfold ptS
 rw [List.drop_length]
 show _ ↔ endS _ _ _
 unfold endS endV
 rw [if_neg hf]
 exact ⟨.inl, fun h => h.elim id fun h => by cases h⟩
def wrS (S : Nat → Prop) (l : List Int) (q r : Nat) : Prop := S r ∧ (r : Int) ∉ l.take q
def rdS (S : Nat → Prop) (l : List Int) (q r : Nat) : Prop := S r ∨ (r : Int) ∈ l.take q
theorem wr_zero {w : List Int} {S : Nat → Prop} {l : List Int} (h : Lst w S) : Lst w (wrS S l 0) := Lst.ext h fun r => by unfold wrS; simp
theorem wr_yes {w : List Int} {S : Nat → Prop} {l : List Int} {q : Nat} (hq : q < l.length) (h : Lst w (wrS S l q)) : Lst (minV w [l.getD q 0]) (wrS S l (q + 1)) := Lst.ext (Lst.del h) fun r => by
 unfold wrS
 rw [take_snoc hq (d := 0), List.mem_append, List.mem_singleton, and_assoc, not_or]
theorem wr_no {w : List Int} {S : Nat → Prop} {l : List Int} {q : Nat} (hq : q < l.length) (hc : conV w (l.getD q 0) = false) (h : Lst w (wrS S l q)) : Lst w (wrS S l (q + 1)) := Lst.ext h fun r => by
 unfold wrS
 rw [take_snoc hq (d := 0), List.mem_append, List.mem_singleton, not_or]
 constructor
 ·
  rintro ⟨z, A⟩
  refine ⟨z, A, fun e => ?_⟩
  have : (r : Int) ∈ w := (h.mem r).2 ⟨by omega, by simpa using ⟨z, A⟩⟩
  rw [e] at this
  rw [con_iff.2 this] at hc; cases hc
 ·
  rintro ⟨z, A, _⟩; exact ⟨z, A⟩
theorem rd_zero {w : List Int} {S : Nat → Prop} {l : List Int} (h : Lst w S) : Lst w (rdS S l 0) := Lst.ext h fun r => by unfold rdS; simp
theorem rd_yes {w : List Int} {S : Nat → Prop} {l : List Int} {q : Nat} (hq : q < l.length) (z : 0 ≤ l.getD q 0) (h : Lst w (rdS S l q)) : Lst (insV w (l.getD q 0)) (rdS S l (q + 1)) := Lst.ext (Lst.ins h z) fun r => by
 unfold rdS
 rw [take_snoc hq (d := 0), List.mem_append, List.mem_singleton, or_assoc]
theorem wr_lt {S : Nat → Prop} {l : List Int} {m : Int} (hs : ∀ r, S r → (r : Int) < m) {q r : Nat} (h : wrS S l q r) : (r : Int) < m := hs r h.1
theorem rd_lt {S : Nat → Prop} {l : List Int} {m : Int} (hs : ∀ r, S r → (r : Int) < m) (hl : ∀ x ∈ l, 0 ≤ x ∧ x < m) {q r : Nat} (h : rdS S l q r) : (r : Int) < m := by
 rcases h with h | h
 ·
  exact hs r h
 ·
  exact (hl _ (List.mem_of_mem_take h)).2
theorem pt_done {c : VFnT} {b i q p : Nat} {w : List Int} (hi : i < (blkN c b).ins.length) (hq : (writesV ((blkN c b).ins.getD i default)).length ≤ q) (hp : (readsV ((blkN c b).ins.getD i default)).length ≤ p) (h : Lst w (rdS (wrS (ptS c b (i + 1)) (writesV ((blkN c b).ins.getD i default)) q) (readsV ((blkN c b).ins.getD i default)) p)) : Lst w (ptS c b i) := Lst.ext h fun r => by
 unfold rdS wrS ptS
 rw [List.take_of_length_le hq, List.take_of_length_le hp, tr_drop hi]
 exact or_comm
theorem pset {c : VFnT} {b i : Nat} {l : List (List Int)} {x : List Int} (hl : l.length = (blkN c b).ins.length + 2) (h : ∀ j, i < j → j ≤ (blkN c b).ins.length → Lst (rowN l j) (ptS c b j)) (hi : i ≤ (blkN c b).ins.length) (hx : Lst x (ptS c b i)) : ∀ j, i ≤ j → j ≤ (blkN c b).ins.length → Lst (rowN (l.set i x) j) (ptS c b j) := fun j A z => by
 rw [row_set (by omega)]
 split
 ·
  rename_i e; subst e; exact hx
 ·
  rename_i e; exact h j (by omega) z
theorem contains_c (ex : FuncId) {a_l : Option Addr} {k_l : Nat} (l : List Int) (n : Int) {F : Fz} {H : Heap} {R : List Fp} (hs : HS (.of H []) F H [] R) (hl : SR F (.slice a_l l.length k_l) l) (hn : in64 n) (hT : TB 37 tabC F) (ha : Asc l) (hlen : l.length ≤ 1073741824) : C Tryd.prog 1 (KT 60 ex 37 tabC) 94 [(.slice a_l l.length k_l), (.int .i64 n)] H fun v H' => ∃ (r : Bool), H' = H ∧ v = .bool r ∧ r = conV l n := by
 refine c_enter Tryd.func94 rfl rfl ?_
 refine wk_foc 1 rfl ?_
 refine wr 2 [] 4 4 [] [(4, (.bool false))] trivial (by kernel_rfl) rfl fun _ => ?_
 refine wr 3 [] 8 9 [5, 6] [(5, (.int .i64 0)), (6, (.int .i64 (l.length : Int)))] trivial (by kernel_rfl) rfl fun _ => ?_
 refine wk_loop_inv (fun (mm : Nat) f H' => ∃ (lo : Nat) (hi : Nat), H' = H ∧ agrees f [(0, (.slice a_l l.length k_l)), (1, (.int .i64 n)), (4, (.bool false)), (5, (.int .i64 (lo : Int))), (6, (.int .i64 (hi : Int)))] ∧ mm = hi - lo ∧ (lo ≤ hi ∧ hi ≤ l.length) ∧ (∀ j, j < lo → l.getD j 0 < n) ∧ (∀ j, hi ≤ j → j < l.length → n ≤ l.getD j 0)) _ ⟨0, l.length, rfl, (agC rfl (agC rfl (agC rfl (agC rfl (agC rfl agN))))), rfl, (by first | assumption | omega | (simp at *; omega)), (by intro j hj; omega), (by intro j V Y; omega)⟩ ?_
 rintro ae f3 H ⟨lo, hi, rfl, N, rfl, V, Y, h3⟩ T
 refine wk_canon _ N (fun _ => ?_)
 clear N
 refine wk_foc 2 rfl ?_
 refine wr 1 [] 10 12 [] [(12, (.bool (decide ((lo : Int) < (hi : Int)))))] trivial (by kernel_rfl) rfl fun _ => ?_
 refine wk_if 3 5 (v := (decide ((lo : Int) < (hi : Int)))) rfl rfl rfl rfl (fun E => ?_) (fun E => ?_)
 ·
  have U := E
  try simp only [BS] at U
  refine wr 2 [] 13 16 [7] [(7, (.int .i64 (((lo + hi) / 2 : Nat) : Int)))] (vA (vi (n := (lo : Int) + (hi : Int)) (by omega)) (vA (vA (show (2 : Int) ≠ 0 from by decide) (vi (n := (((lo + hi) / 2 : Nat) : Int)) (by omega))) trivial)) (by kernel_rfl) rfl fun _ => ?_
  obtain ⟨ab, O⟩ := Sv.view (SR.sv hl hs)
  have g8 := fI (O ((lo + hi) / 2))
  refine wr 1 [(3, .o (.int .i64 (l.getD ((lo + hi) / 2) 0)))] 17 22 [] [(22, (.bool (decide ((l.getD ((lo + hi) / 2) 0) < n))))] (vA (Sv.ix (j := (((lo + hi) / 2 : Nat) : Int)) (SR.sv hl hs) (by omega) (by omega)) (vA (ql 3 0 (vI (O ((lo + hi) / 2)) (by omega)) rfl rfl) trivial)) (by kernel_rfl) rfl fun _ => ?_
  refine wk_if 0 0 (v := (decide ((l.getD ((lo + hi) / 2) 0) < n))) rfl rfl rfl rfl (fun z => ?_) (fun z => ?_)
  ·
   have A := z
   try simp only [BS] at A
   refine wr 2 [] 23 24 [5] [(5, (.int .i64 ((((lo + hi) / 2 : Nat) : Int) + 1)))] (vA (vi (n := (((lo + hi) / 2 : Nat) : Int) + 1) (by omega)) trivial) (by kernel_rfl) rfl fun _ => ?_
   refine T _ _ _ ?_ ⟨((lo + hi) / 2) + 1, hi, rfl, (agC rfl (agC rfl (agC rfl (agC rfl (agC rfl agN))))), rfl, (by first | assumption | omega | (simp at *; omega)), (by first | assumption | exact bs_lo ha (by omega) (by assumption)), (by first | assumption | exact bs_hi ha (by assumption))⟩
   omega
  ·
   have A := z
   try simp only [BS] at A
   refine wr 2 [] 25 25 [6] [(6, (.int .i64 (((lo + hi) / 2 : Nat) : Int)))] trivial (by kernel_rfl) rfl fun _ => ?_
   refine T _ _ _ ?_ ⟨lo, (lo + hi) / 2, rfl, (agC rfl (agC rfl (agC rfl (agC rfl (agC rfl agN))))), rfl, (by first | assumption | omega | (simp at *; omega)), (by first | assumption | exact bs_lo ha (by omega) (by assumption)), (by first | assumption | exact bs_hi ha (by assumption))⟩
   omega
 ·
  have U := E
  try simp only [BS] at U
  obtain ⟨Z, I⟩ := Sv.view (SR.sv hl hs)
  have ad := fI (I lo)
  refine wr 1 [(8, .o (.int .i64 (l.getD lo 0)))] 26 37 [4] [(4, (.bool ((decide ((lo : Int) < (l.length : Int))) && ((l.getD lo 0) == n))))] (vA (fun (J : (decide ((lo : Int) < (l.length : Int))) = true) => (Sv.ix (j := (lo : Int)) (SR.sv hl hs) (by (try simp only [BS] at J); omega) (by (try simp only [BS] at J); omega))) (vA (fun (J : (decide ((lo : Int) < (l.length : Int))) = true) => (ql 3 0 (vI (I lo) (by (try simp only [BS] at J); omega)) rfl rfl)) trivial)) (by kernel_rfl) rfl fun _ => ?_
  refine wk_ret ⟨.inr rfl, _, rfl, ((decide ((lo : Int) < (l.length : Int))) && ((l.getD lo 0) == n)), rfl, rfl, (by exact con_fin ha (by assumption) V Y h3 _ (by simp <;> omega))⟩
theorem contains_c_q (ex : FuncId) {a_l : Option Addr} {k_l : Nat} (l : List Int) (n : Int) {F : Fz} {H : Heap} {R : List Fp} (hs : HS (.of H []) F H [] R) (hl : SR F (.slice a_l l.length k_l) l) (hn : in64 n) (hT : TB 37 tabC F) (ha : Asc l) (hlen : l.length ≤ 1073741824) : C Tryd.prog 1 (KT 60 ex 37 tabC) 94 [(.slice a_l l.length k_l), (.int .i64 n)] H fun v H' => v = (.bool (conV l n)) ∧ H' = H :=
 cq (contains_c ex l n hs hl hn hT ha hlen) (by rintro _ _ ⟨_, rfl, rfl, rfl⟩; exact ⟨rfl, rfl⟩)
theorem without_c (ex : FuncId) {a_l : Option Addr} {k_l : Nat} (l : List Int) (n : Int) {F : Fz} {H : Heap} {R : List Fp} (hs : HS (.of H []) F H [] R) (hl : SR F (.slice a_l l.length k_l) l) (hn : in64 n) (hT : TB 37 tabC F) (hlen : l.length ≤ 1073741824) : C Tryd.prog 1 (KT 60 ex 37 tabC) 95 [(.slice a_l l.length k_l), (.int .i64 n)] H fun v H' => ∃ (ar : Option Addr) (kr : Nat) (r : List Int) (p : Fp) (F' : Fz), Fz.le F F' ∧ HS (.of H []) F' H' [p] R ∧ v = .slice ar r.length kr ∧ OS F' (.slice ar r.length kr) r p ∧ r = minV l [n] := by
 refine c_enter Tryd.func95 rfl rfl ?_
 refine wk_foc 1 rfl ?_
 refine wr 2 [] 4 4 [] [(4, (.slice none 0 0))] trivial (by kernel_rfl) rfl fun _ => ?_
 refine wr 3 [] 1 0 [5] [(5, (.slice none 0 0))] trivial (by kernel_rfl) rfl fun _ => ?_
 refine wr 2 [] 8 10 [] [(8, (.slice a_l l.length k_l)), (9, (.int .i64 (l.length : Int))), (10, (.int .i64 0))] trivial (by kernel_rfl) rfl fun _ => ?_
 have aa := HS.snoc hs
 have aa : HS _ _ _ [[]] _ := aa
 refine wk_loop_inv (fun (mm : Nat) f H' => ∃ (o : List Int) (i : Nat) (z : Option Addr) (A : Nat) (E : Fp) (F' : Fz), Fz.le F F' ∧ HS (Base.of H []) F' H' [E] R ∧ OS F' (.slice z o.length A) o E ∧ agrees f [(1, (.int .i64 n)), (4, (.slice none 0 0)), (5, (.slice z o.length A)), (8, (.slice a_l l.length k_l)), (9, (.int .i64 (l.length : Int))), (10, (.int .i64 (i : Int)))] ∧ mm = l.length - i ∧ (i ≤ l.length) ∧ (o = minV (l.take i) [n])) _ ⟨([] : List Int), 0, none, 0, [], _, (Fz.le_refl _), aa, (OS.nil : OS F (.slice none 0 0) ([] : List Int) []), (agC rfl (agC rfl (agC rfl (agC rfl (agC rfl (agC rfl agN)))))), rfl, (by first | assumption | omega | (simp at *; omega)), (by rfl)⟩ ?_
 rintro ax f4 H4 ⟨o, i, z, A, E, F4, V, O, J, ad, rfl, h1, N⟩ ag
 refine wk_canon _ ad (fun _ => ?_)
 clear ad
 replace hl := hl.mono V
 have n4 : o.length ≤ l.length := by rw [N]; exact Nat.le_trans min_len (by simp; omega)
 refine wk_foc 1 rfl ?_
 refine wr 2 [] 11 11 [] [(11, (.bool (decide ((i : Int) < (l.length : Int)))))] trivial (by kernel_rfl) rfl fun _ => ?_
 refine wk_if 4 5 (v := (decide ((i : Int) < (l.length : Int)))) rfl rfl rfl rfl (fun Z => ?_) (fun Z => ?_)
 ·
  have c7 := Z
  try simp only [BS] at c7
  obtain ⟨av, ae⟩ := Sv.view (SR.sv hl O)
  have g9 := fI (ae i)
  refine wr 2 [(1, .o (.int .i64 (l.getD i 0)))] 12 13 [7] [(7, (.int .i64 (l.getD i 0)))] (vA (Sv.ix (j := (i : Int)) (SR.sv hl O) (by omega) (by omega)) (vA (ql 3 0 (vI (ae i) (by omega)) rfl rfl) trivial)) (by kernel_rfl) rfl fun _ => ?_
  refine wr 1 [] 14 16 [] [(16, (.bool ((l.getD i 0) != n)))] trivial (by kernel_rfl) rfl fun _ => ?_
  refine wk_if 0 2 (v := ((l.getD i 0) != n)) rfl rfl rfl rfl (fun T => ?_) (fun T => ?_)
  ·
   have Y := T
   try simp only [BS] at Y
   refine wk_region ?_
   refine wro 2 0 [] 17 18 [] [(17, (.slice z o.length A)), (18, (.int .i64 (l.getD i 0)))] trivial (by kernel_rfl) rfl fun _ => ?_
   refine wo_rs (rs_lit (α := Int) (ps := [(0, (.int .i64 (l.getD i 0)))]) (cells := [(.int .i64 (l.getD i 0))]) ([(l.getD i 0)] : List Int) O rfl rfl rfl (by kernel_rfl) ⟨[(.int .i64 (l.getD i 0))], [], rfl, ⟨rfl, by omega⟩, rfl⟩ rfl) rfl rfl ?_
   rintro _ ap an ⟨au, aw, rfl, al, I, _⟩
   have I : HS _ _ _ [E, an] _ := I
   refine wo_rs (rs_app (α := Int) (q := 0) J I rfl rfl rfl (OS.sv al I (i := 1) rfl) rfl rfl rfl rfl rfl rfl rfl (by first | omega | (simp only [List.length_append, List.length_cons, List.length_nil]; omega))) rfl rfl ?_
   rintro _ aq aj ⟨ab, ah, rfl, am, U, _⟩
   have U : HS _ _ _ [aj, _] _ := U
   refine wa (.slice ab (o ++ ([(l.getD i 0)] : List Int)).length ah) rfl rfl rfl ?_
   refine wo_end 2 rfl ?_
   refine wr 1 [] 10 10 [21] [(10, (.int .i64 ((i : Int) + 1)))] (vA (vi (n := (i : Int) + 1) (by omega)) trivial) (by kernel_rfl) rfl fun _ => ?_
   refine ag _ _ _ ?_ ⟨o ++ ([(l.getD i 0)] : List Int), i + 1, ab, ah, aj, _, (V), (HS.sub U (List.sublist_append_left _ _)), am, (agC rfl (agC rfl (agC rfl (agC rfl (agC rfl (agC rfl agN)))))), rfl, (by first | assumption | omega | (simp at *; omega)), (by first | exact (min_step (by omega) N).1 (by rw [con1]; exact decide_eq_false (by assumption)) | exact (min_step (by omega) N).2 (by rw [con1]; exact decide_eq_true (by simp_all; done)) | exact (min_step (by omega) N).2 (by rw [con1]; exact decide_eq_true (by omega)))⟩
   omega
  ·
   have Y := T
   try simp only [BS] at Y
   refine wr 1 [] 10 10 [21] [(10, (.int .i64 ((i : Int) + 1)))] (vA (vi (n := (i : Int) + 1) (by omega)) trivial) (by kernel_rfl) rfl fun _ => ?_
   refine ag _ _ _ ?_ ⟨o, i + 1, z, A, E, _, (V), O, J, (agC rfl (agC rfl (agC rfl (agC rfl (agC rfl (agC rfl agN)))))), rfl, (by first | assumption | omega | (simp at *; omega)), (by first | exact (min_step (by omega) N).1 (by rw [con1]; exact decide_eq_false (by assumption)) | exact (min_step (by omega) N).2 (by rw [con1]; exact decide_eq_true (by simp_all; done)) | exact (min_step (by omega) N).2 (by rw [con1]; exact decide_eq_true (by omega)))⟩
   omega
 ·
  have c7 := Z
  try simp only [BS] at c7
  refine wr 1 [] 4 4 [22] [(4, (.slice z o.length A))] trivial (by kernel_rfl) rfl fun _ => ?_
  refine wk_ret ⟨.inr rfl, _, rfl, z, A, o, E, _, (V), (HS.only O (i := 0) rfl), rfl, J, (by rw [N, List.take_of_length_le (by omega)])⟩
theorem insert_c (ex : FuncId) {a_l : Option Addr} {k_l : Nat} (l : List Int) (n : Int) {F : Fz} {H : Heap} {R : List Fp} (hs : HS (.of H []) F H [] R) (hl : SR F (.slice a_l l.length k_l) l) (hn : in64 n) (hT : TB 37 tabC F) (ha : Asc l) (hlen : l.length ≤ 1000000) : C Tryd.prog 1 (KT 60 ex 37 tabC) 93 [(.slice a_l l.length k_l), (.int .i64 n)] H fun v H' => ∃ (ar : Option Addr) (kr : Nat) (r : List Int) (F' : Fz), Fz.le F F' ∧ HS (.of H []) F' H' [] R ∧ v = .slice ar r.length kr ∧ SR F' (.slice ar r.length kr) r ∧ r = insV l n := by
 refine c_enter Tryd.func93 rfl rfl ?_
 refine wk_foc 1 rfl ?_
 refine wr 3 [] 4 4 [] [(4, (.slice none 0 0))] trivial (by kernel_rfl) rfl fun _ => ?_
 refine wr 1 [(2, .o (.bool (conV l n)))] 6 8 [] [(8, (.bool (conV l n)))] (vA (contains_c_q ex l n (HS.call hs) hl (by omega) hT (by omega) (by omega)) trivial) (by kernel_rfl) rfl fun _ => ?_
 refine wk_if 1 2 (v := (conV l n)) rfl rfl rfl rfl (fun ag => ?_) (fun ag => ?_)
 ·
  have c3 := ag
  try simp only [BS] at c3
  have hc := c3
  refine wr 1 [] 4 4 [9] [(4, (.slice a_l l.length k_l))] trivial (by kernel_rfl) rfl fun _ => ?_
  refine wk_ret ⟨.inr rfl, _, rfl, a_l, k_l, l, _, (Fz.le_refl _), (HS.forget hs), rfl, hl, (by first | exact (ins_in ha (by simpa using hc)).symm | exact ins_new (pre_eq h1 h2 (by omega)) (fun hh => absurd (con_at hh.1 hh.2) (by simpa using hc)))⟩
 ·
  have c3 := ag
  try simp only [BS] at c3
  have hc := c3
  refine wr 3 [] 1 0 [5] [(5, (.int .i64 0))] trivial (by kernel_rfl) rfl fun _ => ?_
  refine wk_loop_inv (fun (mm : Nat) f H' => ∃ (k : Nat), H' = H ∧ agrees f [(0, (.slice a_l l.length k_l)), (1, (.int .i64 n)), (4, (.slice none 0 0)), (5, (.int .i64 (k : Int)))] ∧ mm = l.length - k ∧ (k ≤ l.length) ∧ (∀ j, j < k → l.getD j 0 < n)) _ ⟨0, rfl, (agC rfl (agC rfl (agC rfl (agC rfl agN)))), rfl, (by first | assumption | omega | (simp at *; omega)), (by intro j hj; omega)⟩ ?_
  rintro bl f6 H ⟨k, rfl, az, rfl, h1, h2⟩ a1
  refine wk_canon _ az (fun _ => ?_)
  clear az
  refine wk_foc 2 rfl ?_
  obtain ⟨bf, aA⟩ := Sv.view (SR.sv hl hs)
  have g8 := fI (aA k)
  refine wr 1 [(8, .o (.int .i64 (l.getD k 0)))] 10 21 [] [(21, (.bool ((decide ((k : Int) < (l.length : Int))) && (decide ((l.getD k 0) < n)))))] (vA (fun (g1 : (decide ((k : Int) < (l.length : Int))) = true) => (Sv.ix (j := (k : Int)) (SR.sv hl hs) (by (try simp only [BS] at g1); omega) (by (try simp only [BS] at g1); omega))) (vA (fun (g1 : (decide ((k : Int) < (l.length : Int))) = true) => (ql 3 0 (vI (aA k) (by (try simp only [BS] at g1); omega)) rfl rfl)) trivial)) (by kernel_rfl) rfl fun _ => ?_
  refine wk_if 2 5 (v := ((decide ((k : Int) < (l.length : Int))) && (decide ((l.getD k 0) < n)))) rfl rfl rfl rfl (fun Y => ?_) (fun Y => ?_)
  ·
   have ad := Y
   try simp only [BS] at ad
   refine wr 2 [] 22 23 [5] [(5, (.int .i64 ((k : Int) + 1)))] (vA (vi (n := (k : Int) + 1) (by omega)) trivial) (by kernel_rfl) rfl fun _ => ?_
   refine a1 _ _ _ ?_ ⟨k + 1, rfl, (agC rfl (agC rfl (agC rfl (agC rfl agN)))), rfl, (by first | assumption | omega | (simp at *; omega)), (by exact lt_succ h2 (by omega))⟩
   omega
  ·
   have ad := Y
   try simp only [BS] at ad
   refine wf_region rfl ?_
   refine wf_rs (id := .a) (rs_lit (α := Int) (ps := []) (cells := []) ([] : List Int) hs.log0 rfl rfl rfl (by kernel_rfl) rfl rfl) rfl rfl (fun _ _ _ _ => did_a rfl rfl rfl) trivial ?_
   rintro _ aU aC ⟨bb, bg, rfl, aI, A, _⟩ aN an
   replace A := HS.lg A hs an
   generalize ({ aU with log := aN } : Heap) = aE at A ⊢
   have A : HS _ _ _ [aC] _ := A
   refine fm (.slice a_l l.length k_l) rfl rfl rfl ?_
   refine fm (.int .i64 (k : Int)) rfl rfl rfl ?_
   refine wf_rs (id := .q fun b => F b ≠ none) (rs_cutt (α := Int) (j := k) hl A.log0 rfl rfl rfl (optN (by omega)) (by omega)) rfl rfl (by rintro _ _ _ ⟨_, _, _, hH, _⟩; exact did_q rfl (SR.q hl)) (⟨.inl rfl, ⟨.inl rfl, ⟨.inr trivial, trivial⟩⟩⟩) ?_
   rintro _ _ _ ⟨bc, bh, rfl, O, aK⟩ aO ap
   simp only at O; replace O := O.symm; subst O
   have N := HS.lg A.log0 A ap
   generalize ({ { aE with log := [] } with log := aO } : Heap) = a4 at N ⊢
   refine wf_rs (id := .x (aC.map Prod.fst)) (rs_app (α := Int) (q := 0) aI N.log0 rfl rfl rfl (SR.sv aK N.log0) rfl rfl rfl rfl rfl rfl rfl (by first | omega | (simp only [List.length_append, List.length_cons, List.length_nil, List.length_take, List.length_drop]; omega))) rfl rfl (by rintro _ _ aa ⟨ay, aB, rfl, U, _, hwr⟩; exact did_x rfl rfl (Wr.did hwr)) (⟨.inl rfl, ⟨.inl rfl, ⟨.inl rfl, ⟨.inl rfl, trivial⟩⟩⟩⟩) ?_
   rintro _ aV aa ⟨ay, aB, rfl, U, I, _⟩ aP aq
   replace I := HS.lg I N aq
   generalize ({ aV with log := aP } : Heap) = a5 at I ⊢
   have I : HS _ _ _ [aa] _ := I
   have U : OS F (.slice ay (l.take k).length aB) (l.take k) aa := U
   refine fm (.int .i64 n) rfl rfl rfl ?_
   refine wf_rs (id := .a) (rs_lit (α := Int) (ps := [(0, (.int .i64 n))]) (cells := [(.int .i64 n)]) ([n] : List Int) I.log0 rfl rfl rfl (by kernel_rfl) ⟨[(.int .i64 n)], [], rfl, ⟨rfl, by omega⟩, rfl⟩ rfl) rfl rfl (fun _ _ _ _ => did_a rfl rfl rfl) (⟨.inl rfl, ⟨.inr trivial, ⟨.inr trivial, ⟨.inr trivial, ⟨.inr trivial, ⟨.inr trivial, trivial⟩⟩⟩⟩⟩⟩) ?_
   rintro _ aW a3 ⟨bd, bj, rfl, aJ, z, _⟩ aQ au
   replace z := HS.lg z I au
   generalize ({ aW with log := aQ } : Heap) = a6 at z ⊢
   have z : HS _ _ _ [_, a3] _ := z
   refine wf_rs (id := .x (aa.map Prod.fst)) (rs_app (α := Int) (q := 0) U z.log0 rfl rfl rfl (OS.sv aJ z.log0 (i := 1) rfl) rfl rfl rfl rfl rfl rfl rfl (by first | omega | (simp only [List.length_append, List.length_cons, List.length_nil, List.length_take, List.length_drop]; omega))) rfl rfl (by rintro _ _ al ⟨aZ, a2, rfl, ah, _, hwr⟩; exact did_x rfl rfl (Wr.did hwr)) (⟨.inl rfl, ⟨.inl rfl, ⟨.inl rfl, ⟨.inl rfl, ⟨.inl rfl, ⟨.inl rfl, ⟨.inl rfl, trivial⟩⟩⟩⟩⟩⟩⟩) ?_
   rintro _ aX al ⟨aZ, a2, rfl, ah, E, _⟩ aR av
   replace E := HS.lg E z av
   generalize ({ aX with log := aR } : Heap) = aF at E ⊢
   have E : HS _ _ _ [al, _] _ := E
   refine fm (.slice a_l l.length k_l) rfl rfl rfl ?_
   refine fm (.int .i64 (k : Int)) rfl rfl rfl ?_
   refine wf_rs (id := .q fun b => F b ≠ none) (rs_cutd (α := Int) (i := k) hl E.log0 rfl rfl rfl (optN (by omega)) (by omega)) rfl rfl (by rintro _ _ _ ⟨_, _, _, hH, _⟩; exact did_q rfl (SR.q hl)) (⟨.inl rfl, ⟨.inl rfl, ⟨.inr (HS.apq z (i := 0) rfl), ⟨.inr trivial, ⟨.inr trivial, ⟨.inr (HS.apq N (i := 0) rfl), ⟨.inr trivial, ⟨.inr trivial, ⟨.inr trivial, ⟨.inr trivial, trivial⟩⟩⟩⟩⟩⟩⟩⟩⟩⟩) ?_
   rintro _ _ _ ⟨be, bk, rfl, T, aL⟩ aS aw
   simp only at T; replace T := T.symm; subst T
   have V := HS.lg E.log0 E aw
   generalize ({ { aF with log := [] } with log := aS } : Heap) = a7 at V ⊢
   refine wf_rs (id := .x (al.map Prod.fst)) (rs_app (α := Int) (q := 0) ah V.log0 rfl rfl rfl (SR.sv aL V.log0) rfl rfl rfl rfl rfl rfl rfl (by first | omega | (simp only [List.length_append, List.length_cons, List.length_nil, List.length_take, List.length_drop]; omega))) rfl rfl (by rintro _ _ aD ⟨ab, ak, rfl, aj, _, hwr⟩; exact did_x rfl rfl (Wr.did hwr)) (⟨.inl rfl, ⟨.inl rfl, ⟨.inl rfl, ⟨.inl rfl, ⟨.inl rfl, ⟨.inl rfl, ⟨.inl rfl, ⟨.inl rfl, ⟨.inl rfl, ⟨.inl rfl, ⟨.inl rfl, trivial⟩⟩⟩⟩⟩⟩⟩⟩⟩⟩⟩) ?_
   rintro _ aY aD ⟨ab, ak, rfl, aj, J, _⟩ aT ax
   replace J := HS.lg J V ax
   generalize ({ aY with log := aT } : Heap) = a8 at J ⊢
   have J : HS _ _ _ [aD, _] _ := J
   refine fa (.slice ab (((l.take k) ++ ([n] : List Int)) ++ (l.drop k)).length ak) rfl rfl rfl ?_
   refine wf_nil ?_
   refine wk_foc 1 rfl ?_
   obtain ⟨ba, aH, Z, aM, a9⟩ := OS.frz aj J (i := 0) rfl
   have Z : HS _ _ _ [[], _] _ := Z
   refine wk_ret ⟨.inr rfl, _, rfl, ab, ak, ((l.take k) ++ ([n] : List Int)) ++ (l.drop k), _, (aH), (HS.forget Z), rfl, aM, (by first | exact (ins_in ha (by simpa using hc)).symm | exact ins_new (pre_eq h1 h2 (by omega)) (fun hh => absurd (con_at hh.1 hh.2) (by simpa using hc)))⟩
set_option maxHeartbeats 2000000 in
theorem points_c (ex : FuncId) {O : Option Addr} {T : Nat} (c : VFnT) {F : Fz} {H : Heap} {R : List Fp} (hs : HS (.of H []) F H [] R) (db : in64 c.params) (dd : in64 c.regs) (aM : SR F (.slice O c.blocks.length T) c.blocks) (hT : TB 37 tabC F) (hval : valV c = true) (hins : ∀ j, (c.blocks.getD j default).ins.length ≤ 1073741822) : C Tryd.prog 1 (KT 60 ex 37 tabC) 51 [(.agg ⟨[(.int .i64 c.params), (.int .i64 c.regs), (.slice O c.blocks.length T)]⟩)] H fun v H' => ∃ (aps : Option Addr) (kps : Nat) (ps : List (List (List Int))) (p : Fp) (F' : Fz), Fz.le F F' ∧ HS (.of H []) F' H' [p] R ∧ v = .slice aps ps.length kps ∧ OS F' (.slice aps ps.length kps) ps p ∧ (PsF c ps) := by
 have vF := vF_of hval
 have hnb := vF.nb
 have hrg := vF.regs
 refine c_enter Tryd.func51 rfl rfl ?_
 refine wk_foc 1 rfl ?_
 refine wk_region ?_
 refine wo_rs (rs_box hs rfl rfl) rfl rfl ?_
 rintro _ H2 _ ⟨b1, rfl, a7, _⟩
 have a7 : HS _ _ _ [[(b1, .cells [(.int .i64 c.params), (.int .i64 c.regs), (.slice O c.blocks.length T)] none false)]] _ := a7
 refine wa (.slice none 0 0) rfl rfl rfl ?_
 refine wo_end 2 rfl ?_
 refine wk_region ?_
 refine wro 1 0 [(0, .o (.agg ⟨[(.int .i64 c.params), (.int .i64 c.regs), (.slice O c.blocks.length T)]⟩))] 16 16 [] [(16, (.agg ⟨[(.int .i64 c.params), (.int .i64 c.regs), (.slice O c.blocks.length T)]⟩))] (vA (qn 24 0 3 (HS.hc a7 (i := 0) rfl) rfl rfl rfl rfl) trivial) (by kernel_rfl) rfl fun _ => ?_
 refine wo_call (ap_call rfl rfl rfl) rfl rfl (md.blocks_c ex c (HS.call a7) (by first | (dsimp only; omega) | omega) (by first | (dsimp only; omega) | omega) aM hT (by exact fun j => Nat.le_trans (hins j) (by omega))) ?_
 rintro _ H4 ⟨dN, d2, x4, aV, aX, y4, F4, bE, aW, rfl, dh, a0, dZ, dY⟩
 replace aW := HS.back a7 rfl aW
 have aW : HS _ _ _ [_] _ := aW
 refine wro 5 2 [] 18 19 [3, 4, 15] [(4, (.slice aV y4.length aX))] trivial (by kernel_rfl) rfl fun _ => ?_
 refine wo_end 2 rfl ?_
 have bk : BkF c _ y4 := (by assumption : valV c = true → _) hval
 have hly := bk.ly
 refine wr 3 [] 1 0 [5] [(5, (.slice none 0 0))] trivial (by kernel_rfl) rfl fun _ => ?_
 refine wr 2 [(1, .o (.slice O c.blocks.length T))] 20 23 [] [(21, (.slice O c.blocks.length T)), (22, (.int .i64 (c.blocks.length : Int))), (23, (.int .i64 0))] (vA (ql 22 2 (HS.hc aW (i := 0) rfl) rfl rfl) trivial) (by kernel_rfl) rfl fun _ => ?_
 have bL := HS.snoc aW
 have bL : HS _ _ _ [_, []] _ := bL
 refine wk_loop_inv (fun (mm : Nat) f H' => ∃ (al : List (List (List Int))) (k : Nat) (Y : Option Addr) (Z : Nat) (aa : Fp) (F' : Fz), Fz.le F4 F' ∧ HS (Base.of H []) F' H' [[(b1, .cells [(.int .i64 c.params), (.int .i64 c.regs), (.slice O c.blocks.length T)] none false)], aa] R ∧ OS F' (.slice Y al.length Z) al aa ∧ agrees f [(2, (.slice none 0 0)), (4, (.slice aV y4.length aX)), (5, (.slice Y al.length Z)), (21, (.slice O c.blocks.length T)), (22, (.int .i64 (c.blocks.length : Int))), (23, (.int .i64 (k : Int)))] ∧ mm = c.blocks.length - k ∧ (al.length = k) ∧ (k ≤ c.blocks.length) ∧ (∀ b, b < k → PtX c b (al.getD b default))) _ ⟨([] : List (List (List Int))), 0, none, 0, [], _, (Fz.le_refl _), bL, (OS.nil : OS F4 (.slice none 0 0) ([] : List (List (List Int))) []), (agC rfl (agC rfl (agC rfl (agC rfl (agC rfl (agC rfl agN)))))), rfl, (by rfl), (by first | assumption | omega | (simp at *; omega)), (by intro b hb; omega)⟩ ?_
 rintro d3 f8 H8 ⟨al, k, Y, Z, aa, F8, a6, bp, au, b9, rfl, e1, hk, e2⟩ cJ
 refine wk_canon _ b9 (fun _ => ?_)
 clear b9
 replace hT := (hT.mono bE).mono a6
 replace aM := (aM.mono bE).mono a6
 replace a0 := a0.mono a6
 refine wk_foc 1 rfl ?_
 refine wr 2 [] 24 24 [] [(24, (.bool (decide ((k : Int) < (c.blocks.length : Int)))))] trivial (by kernel_rfl) rfl fun _ => ?_
 refine wk_if 4 5 (v := (decide ((k : Int) < (c.blocks.length : Int)))) rfl rfl rfl rfl (fun a9 => ?_) (fun a9 => ?_)
 ·
  have bz := a9
  try simp only [BS] at bz
  refine wk_region ?_
  obtain ⟨z, bM⟩ := Sv.view (SR.sv aM bp)
  obtain ⟨cN, cO, cP, cQ, aj⟩ := BlkT.fx (bM k)
  refine wro 3 0 [(2, .o (.agg ⟨[(.slice (cA (z k) 0) (c.blocks.getD k default).ins.length (cK (z k) 0)), (.int .i64 (c.blocks.getD k default).fin), (.int .i64 (c.blocks.getD k default).reg), (.int .i64 (c.blocks.getD k default).tgt), (.int .i64 (c.blocks.getD k default).els)]⟩))] 25 27 [] [(25, (.int .i64 (k : Int))), (27, (.agg ⟨[(.slice (cA (z k) 0) (c.blocks.getD k default).ins.length (cK (z k) 0)), (.int .i64 (c.blocks.getD k default).fin), (.int .i64 (c.blocks.getD k default).reg), (.int .i64 (c.blocks.getD k default).tgt), (.int .i64 (c.blocks.getD k default).els)]⟩))] (vA (Sv.ix (j := (k : Int)) (SR.sv aM bp) (by first | (dsimp only; omega) | omega) (by first | (dsimp only; omega) | omega)) (vA (qn 48 0 5 (BlkT.vw (bM k) (by first | (dsimp only; omega) | omega)) rfl rfl rfl rfl) trivial)) (by kernel_rfl) rfl fun _ => ?_
  refine wo_rs (rs_new bp rfl) rfl rfl ?_
  rintro _ dv _ ⟨av, rfl, bh, _⟩
  have bh : HS _ _ _ [_, aa, [(av, .cells [(.slice none 0 0), (.int .i64 0), (.int .i64 0), (.int .i64 0), (.int .i64 0)] none false)]] _ := bh
  refine wa (.int .i64 (k : Int)) rfl rfl rfl ?_
  refine wo_rk (rs_rec (q := 2) bh rfl rfl rfl rfl rfl rfl rfl rfl rfl) rfl ?_
  rintro _ dw _ ⟨a1, _⟩
  have a1 : HS _ _ _ [_, _, [(av, .cells [(.slice (cA (z k) 0) (c.blocks.getD k default).ins.length (cK (z k) 0)), (.int .i64 (c.blocks.getD k default).fin), (.int .i64 (c.blocks.getD k default).reg), (.int .i64 (c.blocks.getD k default).tgt), (.int .i64 (c.blocks.getD k default).els)] none false)]] _ := a1
  refine wo_end 2 rfl ?_
  have hbn : k < c.blocks.length := by omega
  have hbl := hins k
  have hrl : (List.replicate ((c.blocks.getD k default).ins.length + 2) ([] : List Int)).length = (c.blocks.getD k default).ins.length + 2 := List.length_replicate
  have hfn : ((c.blocks.getD k default).fin = 2 ∨ (c.blocks.getD k default).fin = 3) → 0 ≤ (c.blocks.getD k default).reg ∧ (c.blocks.getD k default).reg < c.regs := vF.fin k hbn
  have hyl := Lst.len (bk.hy k hbn) hrg.1 (fun r h => lout_lt vF h)
  have hya := (bk.hy k hbn).asc
  refine wk_region ?_
  refine wro 4 0 [(1, .o (.slice (cA (z k) 0) (c.blocks.getD k default).ins.length (cK (z k) 0)))] 28 31 [] [(31, (.int .i64 (((c.blocks.getD k default).ins.length : Int) + 2)))] (vA (ql 46 0 (HS.hc a1 (i := 2) rfl) rfl rfl) (vA (vi (n := ((c.blocks.getD k default).ins.length : Int) + 2) (by first | (dsimp only; omega) | omega)) trivial)) (by kernel_rfl) rfl fun _ => ?_
  refine wo_rs (rs_make ([] : (List Int)) a1 rfl rfl rfl rfl rfl rfl rfl rfl rfl ⟨none, 0, rfl, SR.nil⟩ (by first | (dsimp only; omega) | omega) (by first | (dsimp only; omega) | omega)) rfl rfl ?_
  rintro _ dx cc ⟨J, N, rfl, aZ, ax, _⟩
  have ax : HS _ _ _ [_, _, _, cc] _ := ax
  have aZ : OS F8 (.slice J (List.replicate ((c.blocks.getD k default).ins.length + 2) ([] : (List Int))).length N) (List.replicate ((c.blocks.getD k default).ins.length + 2) ([] : (List Int))) cc := aZ
  refine wa (.slice J (List.replicate ((c.blocks.getD k default).ins.length + 2) ([] : (List Int))).length N) rfl rfl rfl ?_
  refine wo_end 2 rfl ?_
  obtain ⟨I, bN⟩ := Sv.view (SR.sv a0 ax)
  have bZ := fL (bN k)
  refine wr 2 [(3, .o (.slice (cA (I k) 0) (y4.getD k default).length (cK (I k) 0)))] 33 36 [9] [(9, (.slice (cA (I k) 0) (y4.getD k default).length (cK (I k) 0)))] (vA (Sv.ix (j := (k : Int)) (SR.sv a0 ax) (by first | (dsimp only; omega) | omega) (by first | (dsimp only; omega) | omega)) (vA (ql 25 0 (vL (bN k) (by first | (dsimp only; omega) | omega)) rfl rfl) trivial)) (by kernel_rfl) rfl fun _ => ?_
  refine wk_region ?_
  refine wro 7 0 [(2, .o (.slice (cA (z k) 0) (c.blocks.getD k default).ins.length (cK (z k) 0)))] 37 43 [] [(42, (.slice (cA (I k) 0) (y4.getD k default).length (cK (I k) 0))), (43, (.pointer (some ⟨sB (.slice J (List.replicate ((c.blocks.getD k default).ins.length + 2) ([] : (List Int))).length N), sO (.slice J (List.replicate ((c.blocks.getD k default).ins.length + 2) ([] : (List Int))).length N) + ((c.blocks.getD k default).ins.length + 1) * Rp.sz (List Int), none⟩)))] (vA (ql 46 0 (HS.hc ax (i := 2) rfl) rfl rfl) (vA (vi (n := ((c.blocks.getD k default).ins.length : Int) + 1) (by first | (dsimp only; omega) | omega)) (vA (Sv.ix (j := ((c.blocks.getD k default).ins.length : Int) + 1) (OS.sv aZ ax (i := 3) rfl) (by first | (dsimp only; omega) | omega) (by first | (dsimp only; omega) | omega)) trivial))) (by kernel_rfl) rfl fun _ => ?_
  refine wo_rk (rs_st (α := (List Int)) (j := (c.blocks.getD k default).ins.length + 1) (off := 0) (q := 3) (y4.getD k default) aZ ax rfl rfl rfl rfl rfl rfl rfl rfl (getD_at (x := default) (by first | (dsimp only; omega) | omega)) rfl (by rintro cs ⟨_, _, rfl, _⟩; exact ⟨Nat.le_of_ble_eq_true rfl, ⟨(cA (I k) 0), (cK (I k) 0), rfl, bZ⟩⟩)) rfl ?_
  rintro _ dy cd ⟨aN, ar, _⟩
  have ar : HS _ _ _ [_, _, _, cd] _ := ar
  have c3 := OS.len' aN
  refine wo_end 3 rfl ?_
  refine wr 1 [(1, .o (.int .i64 (c.blocks.getD k default).fin)), (5, .o (.int .i64 (c.blocks.getD k default).fin))] 44 51 [] [(51, (.bool (((c.blocks.getD k default).fin == 2) || ((c.blocks.getD k default).fin == 3))))] (vA (ql 3 1 (HS.hc ar (i := 2) rfl) rfl rfl) (vA (fun (g1 : ((c.blocks.getD k default).fin == 2) = false) => (ql 3 1 (HS.hc ar (i := 2) rfl) rfl rfl)) trivial)) (by kernel_rfl) rfl fun _ => ?_
  refine wk_join (fun f H' => ∃ (s1 : List Int) (U : Option Addr) (V : Nat) (F' : Fz), Fz.le F8 F' ∧ HS (Base.of H []) F' H' [[(b1, .cells [(.int .i64 c.params), (.int .i64 c.regs), (.slice O c.blocks.length T)] none false)], aa, [(av, .cells [(.slice (cA (z k) 0) (c.blocks.getD k default).ins.length (cK (z k) 0)), (.int .i64 (c.blocks.getD k default).fin), (.int .i64 (c.blocks.getD k default).reg), (.int .i64 (c.blocks.getD k default).tgt), (.int .i64 (c.blocks.getD k default).els)] none false)], cd] R ∧ SR F' (.slice U s1.length V) s1 ∧ agrees f [(2, (.slice none 0 0)), (4, (.slice aV y4.length aX)), (5, (.slice Y al.length Z)), (6, (.int .i64 (k : Int))), (7, (.pointer (some ⟨av, 0, none⟩))), (8, (.slice J (List.replicate ((c.blocks.getD k default).ins.length + 2) ([] : (List Int))).length N)), (9, (.slice U s1.length V)), (21, (.slice O c.blocks.length T)), (22, (.int .i64 (c.blocks.length : Int))), (23, (.int .i64 (k : Int))), (24, (.bool (decide ((k : Int) < (c.blocks.length : Int))))), (25, (.int .i64 (k : Int))), (27, (.agg ⟨[(.slice (cA (z k) 0) (c.blocks.getD k default).ins.length (cK (z k) 0)), (.int .i64 (c.blocks.getD k default).fin), (.int .i64 (c.blocks.getD k default).reg), (.int .i64 (c.blocks.getD k default).tgt), (.int .i64 (c.blocks.getD k default).els)]⟩)), (31, (.int .i64 (((c.blocks.getD k default).ins.length : Int) + 2))), (32, (.slice J (List.replicate ((c.blocks.getD k default).ins.length + 2) ([] : (List Int))).length N)), (42, (.slice (cA (I k) 0) (y4.getD k default).length (cK (I k) 0))), (43, (.pointer (some ⟨sB (.slice J (List.replicate ((c.blocks.getD k default).ins.length + 2) ([] : (List Int))).length N), sO (.slice J (List.replicate ((c.blocks.getD k default).ins.length + 2) ([] : (List Int))).length N) + ((c.blocks.getD k default).ins.length + 1) * Rp.sz (List Int), none⟩))), (51, (.bool (((c.blocks.getD k default).fin == 2) || ((c.blocks.getD k default).fin == 3))))] ∧ (Lst s1 (ptS c k (c.blocks.getD k default).ins.length))) (fun bT => ?_) ?_
  ·
   refine wk_if 0 0 (v := (((c.blocks.getD k default).fin == 2) || ((c.blocks.getD k default).fin == 3))) rfl rfl rfl rfl (fun ba => ?_) (fun ba => ?_)
   ·
    have a4 := ba
    try simp only [BS] at a4
    have hfe := a4
    have hfr := hfn hfe
    refine wk_region ?_
    refine wro 3 0 [(2, .o (.int .i64 (c.blocks.getD k default).reg))] 52 54 [] [(52, (.slice (cA (I k) 0) (y4.getD k default).length (cK (I k) 0))), (54, (.int .i64 (c.blocks.getD k default).reg))] (vA (ql 3 2 (HS.hc ar (i := 2) rfl) rfl rfl) trivial) (by kernel_rfl) rfl fun _ => ?_
    refine wo_call (ap_call rfl rfl rfl) rfl rfl (insert_c ex (y4.getD k default) (c.blocks.getD k default).reg (HS.call ar) bZ (by first | (dsimp only; omega) | omega) hT (by first | assumption | omega) (by first | assumption | omega)) ?_
    rintro _ dA ⟨bt, bU, d4, dm, cl, aO, rfl, b3, rfl⟩
    replace aO := HS.back ar rfl aO
    have aO : HS _ _ _ [_, _, _, _] _ := aO
    refine wa (.slice bt (insV (y4.getD k default) (c.blocks.getD k default).reg).length bU) rfl rfl rfl ?_
    refine wo_end 0 rfl ?_
    exact bT _ _ ⟨insV (y4.getD k default) (c.blocks.getD k default).reg, bt, bU, _, (cl), aO, b3, (agC rfl (agC rfl (agC rfl (agC rfl (agC rfl (agC rfl (agC rfl (agC rfl (agC rfl (agC rfl (agC rfl (agC rfl (agC rfl (agC rfl (agC rfl (agC rfl (agC rfl (agC rfl agN)))))))))))))))))), (by first | exact end_yes2 (bk.hy k hbn) hfe (hfn hfe).1 | exact end_no2 (bk.hy k hbn) (show ¬ ((c.blocks.getD k default).fin = 2 ∨ (c.blocks.getD k default).fin = 3) by omega))⟩
   ·
    have a4 := ba
    try simp only [BS] at a4
    have hfe := a4
    exact bT _ _ ⟨(y4.getD k default), (cA (I k) 0), (cK (I k) 0), _, (Fz.le_refl _), ar, bZ, (agC rfl (agC rfl (agC rfl (agC rfl (agC rfl (agC rfl (agC rfl (agC rfl (agC rfl (agC rfl (agC rfl (agC rfl (agC rfl (agC rfl (agC rfl (agC rfl (agC rfl (agC rfl agN)))))))))))))))))), (by first | exact end_yes2 (bk.hy k hbn) hfe (hfn hfe).1 | exact end_no2 (bk.hy k hbn) (show ¬ ((c.blocks.getD k default).fin = 2 ∨ (c.blocks.getD k default).fin = 3) by omega))⟩
  ·
   rintro dO dz ⟨s1, U, V, cy, aI, bj, a8, bG, ca⟩
   refine wk_canon _ bG (fun _ => ?_)
   clear bG
   replace aN := aN.mono aI
   refine wk_foc 2 rfl ?_
   refine wk_region ?_
   refine wro 6 0 [(2, .o (.slice (cA (z k) 0) (c.blocks.getD k default).ins.length (cK (z k) 0)))] 56 61 [] [(60, (.slice U s1.length V)), (61, (.pointer (some ⟨sB (.slice J (List.replicate ((c.blocks.getD k default).ins.length + 2) ([] : (List Int))).length N), sO (.slice J (List.replicate ((c.blocks.getD k default).ins.length + 2) ([] : (List Int))).length N) + (c.blocks.getD k default).ins.length * Rp.sz (List Int), none⟩)))] (vA (ql 46 0 (HS.hc bj (i := 2) rfl) rfl rfl) (vA (Sv.ix (j := ((c.blocks.getD k default).ins.length : Int)) (OS.sv aN bj (i := 3) rfl) (by first | (dsimp only; omega) | omega) (by first | (dsimp only; omega) | omega)) trivial)) (by kernel_rfl) rfl fun _ => ?_
   refine wo_rk (rs_st (α := (List Int)) (j := (c.blocks.getD k default).ins.length) (off := 0) (q := 3) s1 aN bj rfl rfl rfl rfl rfl rfl rfl rfl (getD_at (x := default) (by first | (dsimp only; omega) | omega)) rfl (by rintro cs ⟨_, _, rfl, _⟩; exact ⟨Nat.le_of_ble_eq_true rfl, ⟨U, V, rfl, a8⟩⟩)) rfl ?_
   rintro _ dB ce ⟨bf, a2, _⟩
   have a2 : HS _ _ _ [_, _, _, ce] _ := a2
   have c4 := OS.len' bf
   refine wo_end 3 rfl ?_
   refine wr 2 [(1, .o (.slice (cA (z k) 0) (c.blocks.getD k default).ins.length (cK (z k) 0)))] 62 65 [10] [(10, (.int .i64 (((c.blocks.getD k default).ins.length : Int) - 1)))] (vA (ql 46 0 (HS.hc a2 (i := 2) rfl) rfl rfl) (vA (vi (n := ((c.blocks.getD k default).ins.length : Int) - 1) (by first | (dsimp only; omega) | omega)) trivial)) (by kernel_rfl) rfl fun _ => ?_
   refine wk_loop_inv (fun (mm : Nat) f H' => ∃ (sw : List Int) (pl : List (List Int)) (iz : Int) (aA : Option Addr) (aB : Nat) (A : Option Addr) (E : Nat) (ap : Fp) (F' : Fz), Fz.le cy F' ∧ HS (Base.of H []) F' H' [[(b1, .cells [(.int .i64 c.params), (.int .i64 c.regs), (.slice O c.blocks.length T)] none false)], aa, [(av, .cells [(.slice (cA (z k) 0) (c.blocks.getD k default).ins.length (cK (z k) 0)), (.int .i64 (c.blocks.getD k default).fin), (.int .i64 (c.blocks.getD k default).reg), (.int .i64 (c.blocks.getD k default).tgt), (.int .i64 (c.blocks.getD k default).els)] none false)], ap] R ∧ SR F' (.slice aA sw.length aB) sw ∧ OS F' (.slice A pl.length E) pl ap ∧ agrees f [(2, (.slice none 0 0)), (4, (.slice aV y4.length aX)), (5, (.slice Y al.length Z)), (6, (.int .i64 (k : Int))), (7, (.pointer (some ⟨av, 0, none⟩))), (8, (.slice A pl.length E)), (9, (.slice aA sw.length aB)), (10, (.int .i64 iz)), (21, (.slice O c.blocks.length T)), (22, (.int .i64 (c.blocks.length : Int))), (23, (.int .i64 (k : Int))), (24, (.bool (decide ((k : Int) < (c.blocks.length : Int))))), (25, (.int .i64 (k : Int))), (27, (.agg ⟨[(.slice (cA (z k) 0) (c.blocks.getD k default).ins.length (cK (z k) 0)), (.int .i64 (c.blocks.getD k default).fin), (.int .i64 (c.blocks.getD k default).reg), (.int .i64 (c.blocks.getD k default).tgt), (.int .i64 (c.blocks.getD k default).els)]⟩)), (31, (.int .i64 (((c.blocks.getD k default).ins.length : Int) + 2))), (42, (.slice (cA (I k) 0) (y4.getD k default).length (cK (I k) 0))), (43, (.pointer (some ⟨sB (.slice J (List.replicate ((c.blocks.getD k default).ins.length + 2) ([] : (List Int))).length N), sO (.slice J (List.replicate ((c.blocks.getD k default).ins.length + 2) ([] : (List Int))).length N) + ((c.blocks.getD k default).ins.length + 1) * Rp.sz (List Int), none⟩))), (51, (.bool (((c.blocks.getD k default).fin == 2) || ((c.blocks.getD k default).fin == 3)))), (60, (.slice U s1.length V)), (61, (.pointer (some ⟨sB (.slice J (List.replicate ((c.blocks.getD k default).ins.length + 2) ([] : (List Int))).length N), sO (.slice J (List.replicate ((c.blocks.getD k default).ins.length + 2) ([] : (List Int))).length N) + (c.blocks.getD k default).ins.length * Rp.sz (List Int), none⟩)))] ∧ mm = (iz + 1).toNat ∧ (pl.length = (c.blocks.getD k default).ins.length + 2) ∧ (-1 ≤ iz ∧ iz < ((c.blocks.getD k default).ins.length : Int)) ∧ (∀ j, (iz + 1).toNat ≤ j → j ≤ (c.blocks.getD k default).ins.length → Lst (rowN pl j) (ptS c k j)) ∧ (Lst (rowN pl ((c.blocks.getD k default).ins.length + 1)) (LOut c k)) ∧ (Lst sw (ptS c k (iz + 1).toNat))) _ ⟨s1, ((List.replicate ((c.blocks.getD k default).ins.length + 2) ([] : (List Int))).set ((c.blocks.getD k default).ins.length + 1) (y4.getD k default)).set (c.blocks.getD k default).ins.length s1, ((c.blocks.getD k default).ins.length : Int) - 1, U, V, J, N, ce, _, (Fz.le_refl _), a2, a8, (OS.norm bf), (agC rfl (agC rfl (agC rfl (agC rfl (agC rfl (agC (show Value.slice J (List.replicate ((c.blocks.getD k default).ins.length + 2) ([] : (List Int))).length N = Value.slice J (((List.replicate ((c.blocks.getD k default).ins.length + 2) ([] : (List Int))).set ((c.blocks.getD k default).ins.length + 1) (y4.getD k default)).set (c.blocks.getD k default).ins.length s1).length N by rw [OS.len' bf]) (agC rfl (agC rfl (agC rfl (agC rfl (agC rfl (agC rfl (agC rfl (agC rfl (agC rfl (agC rfl (agC rfl (agC rfl (agC rfl (agC rfl agN)))))))))))))))))))), rfl, (by simp), (by first | assumption | omega | (simp at *; omega)), (by exact fun j h1 h2 => by (rw [show j = (c.blocks.getD k default).ins.length by omega, row_set (by simp), if_pos rfl]; exact ca)), (by rw [row_set (by simp), if_neg (by omega), row_set (by simp), if_pos rfl]; exact bk.hy k hbn), (by rw [show ((((c.blocks.getD k default).ins.length : Nat) : Int) - 1 + 1).toNat = (c.blocks.getD k default).ins.length by omega]; exact ca)⟩ ?_
   rintro dj dP dC ⟨sw, pl, iz, aA, aB, A, E, ap, dn, aJ, aD, aT, ae, bH, rfl, f1, f2, f3, f4, f5⟩ cv
   refine wk_canon _ bH (fun _ => ?_)
   clear bH
   replace hT := (hT.mono aI).mono aJ
   replace au := (au.mono aI).mono aJ
   replace aj := (aj.mono aI).mono aJ
   refine wk_foc 2 rfl ?_
   refine wr 1 [] 66 67 [] [(67, (.bool (decide ((0 : Int) ≤ iz))))] trivial (by kernel_rfl) rfl fun _ => ?_
   refine wk_if 5 4 (v := (decide ((0 : Int) ≤ iz))) rfl rfl rfl rfl (fun bb => ?_) (fun bb => ?_)
   ·
    have bA := bb
    try simp only [BS] at bA
    have hin : iz.toNat < (c.blocks.getD k default).ins.length := by omega
    have hvl : (∀ x ∈ readsV ((c.blocks.getD k default).ins.getD iz.toNat default), 0 ≤ x ∧ x < c.regs) ∧ (∀ x ∈ writesV ((c.blocks.getD k default).ins.getD iz.toNat default), 0 ≤ x ∧ x < c.regs) ∧ ((c.blocks.getD k default).ins.getD iz.toNat default).args.length ≤ 6 := reads_lim (vF.ins k hbn iz.toNat hin)
    have di := hvl.2.2
    have hwl := writes_len (v := ((c.blocks.getD k default).ins.getD iz.toNat default))
    have dg := reads_len (v := ((c.blocks.getD k default).ins.getD iz.toNat default))
    refine wk_region ?_
    obtain ⟨aq, bO⟩ := Sv.view (SR.sv aj aD)
    obtain ⟨cR, cS, cT, cU, cV, b6⟩ := VInT.fx (bO iz.toNat)
    refine wro 5 0 [(1, .o (.slice (cA (z k) 0) (c.blocks.getD k default).ins.length (cK (z k) 0))), (4, .o (.agg ⟨[(.int .i64 ((c.blocks.getD k default).ins.getD iz.toNat default).i.op), (.int .i64 ((c.blocks.getD k default).ins.getD iz.toNat default).i.a), (.int .i64 ((c.blocks.getD k default).ins.getD iz.toNat default).i.b), (.int .i64 ((c.blocks.getD k default).ins.getD iz.toNat default).i.c), (.int .i64 ((c.blocks.getD k default).ins.getD iz.toNat default).i.n), (.slice (cA (aq iz.toNat) 5) ((c.blocks.getD k default).ins.getD iz.toNat default).args.length (cK (aq iz.toNat) 5))]⟩))] 70 74 [] [(74, (.agg ⟨[(.int .i64 ((c.blocks.getD k default).ins.getD iz.toNat default).i.op), (.int .i64 ((c.blocks.getD k default).ins.getD iz.toNat default).i.a), (.int .i64 ((c.blocks.getD k default).ins.getD iz.toNat default).i.b), (.int .i64 ((c.blocks.getD k default).ins.getD iz.toNat default).i.c), (.int .i64 ((c.blocks.getD k default).ins.getD iz.toNat default).i.n), (.slice (cA (aq iz.toNat) 5) ((c.blocks.getD k default).ins.getD iz.toNat default).args.length (cK (aq iz.toNat) 5))]⟩))] (vA (ql 46 0 (HS.hc aD (i := 2) rfl) rfl rfl) (vA (Sv.ix (j := iz) (SR.sv aj aD) (by first | (dsimp only; omega) | omega) (by first | (dsimp only; omega) | omega)) (vA (qn 52 0 6 (VInT.vw (bO iz.toNat) (by first | (dsimp only; omega) | omega)) rfl rfl rfl rfl) trivial))) (by kernel_rfl) rfl fun _ => ?_
    refine wo_call (ap_call rfl rfl rfl) rfl rfl (ma.vwrites_c ex ((c.blocks.getD k default).ins.getD iz.toNat default) (HS.call aD) (by first | (dsimp only; omega) | omega) (by first | (dsimp only; omega) | omega) (by first | (dsimp only; omega) | omega) (by first | (dsimp only; omega) | omega) (by first | (dsimp only; omega) | omega) b6 hT) ?_
    rintro _ dD ⟨bu, bV, d5, bY, cB, aK, aP, rfl, aG, rfl⟩
    replace aP := HS.back aD rfl aP
    have aP : HS _ _ _ [_, _, _, ap, bY] _ := aP
    replace aT := aT.mono aK
    refine wro 2 6 [] 76 77 [] [(76, (.int .i64 ((writesV ((c.blocks.getD k default).ins.getD iz.toNat default)).length : Int))), (77, (.int .i64 0))] trivial (by kernel_rfl) rfl fun _ => ?_
    refine wo_end 2 rfl ?_
    refine wk_loop_inv (fun (mm : Nat) f H' => ∃ (w1 : List Int) (q : Nat) (ak : Option Addr) (an : Nat) (F' : Fz), Fz.le cB F' ∧ HS (Base.of H []) F' H' [[(b1, .cells [(.int .i64 c.params), (.int .i64 c.regs), (.slice O c.blocks.length T)] none false)], aa, [(av, .cells [(.slice (cA (z k) 0) (c.blocks.getD k default).ins.length (cK (z k) 0)), (.int .i64 (c.blocks.getD k default).fin), (.int .i64 (c.blocks.getD k default).reg), (.int .i64 (c.blocks.getD k default).tgt), (.int .i64 (c.blocks.getD k default).els)] none false)], ap, bY] R ∧ SR F' (.slice ak w1.length an) w1 ∧ agrees f [(2, (.slice none 0 0)), (4, (.slice aV y4.length aX)), (5, (.slice Y al.length Z)), (6, (.int .i64 (k : Int))), (7, (.pointer (some ⟨av, 0, none⟩))), (8, (.slice A pl.length E)), (9, (.slice ak w1.length an)), (10, (.int .i64 iz)), (21, (.slice O c.blocks.length T)), (22, (.int .i64 (c.blocks.length : Int))), (23, (.int .i64 (k : Int))), (24, (.bool (decide ((k : Int) < (c.blocks.length : Int))))), (25, (.int .i64 (k : Int))), (27, (.agg ⟨[(.slice (cA (z k) 0) (c.blocks.getD k default).ins.length (cK (z k) 0)), (.int .i64 (c.blocks.getD k default).fin), (.int .i64 (c.blocks.getD k default).reg), (.int .i64 (c.blocks.getD k default).tgt), (.int .i64 (c.blocks.getD k default).els)]⟩)), (31, (.int .i64 (((c.blocks.getD k default).ins.length : Int) + 2))), (42, (.slice (cA (I k) 0) (y4.getD k default).length (cK (I k) 0))), (43, (.pointer (some ⟨sB (.slice J (List.replicate ((c.blocks.getD k default).ins.length + 2) ([] : (List Int))).length N), sO (.slice J (List.replicate ((c.blocks.getD k default).ins.length + 2) ([] : (List Int))).length N) + ((c.blocks.getD k default).ins.length + 1) * Rp.sz (List Int), none⟩))), (51, (.bool (((c.blocks.getD k default).fin == 2) || ((c.blocks.getD k default).fin == 3)))), (60, (.slice U s1.length V)), (61, (.pointer (some ⟨sB (.slice J (List.replicate ((c.blocks.getD k default).ins.length + 2) ([] : (List Int))).length N), sO (.slice J (List.replicate ((c.blocks.getD k default).ins.length + 2) ([] : (List Int))).length N) + (c.blocks.getD k default).ins.length * Rp.sz (List Int), none⟩))), (67, (.bool (decide ((0 : Int) ≤ iz)))), (74, (.agg ⟨[(.int .i64 ((c.blocks.getD k default).ins.getD iz.toNat default).i.op), (.int .i64 ((c.blocks.getD k default).ins.getD iz.toNat default).i.a), (.int .i64 ((c.blocks.getD k default).ins.getD iz.toNat default).i.b), (.int .i64 ((c.blocks.getD k default).ins.getD iz.toNat default).i.c), (.int .i64 ((c.blocks.getD k default).ins.getD iz.toNat default).i.n), (.slice (cA (aq iz.toNat) 5) ((c.blocks.getD k default).ins.getD iz.toNat default).args.length (cK (aq iz.toNat) 5))]⟩)), (75, (.slice bu (writesV ((c.blocks.getD k default).ins.getD iz.toNat default)).length bV)), (76, (.int .i64 ((writesV ((c.blocks.getD k default).ins.getD iz.toNat default)).length : Int))), (77, (.int .i64 (q : Int)))] ∧ mm = (writesV ((c.blocks.getD k default).ins.getD iz.toNat default)).length - q ∧ (Lst w1 (wrS (ptS c k (iz.toNat + 1)) (writesV ((c.blocks.getD k default).ins.getD iz.toNat default)) q)) ∧ (q ≤ (writesV ((c.blocks.getD k default).ins.getD iz.toNat default)).length)) _ ⟨sw, 0, aA, aB, _, (Fz.le_refl _), aP, aT, (agC rfl (agC rfl (agC rfl (agC rfl (agC rfl (agC rfl (agC rfl (agC rfl (agC rfl (agC rfl (agC rfl (agC rfl (agC rfl (agC rfl (agC rfl (agC rfl (agC rfl (agC rfl (agC rfl (agC rfl (agC rfl (agC rfl (agC rfl (agC rfl (agC rfl agN))))))))))))))))))))))))), rfl, (by exact wr_zero (by rw [show iz.toNat + 1 = (iz + 1).toNat by omega]; exact f5)), (by first | assumption | omega | (simp at *; omega))⟩ ?_
    rintro dk dQ dE ⟨w1, q, ak, an, dp, aw, ab, am, bJ, rfl, g1, g2⟩ bS
    refine wk_canon _ bJ (fun _ => ?_)
    clear bJ
    replace hT := (hT.mono aK).mono aw
    replace aG := aG.mono aw
    replace ae := (ae.mono aK).mono aw
    replace aj := (aj.mono aK).mono aw
    have dT := Lst.len g1 hrg.1 (fun r h => wr_lt (fun r h => pt_lt vF hbn h) h)
    have dS := g1.asc
    refine wk_foc 1 rfl ?_
    refine wr 2 [] 78 78 [] [(78, (.bool (decide ((q : Int) < ((writesV ((c.blocks.getD k default).ins.getD iz.toNat default)).length : Int)))))] trivial (by kernel_rfl) rfl fun _ => ?_
    refine wk_if 4 6 (v := (decide ((q : Int) < ((writesV ((c.blocks.getD k default).ins.getD iz.toNat default)).length : Int)))) rfl rfl rfl rfl (fun bc => ?_) (fun bc => ?_)
    ·
     have bB := bc
     try simp only [BS] at bB
     obtain ⟨c6, bP⟩ := Sv.view (OS.sv aG ab (i := 4) rfl)
     have dW := fI (bP q)
     refine wr 2 [(1, .o (.int .i64 ((writesV ((c.blocks.getD k default).ins.getD iz.toNat default)).getD q 0)))] 79 80 [12] [(12, (.int .i64 ((writesV ((c.blocks.getD k default).ins.getD iz.toNat default)).getD q 0)))] (vA (Sv.ix (j := (q : Int)) (OS.sv aG ab (i := 4) rfl) (by first | (dsimp only; omega) | omega) (by first | (dsimp only; omega) | omega)) (vA (ql 3 0 (vI (bP q) (by first | (dsimp only; omega) | omega)) rfl rfl) trivial)) (by kernel_rfl) rfl fun _ => ?_
     refine wr 1 [(2, .o (.bool (conV w1 ((writesV ((c.blocks.getD k default).ins.getD iz.toNat default)).getD q 0))))] 81 83 [] [(83, (.bool (conV w1 ((writesV ((c.blocks.getD k default).ins.getD iz.toNat default)).getD q 0))))] (vA (contains_c_q ex w1 ((writesV ((c.blocks.getD k default).ins.getD iz.toNat default)).getD q 0) (HS.call ab) am (by first | (dsimp only; omega) | omega) hT (by first | assumption | omega) (by first | assumption | omega)) trivial) (by kernel_rfl) rfl fun _ => ?_
     refine wk_if 0 2 (v := (conV w1 ((writesV ((c.blocks.getD k default).ins.getD iz.toNat default)).getD q 0))) rfl rfl rfl rfl (fun bd => ?_) (fun bd => ?_)
     ·
      have bC := bd
      try simp only [BS] at bC
      refine wk_region ?_
      refine wro 2 0 [] 84 85 [] [(84, (.slice ak w1.length an)), (85, (.int .i64 ((writesV ((c.blocks.getD k default).ins.getD iz.toNat default)).getD q 0)))] trivial (by kernel_rfl) rfl fun _ => ?_
      refine wo_call (ap_call rfl rfl rfl) rfl rfl (without_c ex w1 ((writesV ((c.blocks.getD k default).ins.getD iz.toNat default)).getD q 0) (HS.call ab) am (by first | (dsimp only; omega) | omega) hT (by first | (dsimp only; omega) | omega)) ?_
      rintro _ dF ⟨bw, bW, d6, cL, dq, cm, aQ, rfl, b4, rfl⟩
      replace aQ := HS.back ab rfl aQ
      have aQ : HS _ _ _ [_, _, _, _, _, cL] _ := aQ
      refine wa (.slice bw (minV w1 [((writesV ((c.blocks.getD k default).ins.getD iz.toNat default)).getD q 0)]).length bW) rfl rfl rfl ?_
      refine wo_end 2 rfl ?_
      refine wr 1 [] 77 77 [87] [(77, (.int .i64 ((q : Int) + 1)))] (vA (vi (n := (q : Int) + 1) (by first | (dsimp only; omega) | omega)) trivial) (by kernel_rfl) rfl fun _ => ?_
      obtain ⟨dr, cn, bl, ct, de⟩ := OS.frz b4 aQ (i := 5) rfl
      have bl : HS _ _ _ [_, _, _, _, _, []] _ := bl
      refine bS _ _ _ ?_ ⟨minV w1 [((writesV ((c.blocks.getD k default).ins.getD iz.toNat default)).getD q 0)], q + 1, bw, bW, _, (Fz.le_trans (Fz.le_trans (aw) cm) cn), (HS.sub bl (List.sublist_append_left _ _)), ct, (agC rfl (agC rfl (agC rfl (agC rfl (agC rfl (agC rfl (agC rfl (agC rfl (agC rfl (agC rfl (agC rfl (agC rfl (agC rfl (agC rfl (agC rfl (agC rfl (agC rfl (agC rfl (agC rfl (agC rfl (agC rfl (agC rfl (agC rfl (agC rfl (agC rfl agN))))))))))))))))))))))))), rfl, (by first | exact wr_yes (by omega) g1 | exact wr_no (by omega) (by simp_all; done) g1), (by first | assumption | omega | (simp at *; omega))⟩
      omega
     ·
      have bC := bd
      try simp only [BS] at bC
      refine wr 1 [] 77 77 [87] [(77, (.int .i64 ((q : Int) + 1)))] (vA (vi (n := (q : Int) + 1) (by first | (dsimp only; omega) | omega)) trivial) (by kernel_rfl) rfl fun _ => ?_
      refine bS _ _ _ ?_ ⟨w1, q + 1, ak, an, _, (aw), ab, am, (agC rfl (agC rfl (agC rfl (agC rfl (agC rfl (agC rfl (agC rfl (agC rfl (agC rfl (agC rfl (agC rfl (agC rfl (agC rfl (agC rfl (agC rfl (agC rfl (agC rfl (agC rfl (agC rfl (agC rfl (agC rfl (agC rfl (agC rfl (agC rfl (agC rfl agN))))))))))))))))))))))))), rfl, (by first | exact wr_yes (by omega) g1 | exact wr_no (by omega) (by simp_all; done) g1), (by first | assumption | omega | (simp at *; omega))⟩
      omega
    ·
     have bB := bc
     try simp only [BS] at bB
     refine wk_region ?_
     obtain ⟨aC, bQ⟩ := Sv.view (SR.sv aj ab)
     obtain ⟨cW, cX, cY, cZ, c0, b7⟩ := VInT.fx (bQ iz.toNat)
     refine wro 5 0 [(1, .o (.slice (cA (z k) 0) (c.blocks.getD k default).ins.length (cK (z k) 0))), (4, .o (.agg ⟨[(.int .i64 ((c.blocks.getD k default).ins.getD iz.toNat default).i.op), (.int .i64 ((c.blocks.getD k default).ins.getD iz.toNat default).i.a), (.int .i64 ((c.blocks.getD k default).ins.getD iz.toNat default).i.b), (.int .i64 ((c.blocks.getD k default).ins.getD iz.toNat default).i.c), (.int .i64 ((c.blocks.getD k default).ins.getD iz.toNat default).i.n), (.slice (cA (aC iz.toNat) 5) ((c.blocks.getD k default).ins.getD iz.toNat default).args.length (cK (aC iz.toNat) 5))]⟩))] 88 92 [] [(92, (.agg ⟨[(.int .i64 ((c.blocks.getD k default).ins.getD iz.toNat default).i.op), (.int .i64 ((c.blocks.getD k default).ins.getD iz.toNat default).i.a), (.int .i64 ((c.blocks.getD k default).ins.getD iz.toNat default).i.b), (.int .i64 ((c.blocks.getD k default).ins.getD iz.toNat default).i.c), (.int .i64 ((c.blocks.getD k default).ins.getD iz.toNat default).i.n), (.slice (cA (aC iz.toNat) 5) ((c.blocks.getD k default).ins.getD iz.toNat default).args.length (cK (aC iz.toNat) 5))]⟩))] (vA (ql 46 0 (HS.hc ab (i := 2) rfl) rfl rfl) (vA (Sv.ix (j := iz) (SR.sv aj ab) (by first | (dsimp only; omega) | omega) (by first | (dsimp only; omega) | omega)) (vA (qn 52 0 6 (VInT.vw (bQ iz.toNat) (by first | (dsimp only; omega) | omega)) rfl rfl rfl rfl) trivial))) (by kernel_rfl) rfl fun _ => ?_
     refine wo_call (ap_call rfl rfl rfl) rfl rfl (ma.vreads_c ex ((c.blocks.getD k default).ins.getD iz.toNat default) (HS.call ab) (by first | (dsimp only; omega) | omega) (by first | (dsimp only; omega) | omega) (by first | (dsimp only; omega) | omega) (by first | (dsimp only; omega) | omega) (by first | (dsimp only; omega) | omega) b7 hT (by first | (dsimp only; omega) | omega)) ?_
     rintro _ dG ⟨cj, cx, d7, cg, cC, aY, aR, rfl, aH, rfl⟩
     replace aR := HS.back ab rfl aR
     have aR : HS _ _ _ [_, _, _, _, _, cg] _ := aR
     replace am := am.mono aY
     refine wro 2 6 [] 94 95 [] [(94, (.int .i64 ((readsV ((c.blocks.getD k default).ins.getD iz.toNat default)).length : Int))), (95, (.int .i64 0))] trivial (by kernel_rfl) rfl fun _ => ?_
     refine wo_end 2 rfl ?_
     refine wk_loop_inv (fun (mm : Nat) f H' => ∃ (w2 : List Int) (p : Nat) (ad : Option Addr) (ag : Nat) (F' : Fz), Fz.le cC F' ∧ HS (Base.of H []) F' H' [[(b1, .cells [(.int .i64 c.params), (.int .i64 c.regs), (.slice O c.blocks.length T)] none false)], aa, [(av, .cells [(.slice (cA (z k) 0) (c.blocks.getD k default).ins.length (cK (z k) 0)), (.int .i64 (c.blocks.getD k default).fin), (.int .i64 (c.blocks.getD k default).reg), (.int .i64 (c.blocks.getD k default).tgt), (.int .i64 (c.blocks.getD k default).els)] none false)], ap, bY, cg] R ∧ SR F' (.slice ad w2.length ag) w2 ∧ agrees f [(2, (.slice none 0 0)), (4, (.slice aV y4.length aX)), (5, (.slice Y al.length Z)), (6, (.int .i64 (k : Int))), (7, (.pointer (some ⟨av, 0, none⟩))), (8, (.slice A pl.length E)), (9, (.slice ad w2.length ag)), (10, (.int .i64 iz)), (21, (.slice O c.blocks.length T)), (22, (.int .i64 (c.blocks.length : Int))), (23, (.int .i64 (k : Int))), (24, (.bool (decide ((k : Int) < (c.blocks.length : Int))))), (25, (.int .i64 (k : Int))), (27, (.agg ⟨[(.slice (cA (z k) 0) (c.blocks.getD k default).ins.length (cK (z k) 0)), (.int .i64 (c.blocks.getD k default).fin), (.int .i64 (c.blocks.getD k default).reg), (.int .i64 (c.blocks.getD k default).tgt), (.int .i64 (c.blocks.getD k default).els)]⟩)), (31, (.int .i64 (((c.blocks.getD k default).ins.length : Int) + 2))), (42, (.slice (cA (I k) 0) (y4.getD k default).length (cK (I k) 0))), (43, (.pointer (some ⟨sB (.slice J (List.replicate ((c.blocks.getD k default).ins.length + 2) ([] : (List Int))).length N), sO (.slice J (List.replicate ((c.blocks.getD k default).ins.length + 2) ([] : (List Int))).length N) + ((c.blocks.getD k default).ins.length + 1) * Rp.sz (List Int), none⟩))), (51, (.bool (((c.blocks.getD k default).fin == 2) || ((c.blocks.getD k default).fin == 3)))), (60, (.slice U s1.length V)), (61, (.pointer (some ⟨sB (.slice J (List.replicate ((c.blocks.getD k default).ins.length + 2) ([] : (List Int))).length N), sO (.slice J (List.replicate ((c.blocks.getD k default).ins.length + 2) ([] : (List Int))).length N) + (c.blocks.getD k default).ins.length * Rp.sz (List Int), none⟩))), (67, (.bool (decide ((0 : Int) ≤ iz)))), (74, (.agg ⟨[(.int .i64 ((c.blocks.getD k default).ins.getD iz.toNat default).i.op), (.int .i64 ((c.blocks.getD k default).ins.getD iz.toNat default).i.a), (.int .i64 ((c.blocks.getD k default).ins.getD iz.toNat default).i.b), (.int .i64 ((c.blocks.getD k default).ins.getD iz.toNat default).i.c), (.int .i64 ((c.blocks.getD k default).ins.getD iz.toNat default).i.n), (.slice (cA (aq iz.toNat) 5) ((c.blocks.getD k default).ins.getD iz.toNat default).args.length (cK (aq iz.toNat) 5))]⟩)), (75, (.slice bu (writesV ((c.blocks.getD k default).ins.getD iz.toNat default)).length bV)), (76, (.int .i64 ((writesV ((c.blocks.getD k default).ins.getD iz.toNat default)).length : Int))), (77, (.int .i64 (q : Int))), (78, (.bool (decide ((q : Int) < ((writesV ((c.blocks.getD k default).ins.getD iz.toNat default)).length : Int))))), (92, (.agg ⟨[(.int .i64 ((c.blocks.getD k default).ins.getD iz.toNat default).i.op), (.int .i64 ((c.blocks.getD k default).ins.getD iz.toNat default).i.a), (.int .i64 ((c.blocks.getD k default).ins.getD iz.toNat default).i.b), (.int .i64 ((c.blocks.getD k default).ins.getD iz.toNat default).i.c), (.int .i64 ((c.blocks.getD k default).ins.getD iz.toNat default).i.n), (.slice (cA (aC iz.toNat) 5) ((c.blocks.getD k default).ins.getD iz.toNat default).args.length (cK (aC iz.toNat) 5))]⟩)), (93, (.slice cj (readsV ((c.blocks.getD k default).ins.getD iz.toNat default)).length cx)), (94, (.int .i64 ((readsV ((c.blocks.getD k default).ins.getD iz.toNat default)).length : Int))), (95, (.int .i64 (p : Int)))] ∧ mm = (readsV ((c.blocks.getD k default).ins.getD iz.toNat default)).length - p ∧ (Lst w2 (rdS (wrS (ptS c k (iz.toNat + 1)) (writesV ((c.blocks.getD k default).ins.getD iz.toNat default)) q) (readsV ((c.blocks.getD k default).ins.getD iz.toNat default)) p)) ∧ (p ≤ (readsV ((c.blocks.getD k default).ins.getD iz.toNat default)).length)) _ ⟨w1, 0, ak, an, _, (Fz.le_refl _), aR, am, (agC rfl (agC rfl (agC rfl (agC rfl (agC rfl (agC rfl (agC rfl (agC rfl (agC rfl (agC rfl (agC rfl (agC rfl (agC rfl (agC rfl (agC rfl (agC rfl (agC rfl (agC rfl (agC rfl (agC rfl (agC rfl (agC rfl (agC rfl (agC rfl (agC rfl (agC rfl (agC rfl (agC rfl (agC rfl (agC rfl agN)))))))))))))))))))))))))))))), rfl, (by exact rd_zero g1), (by first | assumption | omega | (simp at *; omega))⟩ ?_
     rintro dl dR dH ⟨w2, p, ad, ag, ds, aL, aE, aU, bK, rfl, g3, g4⟩ cw
     refine wk_canon _ bK (fun _ => ?_)
     clear bK
     replace hT := (hT.mono aY).mono aL
     replace aH := aH.mono aL
     replace ae := (ae.mono aY).mono aL
     have dV := Lst.len g3 hrg.1 (fun r h => rd_lt (fun r h => wr_lt (fun r h => pt_lt vF hbn h) h) hvl.1 h)
     have dU := g3.asc
     refine wk_foc 1 rfl ?_
     refine wr 2 [] 96 96 [] [(96, (.bool (decide ((p : Int) < ((readsV ((c.blocks.getD k default).ins.getD iz.toNat default)).length : Int)))))] trivial (by kernel_rfl) rfl fun _ => ?_
     refine wk_if 4 4 (v := (decide ((p : Int) < ((readsV ((c.blocks.getD k default).ins.getD iz.toNat default)).length : Int)))) rfl rfl rfl rfl (fun be => ?_) (fun be => ?_)
     ·
      have bD := be
      try simp only [BS] at bD
      obtain ⟨c7, bR⟩ := Sv.view (OS.sv aH aE (i := 5) rfl)
      have dX := fI (bR p)
      refine wr 1 [(1, .o (.int .i64 ((readsV ((c.blocks.getD k default).ins.getD iz.toNat default)).getD p 0)))] 97 98 [14] [(14, (.int .i64 ((readsV ((c.blocks.getD k default).ins.getD iz.toNat default)).getD p 0)))] (vA (Sv.ix (j := (p : Int)) (OS.sv aH aE (i := 5) rfl) (by first | (dsimp only; omega) | omega) (by first | (dsimp only; omega) | omega)) (vA (ql 3 0 (vI (bR p) (by first | (dsimp only; omega) | omega)) rfl rfl) trivial)) (by kernel_rfl) rfl fun _ => ?_
      refine wk_region ?_
      refine wro 2 0 [] 99 100 [] [(99, (.slice ad w2.length ag)), (100, (.int .i64 ((readsV ((c.blocks.getD k default).ins.getD iz.toNat default)).getD p 0)))] trivial (by kernel_rfl) rfl fun _ => ?_
      refine wo_call (ap_call rfl rfl rfl) rfl rfl (insert_c ex w2 ((readsV ((c.blocks.getD k default).ins.getD iz.toNat default)).getD p 0) (HS.call aE) aU (by first | (dsimp only; omega) | omega) hT (by first | assumption | omega) (by first | assumption | omega)) ?_
      rintro _ dI ⟨bx, bX, d8, dt, co, aS, rfl, b5, rfl⟩
      replace aS := HS.back aE rfl aS
      have aS : HS _ _ _ [_, _, _, _, _, _] _ := aS
      refine wa (.slice bx (insV w2 ((readsV ((c.blocks.getD k default).ins.getD iz.toNat default)).getD p 0)).length bX) rfl rfl rfl ?_
      refine wo_end 2 rfl ?_
      refine wr 1 [] 95 95 [102] [(95, (.int .i64 ((p : Int) + 1)))] (vA (vi (n := (p : Int) + 1) (by first | (dsimp only; omega) | omega)) trivial) (by kernel_rfl) rfl fun _ => ?_
      refine cw _ _ _ ?_ ⟨insV w2 ((readsV ((c.blocks.getD k default).ins.getD iz.toNat default)).getD p 0), p + 1, bx, bX, _, (Fz.le_trans (aL) co), aS, b5, (agC rfl (agC rfl (agC rfl (agC rfl (agC rfl (agC rfl (agC rfl (agC rfl (agC rfl (agC rfl (agC rfl (agC rfl (agC rfl (agC rfl (agC rfl (agC rfl (agC rfl (agC rfl (agC rfl (agC rfl (agC rfl (agC rfl (agC rfl (agC rfl (agC rfl (agC rfl (agC rfl (agC rfl (agC rfl (agC rfl agN)))))))))))))))))))))))))))))), rfl, (by exact rd_yes (by omega) (lim_at hvl.1 (by omega)).1 g3), (by first | assumption | omega | (simp at *; omega))⟩
      omega
     ·
      have bD := be
      try simp only [BS] at bD
      have hdone : Lst w2 (ptS c k iz.toNat) := pt_done hin (show (writesV ((c.blocks.getD k default).ins.getD iz.toNat default)).length ≤ q by omega) (show (readsV ((c.blocks.getD k default).ins.getD iz.toNat default)).length ≤ p by omega) g3
      refine wk_region ?_
      refine wro 4 0 [] 103 106 [] [(105, (.slice ad w2.length ag)), (106, (.pointer (some ⟨sB (.slice A pl.length E), sO (.slice A pl.length E) + iz.toNat * Rp.sz (List Int), none⟩)))] (vA (Sv.ix (j := iz) (OS.sv ae aE (i := 3) rfl) (by first | (dsimp only; omega) | omega) (by first | (dsimp only; omega) | omega)) trivial) (by kernel_rfl) rfl fun _ => ?_
      refine wo_rk (rs_st (α := (List Int)) (j := iz.toNat) (off := 0) (q := 3) w2 ae aE rfl rfl rfl rfl rfl rfl rfl rfl (getD_at (x := default) (by first | (dsimp only; omega) | omega)) rfl (by rintro cs ⟨_, _, rfl, _⟩; exact ⟨Nat.le_of_ble_eq_true rfl, ⟨ad, ag, rfl, aU⟩⟩)) rfl ?_
      rintro _ dJ ch ⟨bg, bm, _⟩
      have bm : HS _ _ _ [_, _, _, ch, _, _] _ := bm
      have c5 := OS.len' bg
      refine wo_end 2 rfl ?_
      refine wr 1 [] 68 69 [10] [(10, (.int .i64 (iz - 1)))] (vA (vi (n := iz - 1) (by first | (dsimp only; omega) | omega)) trivial) (by kernel_rfl) rfl fun _ => ?_
      refine cv _ _ _ ?_ ⟨w2, pl.set iz.toNat w2, iz - 1, ad, ag, A, E, ch, _, (Fz.le_trans (Fz.le_trans (Fz.le_trans (Fz.le_trans (aJ) aK) aw) aY) aL), (HS.sub bm (List.sublist_append_left _ _)), aU, (OS.norm bg), (agC rfl (agC rfl (agC rfl (agC rfl (agC rfl (agC (show Value.slice A pl.length E = Value.slice A (pl.set iz.toNat w2).length E by rw [OS.len' bg]) (agC rfl (agC rfl (agC rfl (agC rfl (agC rfl (agC rfl (agC rfl (agC rfl (agC rfl (agC rfl (agC rfl (agC rfl (agC rfl (agC rfl agN)))))))))))))))))))), rfl, (by rw [List.length_set]; exact f1), (by first | assumption | omega | (simp at *; omega)), (by rw [show (iz - 1 + 1).toNat = iz.toNat by omega]; exact pset f1 (fun j h1 h2 => f3 j (show (iz + 1).toNat ≤ j by omega) h2) (show iz.toNat ≤ (c.blocks.getD k default).ins.length by omega) hdone), (by rw [row_set (by rw [f1]; omega), if_neg (by omega)]; exact f4), (by rw [show (iz - 1 + 1).toNat = iz.toNat by omega]; exact hdone)⟩
      omega
   ·
    have bA := bb
    try simp only [BS] at bA
    refine wk_region ?_
    refine wro 2 0 [] 107 108 [] [(107, (.slice Y al.length Z)), (108, (.slice A pl.length E))] trivial (by kernel_rfl) rfl fun _ => ?_
    obtain ⟨du, bF, bn, cu, df⟩ := OS.frz ae aD (i := 3) rfl
    have bn : HS _ _ _ [_, _, _, []] _ := bn
    replace au := au.mono bF
    refine wo_rs (rs_lit (α := (List (List Int))) (ps := [(0, (.slice A pl.length E))]) (cells := [(.slice A pl.length E)]) ([pl] : List (List (List Int))) bn rfl rfl rfl (by kernel_rfl) ⟨[(.slice A pl.length E)], [], rfl, ⟨A, E, rfl, cu⟩, rfl⟩ rfl) rfl rfl ?_
    rintro _ dK cM ⟨dM, d1, rfl, cp, a3, _⟩
    have a3 : HS _ _ _ [_, _, _, _, cM] _ := a3
    refine wo_rs (rs_app (α := (List (List Int))) (q := 1) au a3 rfl rfl rfl (OS.sv cp a3 (i := 4) rfl) rfl rfl rfl rfl rfl rfl rfl (by first | omega | (simp only [List.length_append, List.length_cons, List.length_nil]; omega))) rfl rfl ?_
    rintro _ dL ci ⟨b8, cb, rfl, cr, bo, _⟩
    have bo : HS _ _ _ [_, ci, _, _, _] _ := bo
    refine wa (.slice b8 (al ++ ([pl] : List (List (List Int)))).length cb) rfl rfl rfl ?_
    refine wo_end 2 rfl ?_
    refine wr 1 [] 23 23 [111] [(23, (.int .i64 ((k : Int) + 1)))] (vA (vi (n := (k : Int) + 1) (by first | (dsimp only; omega) | omega)) trivial) (by kernel_rfl) rfl fun _ => ?_
    refine cJ _ _ _ ?_ ⟨al ++ ([pl] : List (List (List Int))), k + 1, b8, cb, ci, _, (Fz.le_trans (Fz.le_trans (Fz.le_trans (a6) aI) aJ) bF), (HS.sub bo (List.sublist_append_left _ _)), cr, (agC rfl (agC rfl (agC rfl (agC rfl (agC rfl (agC rfl agN)))))), rfl, (by simp; omega), (by first | assumption | omega | (simp at *; omega)), (by exact ps_snoc e1 e2 ⟨f1, fun i hi => f3 i (by omega) hi, f4⟩)⟩
    omega
 ·
  have bz := a9
  try simp only [BS] at bz
  refine wr 1 [] 2 2 [112] [(2, (.slice Y al.length Z))] trivial (by kernel_rfl) rfl fun _ => ?_
  refine wk_ret ⟨.inr rfl, _, rfl, Y, Z, al, aa, _, (Fz.le_trans (bE) a6), (HS.only bp (i := 1) rfl), rfl, au, (by exact ⟨by omega, fun b hb => e2 b (by omega)⟩)⟩
end Go.Proofs.YtknafdcgpaejlaaDoor.na
