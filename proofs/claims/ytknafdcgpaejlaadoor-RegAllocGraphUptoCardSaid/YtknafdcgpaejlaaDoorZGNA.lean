/-
 Ascending lists and live points, the allocator: by symbolic runs. No condition but bounds on lengths.
-/
import Derived.Test.YtknafdcgpaejlaaDoorZGMJ
noncomputable section
namespace Go.Proofs.YtknafdcgpaejlaaDoor.na
open Go.R
set_option maxRecDepth 10000
set_option linter.unusedVariables false
set_option linter.unusedSimpArgs false
variable (ex : FuncId) {F : Fz} {H : Heap} {R : List Fp}
open m1 m2 m3 m4 m5 m6 ma ml mb mc md mf mg mh mi mj
theorem con_at {l : List Int} {n : Int} {k : Nat} (h : k < l.length) (e : l.getD k 0 = n) : gc l n = true := i8.2 (e ▸ mem_at h)
theorem con_not {l : List Int} {n : Int} {k : Nat} (ha : Asc l) (E : ∀ j, j < k → l.getD j 0 < n) (J : ∀ j, k ≤ j → j < l.length → n ≤ l.getD j 0) (h : ¬ (k < l.length ∧ l.getD k 0 = n)) : gc l n = false := by
 rw [a1k]
 intro hc
 obtain ⟨j, hj, e⟩ := a0D.1 (i8.1 hc)
 have e' : l.getD j 0 = n := by rw [a01, a03 hj]; exact e
 rcases a0k j k with z | z
 ·
  have := E j z; omega
 have N := J k (a08 _) (by omega)
 rcases a1L z with A | A
 ·
  subst A; exact h ⟨hj, e'⟩
 have := asc_at ha A hj
 exact h ⟨by omega, by omega⟩
theorem con_fin {l : List Int} {n : Int} {lo hi : Nat} (ha : Asc l) (h : ¬ (lo : Int) < (hi : Int)) (N : lo ≤ hi ∧ hi ≤ l.length) (A : ∀ j, j < lo → l.getD j 0 < n) (E : ∀ j, hi ≤ j → j < l.length → n ≤ l.getD j 0) (b : Bool) (hb : b = true ↔ (lo < l.length ∧ l.getD lo 0 = n)) : b = gc l n := by
 have e : lo = hi := by omega
 subst e
 cases b with
 | true => obtain ⟨z, J⟩ := hb.1 rfl; exact (con_at z J).symm
 | false => exact (con_not ha A E fun z => by have := hb.2 z; cases this).symm
theorem bs_lo {l : List Int} {n : Int} {m : Nat} (ha : Asc l) (hm : m < l.length) (h : l.getD m 0 < n) : ∀ j, j < m + 1 → l.getD j 0 < n := fun j hj => by
 rcases a1L (Nat.le_of_lt_succ hj) with e | e
 ·
  subst e; exact h
 have := asc_at ha e hm; omega
theorem bs_hi {l : List Int} {n : Int} {m : Nat} (ha : Asc l) (h : ¬ l.getD m 0 < n) : ∀ j, m ≤ j → j < l.length → n ≤ l.getD j 0 := fun j hj hl => by
 rcases a1L hj with e | e
 ·
  subst e; omega
 have := asc_at ha e hl; omega
theorem con1 {n x : Int} : gc [n] x = decide (x = n) := by
 unfold gc
 simp only [List.any_cons, List.any_nil, a22]
 rw [a0p]; simp only [decide_eq_true_eq]; exact ⟨fun h => h.symm, fun h => h.symm⟩
theorem ins_in {l : List Int} {n : Int} (ha : Asc l) (h : gc l n = true) : cY l n = l := by
 obtain ⟨j, hj, e⟩ := a0D.1 (i8.1 h)
 have e' : l.getD j 0 = n := by rw [a01, a03 hj]; exact e
 have hk := pre_eq (l := l) (n := n) (k := j) (by omega) (fun i hi => by have := asc_at ha hi hj; omega) (fun _ => by omega)
 exact (kh hk hj e').symm
theorem Lst.ins {l : List Int} {S : Nat → Prop} {n : Int} (h : Lst l S) (hn : 0 ≤ n) : Lst (cY l n) (fun r => S r ∨ (r : Int) = n) := ⟨ins_asc h.asc, fun x => by
 rw [iW, h.mem]
 constructor
 ·
  rintro (rfl | z)
  ·
   exact ⟨hn, .inr (by omega)⟩
  exact ⟨z.1, .inl z.2⟩
 rintro ⟨z, A | A⟩
 ·
  exact .inr ⟨z, A⟩
 exact .inl (by omega)⟩
theorem Lst.del {l : List Int} {S : Nat → Prop} {n : Int} (h : Lst l S) : Lst (jk l [n]) (fun r => S r ∧ (r : Int) ≠ n) := Lst.ext (Lst.minus h) fun r => by rw [a0e]
structure PtX (c : VFnT) (b : Nat) (l : List (List Int)) : Prop where
 len : l.length = (bQ c b).ins.length + 2
 pt : ∀ i, i ≤ (bQ c b).ins.length → Lst (cN l i) (ptS c b i)
 out : Lst (cN l ((bQ c b).ins.length + 1)) (LOut c b)
structure PsF (c : VFnT) (p : List (List (List Int))) : Prop where
 len : p.length = c.blocks.length
 at_ : ∀ b, b < c.blocks.length → PtX c b (p.getD b default)
theorem ps_snoc {c : VFnT} {al : List (List (List Int))} {k : Nat} {l : List (List Int)} (hl : al.length = k) (h : ∀ b, b < k → PtX c b (al.getD b default)) (hx : PtX c k l) : ∀ b, b < k + 1 → PtX c b ((al ++ [l]).getD b default) := fun b hb => by
 rw [at_snoc]
 split
 ·
  rename_i e; rw [hl] at e; subst e; exact hx
 exact h b (by omega)
theorem end_yes2 {c : VFnT} {b : Nat} {o : List Int} (h : Lst o (LOut c b)) (hf : (bQ c b).fin = 2 ∨ (bQ c b).fin = 3) (hr : 0 ≤ (bQ c b).reg) : Lst (cY o (bQ c b).reg) (ptS c b (bQ c b).ins.length) := Lst.ext (Lst.ins h hr) fun r => by
 unfold ptS
 rw [List.drop_length]
 show _ ↔ endS _ _ _
 unfold endS df
 rw [if_pos hf, a0e]
theorem end_no2 {c : VFnT} {b : Nat} {o : List Int} (h : Lst o (LOut c b)) (hf : ¬ ((bQ c b).fin = 2 ∨ (bQ c b).fin = 3)) : Lst o (ptS c b (bQ c b).ins.length) := Lst.ext h fun r => by
 unfold ptS
 rw [List.drop_length]
 show _ ↔ endS _ _ _
 unfold endS df
 rw [if_neg hf]
 exact ⟨.inl, fun h => h.elim id fun h => by cases h⟩
def wrS (S : Nat → Prop) (l : List Int) (q r : Nat) : Prop := S r ∧ (r : Int) ∉ l.take q
def rdS (S : Nat → Prop) (l : List Int) (q r : Nat) : Prop := S r ∨ (r : Int) ∈ l.take q
theorem wr_zero {w : List Int} {S : Nat → Prop} {l : List Int} (h : Lst w S) : Lst w (wrS S l 0) := Lst.ext h fun r => by unfold wrS; simp
theorem wr_yes {w : List Int} {S : Nat → Prop} {l : List Int} {q : Nat} (hq : q < l.length) (h : Lst w (wrS S l q)) : Lst (jk w [l.getD q 0]) (wrS S l (q + 1)) := Lst.ext (Lst.del h) fun r => by
 unfold wrS
 rw [bo hq (d := 0), a09, a0e, and_assoc, not_or]
theorem wr_no {w : List Int} {S : Nat → Prop} {l : List Int} {q : Nat} (hq : q < l.length) (hc : gc w (l.getD q 0) = false) (h : Lst w (wrS S l q)) : Lst w (wrS S l (q + 1)) := Lst.ext h fun r => by
 unfold wrS
 rw [bo hq (d := 0), a09, a0e, not_or]
 constructor
 ·
  rintro ⟨z, A⟩
  refine ⟨z, A, fun e => ?_⟩
  have : (r : Int) ∈ w := (h.mem r).2 ⟨by omega, by simpa using ⟨z, A⟩⟩
  rw [e] at this
  rw [i8.2 this] at hc; cases hc
 rintro ⟨z, A, _⟩; exact ⟨z, A⟩
theorem rd_zero {w : List Int} {S : Nat → Prop} {l : List Int} (h : Lst w S) : Lst w (rdS S l 0) := Lst.ext h fun r => by unfold rdS; simp
theorem rd_yes {w : List Int} {S : Nat → Prop} {l : List Int} {q : Nat} (hq : q < l.length) (h0 : 0 ≤ l.getD q 0) (h : Lst w (rdS S l q)) : Lst (cY w (l.getD q 0)) (rdS S l (q + 1)) := Lst.ext (Lst.ins h h0) fun r => by
 unfold rdS
 rw [bo hq (d := 0), a09, a0e, or_assoc]
theorem wr_lt {S : Nat → Prop} {l : List Int} {m : Int} (hs : ∀ r, S r → (r : Int) < m) {q r : Nat} (h : wrS S l q r) : (r : Int) < m := hs r h.1
theorem rd_lt {S : Nat → Prop} {l : List Int} {m : Int} (hs : ∀ r, S r → (r : Int) < m) (hl : ∀ x ∈ l, 0 ≤ x ∧ x < m) {q r : Nat} (h : rdS S l q r) : (r : Int) < m := by
 rcases h with h | h
 ·
  exact hs r h
 exact (hl _ (a0d h)).2
theorem pt_done {c : VFnT} {b i q p : Nat} {w : List Int} (hi : i < (bQ c b).ins.length) (hq : (ab ((bQ c b).ins.getD i default)).length ≤ q) (hp : (aw ((bQ c b).ins.getD i default)).length ≤ p) (h : Lst w (rdS (wrS (ptS c b (i + 1)) (ab ((bQ c b).ins.getD i default)) q) (aw ((bQ c b).ins.getD i default)) p)) : Lst w (ptS c b i) := Lst.ext h fun r => by
 unfold rdS wrS ptS
 rw [a0h hq, a0h hp, tr_drop hi]
 exact or_comm
theorem pset {c : VFnT} {b i : Nat} {l : List (List Int)} {x : List Int} (hl : l.length = (bQ c b).ins.length + 2) (h : ∀ j, i < j → j ≤ (bQ c b).ins.length → Lst (cN l j) (ptS c b j)) (hi : i ≤ (bQ c b).ins.length) (hx : Lst x (ptS c b i)) : ∀ j, i ≤ j → j ≤ (bQ c b).ins.length → Lst (cN (l.set i x) j) (ptS c b j) := fun j A z => by
 rw [cw (by omega)]
 split
 ·
  rename_i e; subst e; exact hx
 rename_i e; exact h j (by omega) z
theorem gC {a_l : Option Addr} {k_l : Nat} (l : List Int) (n : Int) (hs : HS (.of H []) F H [] R) (hl : SR F (.slice a_l l.length k_l) l) (hn : in64 n) (hT : TB 37 tabC F) (ha : Asc l) (hlen : l.length ≤ 1073741824) : kKt ex 94 [(.slice a_l l.length k_l), (iI n)] H fun v H' => ∃ (r : Bool), H' = H ∧ v = .bool r ∧ r = gc l n := by
 refine aI Tryd.func94 rfl rfl (ah 1 rfl (wT 2 [] 4 4 [] [(4, (.bool false))] rfl fun _ => wT 3 [] 8 9 [5, 6] [(5, (iI 0)), (6, (iI (l.length : Int)))] rfl fun _ => aj (fun (mm : Nat) f H' => ∃ (lo : Nat) (hi : Nat), H' = H ∧ aD f [(0, (.slice a_l l.length k_l)), (1, (iI n)), (5, (iI (lo : Int))), (6, (iI (hi : Int)))] ∧ mm = hi - lo ∧ (lo ≤ hi ∧ hi ≤ l.length) ∧ (∀ j, j < lo → l.getD j 0 < n) ∧ (∀ j, hi ≤ j → j < l.length → n ≤ l.getD j 0)) _ ⟨0, l.length, rfl, ⟨rfl, rfl, rfl, rfl, trivial⟩, rfl, (by omega), (by intro j hj; omega), (by intro j Z h2; omega)⟩ ?_))
 rintro av f3 H ⟨lo, hi, rfl, T, rfl, Z, h2, h3⟩ V
 refine au _ T (fun _ => ?_)
 clear T
 refine ah 2 rfl (wT 1 [] 10 12 [] [(12, (.bool (decide ((lo : Int) < (hi : Int)))))] rfl fun _ => am 3 5 (v := (decide ((lo : Int) < (hi : Int)))) rfl rfl rfl rfl (fun E => ?_) (fun E => ?_))
 ·
  have Y := E
  try simp only [BS] at Y
  refine wR 2 [] 13 16 [7] [(7, (iI (((lo + hi) / 2 : Nat) : Int)))] (vA (vi (n := (lo : Int) + (hi : Int)) (by omega)) (vA (vA (show (2 : Int) ≠ 0 from by decide) (vi (n := (((lo + hi) / 2 : Nat) : Int)) (by omega))) trivial)) rfl fun _ => ?_
  obtain ⟨an, U⟩ := Sv.view (SR.sv hl hs)
  have g8 := fI (U ((lo + hi) / 2))
  refine wR 1 [(3, .o (iI (l.getD ((lo + hi) / 2) 0)))] 17 22 [] [(22, (.bool (decide ((l.getD ((lo + hi) / 2) 0) < n))))] (vA (Sv.ix (j := (((lo + hi) / 2 : Nat) : Int)) (SR.sv hl hs) (by omega) (by omega)) (vA (ql 3 0 (vI (U ((lo + hi) / 2)) (by omega)) rfl rfl) trivial)) rfl fun _ => am 0 0 (v := (decide ((l.getD ((lo + hi) / 2) 0) < n))) rfl rfl rfl rfl (fun z => ?_) (fun z => ?_)
  ·
   have A := z
   try simp only [BS] at A
   refine wU 2 [] 23 24 [5] [(5, (iI ((((lo + hi) / 2 : Nat) : Int) + 1)))] (vi (n := (((lo + hi) / 2 : Nat) : Int) + 1) (by omega)) rfl fun _ => V _ _ _ ?_ ⟨((lo + hi) / 2) + 1, hi, rfl, ⟨rfl, rfl, rfl, rfl, trivial⟩, rfl, (by omega), (bs_lo ha (by omega) (by assumption)), (by assumption)⟩
   omega
  have A := z
  try simp only [BS] at A
  refine wT 2 [] 25 25 [6] [(6, (iI (((lo + hi) / 2 : Nat) : Int)))] rfl fun _ => V _ _ _ ?_ ⟨lo, (lo + hi) / 2, rfl, ⟨rfl, rfl, rfl, rfl, trivial⟩, rfl, (by omega), (by omega), (bs_hi ha (by assumption))⟩
  omega
 have Y := E
 try simp only [BS] at Y
 obtain ⟨ag, J⟩ := Sv.view (SR.sv hl hs)
 have ar := fI (J lo)
 refine wR 1 [(8, .o (iI (l.getD lo 0)))] 26 37 [4] [(4, (.bool ((decide ((lo : Int) < (l.length : Int))) && ((l.getD lo 0) == n))))] (vA (fun (N : (decide ((lo : Int) < (l.length : Int))) = true) => (Sv.ix (j := (lo : Int)) (SR.sv hl hs) (by (try simp only [BS] at N); omega) (by (try simp only [BS] at N); omega))) (vA (fun (N : (decide ((lo : Int) < (l.length : Int))) = true) => (ql 3 0 (vI (J lo) (by (try simp only [BS] at N); omega)) rfl rfl)) trivial)) rfl fun _ => ak ⟨.inr rfl, _, rfl, ((decide ((lo : Int) < (l.length : Int))) && ((l.getD lo 0) == n)), rfl, rfl, (by exact con_fin ha (by assumption) Z h2 h3 _ (by simp <;> omega))⟩
theorem ed {a_l : Option Addr} {k_l : Nat} (l : List Int) (n : Int) (hs : HS (.of H []) F H [] R) (hl : SR F (.slice a_l l.length k_l) l) (hn : in64 n) (hT : TB 37 tabC F) (ha : Asc l) (hlen : l.length ≤ 1073741824) : kKt ex 94 [(.slice a_l l.length k_l), (iI n)] H fun v H' => v = (.bool (gc l n)) ∧ H' = H :=
 cq (gC ex l n hs hl hn hT ha hlen) (by rintro _ _ ⟨_, rfl, rfl, rfl⟩; exact ⟨rfl, rfl⟩)
theorem without_c {a_l : Option Addr} {k_l : Nat} (l : List Int) (n : Int) (hs : HS (.of H []) F H [] R) (hl : SR F (.slice a_l l.length k_l) l) (hn : in64 n) (hT : TB 37 tabC F) (hlen : l.length ≤ 1073741824) : kKt ex 95 [(.slice a_l l.length k_l), (iI n)] H fun v H' => ∃ (ar : Option Addr) (kr : Nat) (r : List Int) (p : Fp) (F' : Fz), Fz.le F F' ∧ HS (.of H []) F' H' [p] R ∧ v = .slice ar r.length kr ∧ OS F' (.slice ar r.length kr) r p ∧ r = jk l [n] := by
 refine aI Tryd.func95 rfl rfl (ah 1 rfl (wT 2 [] 4 4 [] [(4, (.slice none 0 0))] rfl fun _ => wT 3 [] 1 0 [5] [(5, (.slice none 0 0))] rfl fun _ => wT 2 [] 8 10 [] [(8, (.slice a_l l.length k_l)), (9, (iI (l.length : Int))), (10, (iI 0))] rfl fun _ => ?_))
 have ad := HS.snoc hs
 have ad : HS _ _ _ [[]] _ := ad
 refine aj (fun (mm : Nat) f H' => ∃ (o : List Int) (i : Nat) (z : Option Addr) (A : Nat) (E : Fp) (F' : Fz), Fz.le F F' ∧ HS (Base.of H []) F' H' [E] R ∧ OS F' (.slice z o.length A) o E ∧ aD f [(1, (iI n)), (5, (.slice z o.length A)), (8, (.slice a_l l.length k_l)), (9, (iI (l.length : Int))), (10, (iI (i : Int)))] ∧ mm = l.length - i ∧ (i ≤ l.length) ∧ (o = jk (l.take i) [n])) _ ⟨([] : List Int), 0, none, 0, [], _, fR, ad, (OS.nil : OS _ (.slice none 0 0) ([] : List Int) []), ⟨rfl, rfl, rfl, rfl, rfl, trivial⟩, rfl, (by omega), (by rfl)⟩ ?_
 rintro bk f4 H4 ⟨o, i, z, A, E, F4, U, N, J, an, rfl, h1, h2⟩ ax
 refine au _ an (fun _ => ?_)
 clear an
 replace hl := hl.mono U
 have n4 : o.length ≤ l.length := by rw [h2]; exact a0b min_len (by simp; omega)
 refine ah 1 rfl (wT 2 [] 11 11 [] [(11, (.bool (decide ((i : Int) < (l.length : Int)))))] rfl fun _ => am 4 5 (v := (decide ((i : Int) < (l.length : Int)))) rfl rfl rfl rfl (fun Y => ?_) (fun Y => ?_))
 ·
  have c7 := Y
  try simp only [BS] at c7
  obtain ⟨a9, av⟩ := Sv.view (SR.sv hl N)
  have g9 := fI (av i)
  refine wR 2 [(1, .o (iI (l.getD i 0)))] 12 13 [7] [(7, (iI (l.getD i 0)))] (vA (Sv.ix (j := (i : Int)) (SR.sv hl N) (by omega) (by omega)) (vA (ql 3 0 (vI (av i) (by omega)) rfl rfl) trivial)) rfl fun _ => wT 1 [] 14 16 [] [(16, (.bool ((l.getD i 0) != n)))] rfl fun _ => am 0 2 (v := ((l.getD i 0) != n)) rfl rfl rfl rfl (fun T => ?_) (fun T => ?_)
  ·
   have V := T
   try simp only [BS] at V
   refine aa (wTo 2 0 [] 17 18 [] [(17, (.slice z o.length A)), (18, (iI (l.getD i 0)))] rfl fun _ => aH (bu (α := Int) (ps := [(0, (iI (l.getD i 0)))]) (cells := [(iI (l.getD i 0))]) ([(l.getD i 0)] : List Int) N rfl rfl rfl (by kernel_rfl) ⟨[(iI (l.getD i 0))], [], rfl, ⟨rfl, by omega⟩, rfl⟩ rfl) rfl rfl ?_)
   rintro _ a6 a5 ⟨a8, bb, rfl, a2, (Z : HS _ _ _ [E, a5] _), _⟩
   refine aH (bC (α := Int) (q := 0) J Z rfl rfl rfl (OS.sv a2 Z (i := 1) rfl) rfl rfl rfl rfl rfl rfl rfl (by (simp only [a06, a0a, a0g]; omega))) rfl rfl ?_
   rintro _ a7 a0 ⟨al, ay, rfl, a3, (a4 : HS _ _ _ [a0, _] _), _⟩
   refine wa (.slice al (o ++ ([(l.getD i 0)] : List Int)).length ay) rfl rfl rfl (ae 2 rfl (wU 1 [] 10 10 [21] [(10, (iI ((i : Int) + 1)))] (vi (n := (i : Int) + 1) (by omega)) rfl fun _ => ax _ _ _ ?_ ⟨o ++ ([(l.getD i 0)] : List Int), i + 1, al, ay, a0, _, (U), (HS.sub a4 (a05 _ _)), a3, ⟨rfl, rfl, rfl, rfl, rfl, trivial⟩, rfl, (by omega), ((ic (by omega) h2).1 (by rw [con1]; exact decide_eq_false (by assumption)))⟩))
   omega
  have V := T
  try simp only [BS] at V
  refine wU 1 [] 10 10 [21] [(10, (iI ((i : Int) + 1)))] (vi (n := (i : Int) + 1) (by omega)) rfl fun _ => ax _ _ _ ?_ ⟨o, i + 1, z, A, E, _, (U), N, J, ⟨rfl, rfl, rfl, rfl, rfl, trivial⟩, rfl, (by omega), ((ic (by omega) h2).2 (by rw [con1]; exact decide_eq_true (by simp_all; done)))⟩
  omega
 have c7 := Y
 try simp only [BS] at c7
 refine wT 1 [] 4 4 [22] [(4, (.slice z o.length A))] rfl fun _ => ak ⟨.inr rfl, _, rfl, z, A, o, E, _, (U), (HS.only N (i := 0) rfl), rfl, J, (by rw [h2, a0h (by omega)])⟩
theorem cW {a_l : Option Addr} {k_l : Nat} (l : List Int) (n : Int) (hs : HS (.of H []) F H [] R) (hl : SR F (.slice a_l l.length k_l) l) (hn : in64 n) (hT : TB 37 tabC F) (ha : Asc l) (hlen : l.length ≤ 1000000) : kKt ex 93 [(.slice a_l l.length k_l), (iI n)] H fun v H' => ∃ (ar : Option Addr) (kr : Nat) (r : List Int) (F' : Fz), Fz.le F F' ∧ HS (.of H []) F' H' [] R ∧ v = .slice ar r.length kr ∧ SR F' (.slice ar r.length kr) r ∧ r = cY l n := by
 refine aI Tryd.func93 rfl rfl (ah 1 rfl (wT 3 [] 4 4 [] [(4, (.slice none 0 0))] rfl fun _ => wU 1 [(2, .o (.bool (gc l n)))] 6 8 [] [(8, (.bool (gc l n)))] (ed ex l n (HS.call hs) hl (by omega) hT (by omega) (by omega)) rfl fun _ => am 1 2 (v := (gc l n)) rfl rfl rfl rfl (fun ay => ?_) (fun ay => ?_)))
 ·
  have c3 := ay
  try simp only [BS] at c3
  have hc := c3
  refine wT 1 [] 4 4 [9] [(4, (.slice a_l l.length k_l))] rfl fun _ => ak ⟨.inr rfl, _, rfl, a_l, k_l, l, _, fR, (HS.forget hs), rfl, hl, (ins_in ha (by simpa using hc)).symm⟩
 have c3 := ay
 try simp only [BS] at c3
 have hc := c3
 refine wT 3 [] 1 0 [5] [(5, (iI 0))] rfl fun _ => aj (fun (mm : Nat) f H' => ∃ (k : Nat), H' = H ∧ aD f [(0, (.slice a_l l.length k_l)), (1, (iI n)), (5, (iI (k : Int)))] ∧ mm = l.length - k ∧ (k ≤ l.length) ∧ (∀ j, j < k → l.getD j 0 < n)) _ ⟨0, rfl, ⟨rfl, rfl, rfl, trivial⟩, rfl, (by omega), (by intro j hj; omega)⟩ ?_
 rintro f1 f6 H ⟨k, rfl, bz, rfl, h1, h2⟩ dv
 refine au _ bz (fun _ => ?_)
 clear bz
 refine ah 2 rfl ?_
 obtain ⟨e5, b0⟩ := Sv.view (SR.sv hl hs)
 have g8 := fI (b0 k)
 refine wR 1 [(8, .o (iI (l.getD k 0)))] 10 21 [] [(21, (.bool ((decide ((k : Int) < (l.length : Int))) && (decide ((l.getD k 0) < n)))))] (vA (fun (g1 : (decide ((k : Int) < (l.length : Int))) = true) => (Sv.ix (j := (k : Int)) (SR.sv hl hs) (by (try simp only [BS] at g1); omega) (by (try simp only [BS] at g1); omega))) (vA (fun (g1 : (decide ((k : Int) < (l.length : Int))) = true) => (ql 3 0 (vI (b0 k) (by (try simp only [BS] at g1); omega)) rfl rfl)) trivial)) rfl fun _ => am 2 5 (v := ((decide ((k : Int) < (l.length : Int))) && (decide ((l.getD k 0) < n)))) rfl rfl rfl rfl (fun ad => ?_) (fun ad => ?_)
 ·
  have av := ad
  try simp only [BS] at av
  refine wU 2 [] 22 23 [5] [(5, (iI ((k : Int) + 1)))] (vi (n := (k : Int) + 1) (by omega)) rfl fun _ => dv _ _ _ ?_ ⟨k + 1, rfl, ⟨rfl, rfl, rfl, trivial⟩, rfl, (by omega), (gw h2 (by omega))⟩
  omega
 have av := ad
 try simp only [BS] at av
 refine aY rfl (cg (id := .a) (bu (α := Int) (ps := []) (cells := []) ([] : List Int) hs.log0 rfl rfl rfl (by kernel_rfl) rfl rfl) rfl rfl (fun _ _ _ _ => km rfl rfl rfl) trivial ?_)
 rintro _ c9 b2 ⟨e1, e6, rfl, b9, A, _⟩ co a5
 replace A := HS.lg A hs a5
 generalize ({ c9 with log := co } : Heap) = b4 at A ⊢
 have A : HS _ _ _ [b2] _ := A
 refine fm (.slice a_l l.length k_l) rfl rfl rfl (fm (iI (k : Int)) rfl rfl rfl (cg (id := .q fun b => F b ≠ none) (rs_cutt (α := Int) (j := k) hl A.log0 rfl rfl rfl (optN (by omega)) (by omega)) rfl rfl (by rintro _ _ _ ⟨_, _, _, hH, _⟩; exact did_q rfl (SR.q hl)) (kb rfl) ?_))
 rintro _ _ _ ⟨e2, fd, rfl, U, ch⟩ c0 a6
 simp only at U; replace U := U.symm; subst U
 have T := HS.lg A.log0 A a6
 generalize ({ { b4 with log := [] } with log := c0 } : Heap) = d3 at T ⊢
 refine cg (id := .x (b2.map Prod.fst)) (bC (α := Int) (q := 0) b9 T.log0 rfl rfl rfl (SR.sv ch T.log0) rfl rfl rfl rfl rfl rfl rfl (by (simp only [a06, a0a, a0g, a0q, a0F]; omega))) rfl rfl (by rintro _ _ al ⟨bl, b1, rfl, Y, _, hwr⟩; exact cz rfl rfl (Wr.did hwr)) (kb rfl) ?_
 rintro _ dd al ⟨bl, b1, rfl, Y, J, _⟩ c4 a7
 replace J := HS.lg J T a7
 generalize ({ dd with log := c4 } : Heap) = d4 at J ⊢
 have J : HS _ _ _ [al] _ := J
 have Y : OS F (.slice bl (l.take k).length b1) (l.take k) al := Y
 refine fm (iI n) rfl rfl rfl (cg (id := .a) (bu (α := Int) (ps := [(0, (iI n))]) (cells := [(iI n)]) ([n] : List Int) J.log0 rfl rfl rfl (by kernel_rfl) ⟨[(iI n)], [], rfl, ⟨rfl, by omega⟩, rfl⟩ rfl) rfl rfl (fun _ _ _ _ => km rfl rfl rfl) (kb rfl) ?_)
 rintro _ dk d2 ⟨e3, fi, rfl, cc, z, _⟩ c5 a8
 replace z := HS.lg z J a8
 generalize ({ dk with log := c5 } : Heap) = ea at z ⊢
 have z : HS _ _ _ [_, d2] _ := z
 refine cg (id := .x (al.map Prod.fst)) (bC (α := Int) (q := 0) Y z.log0 rfl rfl rfl (OS.sv cc z.log0 (i := 1) rfl) rfl rfl rfl rfl rfl rfl rfl (by (simp only [a06, a0a, a0g, a0q, a0F]; omega))) rfl rfl (by rintro _ _ a3 ⟨ds, d1, rfl, a0, _, hwr⟩; exact cz rfl rfl (Wr.did hwr)) (kb rfl) ?_
 rintro _ dl a3 ⟨ds, d1, rfl, a0, E, _⟩ c6 a9
 replace E := HS.lg E z a9
 generalize ({ dl with log := c6 } : Heap) = b6 at E ⊢
 have E : HS _ _ _ [a3, _] _ := E
 refine fm (.slice a_l l.length k_l) rfl rfl rfl (fm (iI (k : Int)) rfl rfl rfl (cg (id := .q fun b => F b ≠ none) (rs_cutd (α := Int) (i := k) hl E.log0 rfl rfl rfl (optN (by omega)) (by omega)) rfl rfl (by rintro _ _ _ ⟨_, _, _, hH, _⟩; exact did_q rfl (SR.q hl)) (⟨.inl rfl, ⟨.inl rfl, ⟨.inr (HS.apq z (i := 0) rfl), ⟨.inr trivial, ⟨.inr trivial, ⟨.inr (HS.apq T (i := 0) rfl), ⟨.inr trivial, ⟨.inr trivial, ⟨.inr trivial, ⟨.inr trivial, trivial⟩⟩⟩⟩⟩⟩⟩⟩⟩⟩) ?_))
 rintro _ _ _ ⟨e4, f0, rfl, V, ci⟩ c7 bb
 simp only at V; replace V := V.symm; subst V
 have Z := HS.lg E.log0 E bb
 generalize ({ { b6 with log := [] } with log := c7 } : Heap) = em at Z ⊢
 refine cg (id := .x (a3.map Prod.fst)) (bC (α := Int) (q := 0) a0 Z.log0 rfl rfl rfl (SR.sv ci Z.log0) rfl rfl rfl rfl rfl rfl rfl (by (simp only [a06, a0a, a0g, a0q, a0F]; omega))) rfl rfl (by rintro _ _ b3 ⟨an, a2, rfl, a1, _, hwr⟩; exact cz rfl rfl (Wr.did hwr)) (kb rfl) ?_
 rintro _ dn b3 ⟨an, a2, rfl, a1, N, _⟩ c8 bk
 replace N := HS.lg N Z bk
 generalize ({ dn with log := c8 } : Heap) = es at N ⊢
 have N : HS _ _ _ [b3, _] _ := N
 refine fa (.slice an (((l.take k) ++ ([n] : List Int)) ++ (l.drop k)).length a2) rfl rfl rfl (cu (ah 1 rfl ?_))
 obtain ⟨e0, b7, ag, cl, ez⟩ := OS.frz a1 N (i := 0) rfl
 have ag : HS _ _ _ [[], _] _ := ag
 refine ak ⟨.inr rfl, _, rfl, an, a2, ((l.take k) ++ ([n] : List Int)) ++ (l.drop k), _, (b7), (HS.forget ag), rfl, cl, (ins_new (pre_eq h1 h2 (by omega)) (fun hh => absurd (con_at hh.1 hh.2) (by simpa using hc)))⟩
set_option maxHeartbeats 2000000 in
theorem points_c {T : Option Addr} {V : Nat} (c : VFnT) (hs : HS (.of H []) F H [] R) (ln : in64 c.params) (lp : in64 c.regs) (ci : SR F (.slice T c.blocks.length V) c.blocks) (hT : TB 37 tabC F) (hval : cx c = true) (hins : ∀ j, (c.blocks.getD j default).ins.length ≤ 1073741822) : kKt ex 51 [(.agg ⟨[(iI c.params), (iI c.regs), (.slice T c.blocks.length V)]⟩)] H fun v H' => ∃ (aps : Option Addr) (kps : Nat) (ps : List (List (List Int))) (p : Fp) (F' : Fz), Fz.le F F' ∧ HS (.of H []) F' H' [p] R ∧ v = .slice aps ps.length kps ∧ OS F' (.slice aps ps.length kps) ps p ∧ (PsF c ps) := by
 have vF := iA hval
 have hnb := vF.nb
 have hrg := vF.regs
 refine aI Tryd.func51 rfl rfl (ah 1 rfl (aa (aH (bw hs rfl rfl) rfl rfl ?_)))
 rintro _ H2 _ ⟨b1, rfl, (hm : HS _ _ _ [[(b1, .cells [(iI c.params), (iI c.regs), (.slice T c.blocks.length V)] none false)]] _), _⟩
 let h9 : Value := (.agg ⟨[(iI c.params), (iI c.regs), (.slice T c.blocks.length V)]⟩)
 refine wa (.slice none 0 0) rfl rfl rfl (ae 2 rfl (aa (wUo 1 0 [(0, .o h9)] 16 16 [] [(16, h9)] (qn 24 0 3 (HS.hc hm (i := 0) rfl) rfl rfl rfl rfl) rfl fun _ => az (ap rfl rfl rfl) rfl rfl (md.blocks_c ex c (HS.call hm) (by omega) (by omega) ci hT (fun j => a0b (hins j) (by omega))) ?_)))
 rintro _ H4 ⟨l2, mu, x4, c5, c6, y4, F4, ha, e6, rfl, lv, c9, mr, mq⟩
 replace e6 : HS _ _ _ [_] _ := HS.back hm rfl e6
 refine wTo 5 2 [] 18 19 [3, 4, 15] [(4, (.slice c5 y4.length c6))] rfl fun _ => ae 2 rfl ?_
 have bk : BkF c _ y4 := (by assumption : cx c = true → _) hval
 have hly := bk.ly
 refine wT 3 [] 1 0 [5] [(5, (.slice none 0 0))] rfl fun _ => wU 2 [(1, .o (.slice T c.blocks.length V))] 20 23 [] [(21, (.slice T c.blocks.length V)), (22, (iI (c.blocks.length : Int))), (23, (iI 0))] (ql 22 2 (HS.hc e6 (i := 0) rfl) rfl rfl) rfl fun _ => ?_
 have hq := HS.snoc e6
 have hq : HS _ _ _ [_, []] _ := hq
 let dn : Fp := [(b1, .cells [(iI c.params), (iI c.regs), (.slice T c.blocks.length V)] none false)]
 refine aj (fun (mm : Nat) f H' => ∃ (al : List (List (List Int))) (k : Nat) (J : Option Addr) (N : Nat) (Y : Fp) (F' : Fz), Fz.le F4 F' ∧ HS (Base.of H []) F' H' [dn, Y] R ∧ OS F' (.slice J al.length N) al Y ∧ aD f [(4, (.slice c5 y4.length c6)), (5, (.slice J al.length N)), (21, (.slice T c.blocks.length V)), (22, (iI (c.blocks.length : Int))), (23, (iI (k : Int)))] ∧ mm = c.blocks.length - k ∧ (al.length = k) ∧ (k ≤ c.blocks.length) ∧ (∀ b, b < k → PtX c b (al.getD b default))) _ ⟨([] : List (List (List Int))), 0, none, 0, [], _, fR, hq, (OS.nil : OS _ (.slice none 0 0) ([] : List (List (List Int))) []), ⟨rfl, rfl, rfl, rfl, rfl, trivial⟩, rfl, (by rfl), (by omega), (by intro b hb; omega)⟩ ?_
 rintro mw f8 H8 ⟨al, k, J, N, Y, F8, dk, fd, a4, hW, rfl, e1, hk, e2⟩ kz
 refine au _ hW (fun _ => ?_)
 clear hW
 replace hT := (hT.mono ha).mono dk
 replace ci := (ci.mono ha).mono dk
 replace c9 := c9.mono dk
 refine ah 1 rfl (wT 2 [] 24 24 [] [(24, (.bool (decide ((k : Int) < (c.blocks.length : Int)))))] rfl fun _ => am 4 5 (v := (decide ((k : Int) < (c.blocks.length : Int)))) rfl rfl rfl rfl (fun ds => ?_) (fun ds => ?_))
 ·
  have go := ds
  try simp only [BS] at go
  refine aa ?_
  obtain ⟨E, hr⟩ := Sv.view (SR.sv ci fd)
  obtain ⟨kU, kV, kW, kX, ar⟩ := BlkT.fx (hr k)
  let ib : Value := (.agg ⟨[(.slice (cA (E k) 0) (c.blocks.getD k default).ins.length (cK (E k) 0)), (iI (c.blocks.getD k default).fin), (iI (c.blocks.getD k default).reg), (iI (c.blocks.getD k default).tgt), (iI (c.blocks.getD k default).els)]⟩)
  refine wRo 3 0 [(2, .o ib)] 25 27 [] [(25, (iI (k : Int))), (27, ib)] (vA (Sv.ix (j := (k : Int)) (SR.sv ci fd) (by omega) (by omega)) (vA (qn 48 0 5 (BlkT.vw (hr k) (by omega)) rfl rfl rfl rfl) trivial)) rfl fun _ => aH (bp fd rfl) rfl rfl ?_
  rintro _ lK _ ⟨b6, rfl, (jq : HS _ _ _ [_, Y, [(b6, .cells [(.slice none 0 0), (iI 0), (iI 0), (iI 0), (iI 0)] none false)]] _), _⟩
  refine wa (iI (k : Int)) rfl rfl rfl (aL (aE (q := 2) jq rfl rfl rfl rfl rfl rfl rfl rfl rfl) rfl ?_)
  rintro _ lL _ ⟨(hl : HS _ _ _ [_, _, [(b6, .cells [(.slice (cA (E k) 0) (c.blocks.getD k default).ins.length (cK (E k) 0)), (iI (c.blocks.getD k default).fin), (iI (c.blocks.getD k default).reg), (iI (c.blocks.getD k default).tgt), (iI (c.blocks.getD k default).els)] none false)]] _), _⟩
  refine ae 2 rfl ?_
  have hbn : k < c.blocks.length := by omega
  have hbl := hins k
  have hrl : (List.replicate ((c.blocks.getD k default).ins.length + 2) ([] : List Int)).length = (c.blocks.getD k default).ins.length + 2 := a0P
  have hfn : ((c.blocks.getD k default).fin = 2 ∨ (c.blocks.getD k default).fin = 3) → 0 ≤ (c.blocks.getD k default).reg ∧ (c.blocks.getD k default).reg < c.regs := vF.fin k hbn
  have hyl := Lst.len (bk.hy k hbn) hrg.1 (fun r h => gx vF h)
  have hya := (bk.hy k hbn).asc
  refine aa (wRo 4 0 [(1, .o (.slice (cA (E k) 0) (c.blocks.getD k default).ins.length (cK (E k) 0)))] 28 31 [] [(31, (iI (((c.blocks.getD k default).ins.length : Int) + 2)))] (vA (ql 46 0 (HS.hc hl (i := 2) rfl) rfl rfl) (vA (vi (n := ((c.blocks.getD k default).ins.length : Int) + 2) (by omega)) trivial)) rfl fun _ => aH (dg ([] : (List Int)) hl rfl rfl rfl rfl rfl rfl rfl rfl rfl ⟨none, 0, rfl, SR.nil⟩ (by omega) (by omega)) rfl rfl ?_)
  rintro _ lM h3 ⟨a5, a6, rfl, c8, (co : HS _ _ _ [_, _, _, h3] _), _⟩
  have c8 : OS F8 (.slice a5 (List.replicate ((c.blocks.getD k default).ins.length + 2) ([] : (List Int))).length a6) (List.replicate ((c.blocks.getD k default).ins.length + 2) ([] : (List Int))) h3 := c8
  refine wa (.slice a5 (List.replicate ((c.blocks.getD k default).ins.length + 2) ([] : (List Int))).length a6) rfl rfl rfl (ae 2 rfl ?_)
  obtain ⟨U, ht⟩ := Sv.view (SR.sv c9 co)
  have hG := fL (ht k)
  refine wR 2 [(3, .o (.slice (cA (U k) 0) (y4.getD k default).length (cK (U k) 0)))] 33 36 [9] [(9, (.slice (cA (U k) 0) (y4.getD k default).length (cK (U k) 0)))] (vA (Sv.ix (j := (k : Int)) (SR.sv c9 co) (by omega) (by omega)) (vA (ql 25 0 (vL (ht k) (by omega)) rfl rfl) trivial)) rfl fun _ => aa (wRo 7 0 [(2, .o (.slice (cA (E k) 0) (c.blocks.getD k default).ins.length (cK (E k) 0)))] 37 43 [] [(42, (.slice (cA (U k) 0) (y4.getD k default).length (cK (U k) 0))), (43, (.pointer (some ⟨sB (.slice a5 (List.replicate ((c.blocks.getD k default).ins.length + 2) ([] : (List Int))).length a6), sO (.slice a5 (List.replicate ((c.blocks.getD k default).ins.length + 2) ([] : (List Int))).length a6) + ((c.blocks.getD k default).ins.length + 1) * Rp.sz (List Int), none⟩)))] (vA (ql 46 0 (HS.hc co (i := 2) rfl) rfl rfl) (vA (vi (n := ((c.blocks.getD k default).ins.length : Int) + 1) (by omega)) (vA (Sv.ix (j := ((c.blocks.getD k default).ins.length : Int) + 1) (OS.sv c8 co (i := 3) rfl) (by omega) (by omega)) trivial))) rfl fun _ => aL (bY (α := (List Int)) (j := (c.blocks.getD k default).ins.length + 1) (off := 0) (q := 3) (y4.getD k default) c8 co rfl rfl rfl rfl rfl rfl rfl rfl (aK (x := default) (by omega)) rfl (by rintro cs ⟨_, _, rfl, _⟩; exact ⟨a04 rfl, ⟨(cA (U k) 0), (cK (U k) 0), rfl, hG⟩⟩)) rfl ?_)
  rintro _ lN h4 ⟨cl, (bz : HS _ _ _ [_, _, _, h4] _), _⟩
  have la := OS.len' cl
  let fi : Fp := [(b6, .cells [(.slice (cA (E k) 0) (c.blocks.getD k default).ins.length (cK (E k) 0)), (iI (c.blocks.getD k default).fin), (iI (c.blocks.getD k default).reg), (iI (c.blocks.getD k default).tgt), (iI (c.blocks.getD k default).els)] none false)]
  refine ae 3 rfl (wR 1 [(1, .o (iI (c.blocks.getD k default).fin)), (5, .o (iI (c.blocks.getD k default).fin))] 44 51 [] [(51, (.bool (((c.blocks.getD k default).fin == 2) || ((c.blocks.getD k default).fin == 3))))] (vA (ql 3 1 (HS.hc bz (i := 2) rfl) rfl rfl) (vA (fun (g1 : ((c.blocks.getD k default).fin == 2) = false) => (ql 3 1 (HS.hc bz (i := 2) rfl) rfl rfl)) trivial)) rfl fun _ => bN (fun f H' => ∃ (s1 : List Int) (av : Option Addr) (a0 : Nat) (F' : Fz), Fz.le F8 F' ∧ HS (Base.of H []) F' H' [dn, Y, fi, h4] R ∧ SR F' (.slice av s1.length a0) s1 ∧ aD f [(4, (.slice c5 y4.length c6)), (5, (.slice J al.length N)), (7, (.pointer (some ⟨b6, 0, none⟩))), (8, (.slice a5 (List.replicate ((c.blocks.getD k default).ins.length + 2) ([] : (List Int))).length a6)), (9, (.slice av s1.length a0)), (21, (.slice T c.blocks.length V)), (22, (iI (c.blocks.length : Int))), (23, (iI (k : Int)))] ∧ (Lst s1 (ptS c k (c.blocks.getD k default).ins.length))) (fun hB => ?_) ?_)
  ·
   refine am 0 0 (v := (((c.blocks.getD k default).fin == 2) || ((c.blocks.getD k default).fin == 3))) rfl rfl rfl rfl (fun dt => ?_) (fun dt => ?_)
   ·
    have dd := dt
    try simp only [BS] at dd
    have hfe := dd
    have hfr := hfn hfe
    refine aa (wUo 3 0 [(2, .o (iI (c.blocks.getD k default).reg))] 52 54 [] [(52, (.slice (cA (U k) 0) (y4.getD k default).length (cK (U k) 0))), (54, (iI (c.blocks.getD k default).reg))] (ql 3 2 (HS.hc bz (i := 2) rfl) rfl rfl) rfl fun _ => az (ap rfl rfl rfl) rfl rfl (cW ex (y4.getD k default) (c.blocks.getD k default).reg (HS.call bz) hG (by omega) hT (by omega) (by omega)) ?_)
    rintro _ lP ⟨f6, hC, mx, lC, it, es, rfl, hK, rfl⟩
    replace es : HS _ _ _ [_, _, _, _] _ := HS.back bz rfl es
    refine wa (.slice f6 (cY (y4.getD k default) (c.blocks.getD k default).reg).length hC) rfl rfl rfl (ae 0 rfl ?_)
    exact hB _ _ ⟨cY (y4.getD k default) (c.blocks.getD k default).reg, f6, hC, _, (it), es, hK, ⟨rfl, rfl, rfl, rfl, rfl, rfl, rfl, rfl, trivial⟩, (end_yes2 (bk.hy k hbn) hfe (hfn hfe).1)⟩
   have dd := dt
   try simp only [BS] at dd
   have hfe := dd
   exact hB _ _ ⟨(y4.getD k default), (cA (U k) 0), (cK (U k) 0), _, fR, bz, hG, ⟨rfl, rfl, rfl, rfl, rfl, rfl, rfl, rfl, trivial⟩, (end_no2 (bk.hy k hbn) (show ¬ ((c.blocks.getD k default).fin = 2 ∨ (c.blocks.getD k default).fin = 3) by omega))⟩
  skip
  rintro l3 lO ⟨s1, av, a0, kg, b7, em, dl, hf, hX⟩
  refine au _ hf (fun _ => ?_)
  clear hf
  replace cl := cl.mono b7
  refine ah 2 rfl (aa (wRo 6 0 [(2, .o (.slice (cA (E k) 0) (c.blocks.getD k default).ins.length (cK (E k) 0)))] 56 61 [] [(60, (.slice av s1.length a0)), (61, (.pointer (some ⟨sB (.slice a5 (List.replicate ((c.blocks.getD k default).ins.length + 2) ([] : (List Int))).length a6), sO (.slice a5 (List.replicate ((c.blocks.getD k default).ins.length + 2) ([] : (List Int))).length a6) + (c.blocks.getD k default).ins.length * Rp.sz (List Int), none⟩)))] (vA (ql 46 0 (HS.hc em (i := 2) rfl) rfl rfl) (vA (Sv.ix (j := ((c.blocks.getD k default).ins.length : Int)) (OS.sv cl em (i := 3) rfl) (by omega) (by omega)) trivial)) rfl fun _ => aL (bY (α := (List Int)) (j := (c.blocks.getD k default).ins.length) (off := 0) (q := 3) s1 cl em rfl rfl rfl rfl rfl rfl rfl rfl (aK (x := default) (by omega)) rfl (by rintro cs ⟨_, _, rfl, _⟩; exact ⟨a04 rfl, ⟨av, a0, rfl, dl⟩⟩)) rfl ?_))
  rintro _ lQ h5 ⟨d4, (hn : HS _ _ _ [_, _, _, h5] _), _⟩
  have lb := OS.len' d4
  refine ae 3 rfl (wR 2 [(1, .o (.slice (cA (E k) 0) (c.blocks.getD k default).ins.length (cK (E k) 0)))] 62 65 [10] [(10, (iI (((c.blocks.getD k default).ins.length : Int) - 1)))] (vA (ql 46 0 (HS.hc hn (i := 2) rfl) rfl rfl) (vA (vi (n := ((c.blocks.getD k default).ins.length : Int) - 1) (by omega)) trivial)) rfl fun _ => aj (fun (mm : Nat) f H' => ∃ (sw : List Int) (pl : List (List Int)) (iz : Int) (bb : Option Addr) (bl : Nat) (z : Option Addr) (A : Nat) (a2 : Fp) (F' : Fz), Fz.le kg F' ∧ HS (Base.of H []) F' H' [dn, Y, fi, a2] R ∧ SR F' (.slice bb sw.length bl) sw ∧ OS F' (.slice z pl.length A) pl a2 ∧ aD f [(4, (.slice c5 y4.length c6)), (5, (.slice J al.length N)), (7, (.pointer (some ⟨b6, 0, none⟩))), (8, (.slice z pl.length A)), (9, (.slice bb sw.length bl)), (10, (iI iz)), (21, (.slice T c.blocks.length V)), (22, (iI (c.blocks.length : Int))), (23, (iI (k : Int)))] ∧ mm = (iz + 1).toNat ∧ (pl.length = (c.blocks.getD k default).ins.length + 2) ∧ (-1 ≤ iz ∧ iz < ((c.blocks.getD k default).ins.length : Int)) ∧ (∀ j, (iz + 1).toNat ≤ j → j ≤ (c.blocks.getD k default).ins.length → Lst (cN pl j) (ptS c k j)) ∧ (Lst (cN pl ((c.blocks.getD k default).ins.length + 1)) (LOut c k)) ∧ (Lst sw (ptS c k (iz + 1).toNat))) _ ⟨s1, ((List.replicate ((c.blocks.getD k default).ins.length + 2) ([] : (List Int))).set ((c.blocks.getD k default).ins.length + 1) (y4.getD k default)).set (c.blocks.getD k default).ins.length s1, ((c.blocks.getD k default).ins.length : Int) - 1, av, a0, a5, a6, h5, _, fR, hn, dl, (OS.norm d4), (agC rfl (agC rfl (agC rfl (agC (show Value.slice a5 (List.replicate ((c.blocks.getD k default).ins.length + 2) ([] : (List Int))).length a6 = Value.slice a5 (((List.replicate ((c.blocks.getD k default).ins.length + 2) ([] : (List Int))).set ((c.blocks.getD k default).ins.length + 1) (y4.getD k default)).set (c.blocks.getD k default).ins.length s1).length a6 by rw [OS.len' d4]) ⟨rfl, rfl, rfl, rfl, rfl, trivial⟩)))), rfl, (by simp), (by omega), (fun j h1 h2 => by (rw [show j = (c.blocks.getD k default).ins.length by omega, cw (by simp), if_pos rfl]; exact hX)), (by rw [cw (by simp), if_neg (by omega), cw (by simp), if_pos rfl]; exact bk.hy k hbn), (by rw [show ((((c.blocks.getD k default).ins.length : Nat) : Int) - 1 + 1).toNat = (c.blocks.getD k default).ins.length by omega]; exact hX)⟩ ?_)
  rintro lz l4 lR ⟨sw, pl, iz, bb, bl, z, A, a2, lD, b9, b0, c0, ag, hg, rfl, f1, f2, f3, f4, f5⟩ j1
  refine au _ hg (fun _ => ?_)
  clear hg
  replace hT := (hT.mono b7).mono b9
  replace a4 := (a4.mono b7).mono b9
  replace ar := (ar.mono b7).mono b9
  refine ah 2 rfl (wT 1 [] 66 67 [] [(67, (.bool (decide ((0 : Int) ≤ iz))))] rfl fun _ => am 5 4 (v := (decide ((0 : Int) ≤ iz))) rfl rfl rfl rfl (fun dv => ?_) (fun dv => ?_))
  ·
   have g0 := dv
   try simp only [BS] at g0
   have hin : iz.toNat < (c.blocks.getD k default).ins.length := by omega
   have hvl : (∀ x ∈ aw ((c.blocks.getD k default).ins.getD iz.toNat default), 0 ≤ x ∧ x < c.regs) ∧ (∀ x ∈ ab ((c.blocks.getD k default).ins.getD iz.toNat default), 0 ≤ x ∧ x < c.regs) ∧ ((c.blocks.getD k default).ins.getD iz.toNat default).args.length ≤ 6 := bR (vF.ins k hbn iz.toNat hin)
   have lw := hvl.2.2
   have hwl := cG (v := ((c.blocks.getD k default).ins.getD iz.toNat default))
   have lu := ej (v := ((c.blocks.getD k default).ins.getD iz.toNat default))
   refine aa ?_
   obtain ⟨g8, hu⟩ := Sv.view (SR.sv ar b0)
   obtain ⟨kY, kZ, k0, k3, k4, hR⟩ := VInT.fx (hu iz.toNat)
   let ih : Value := (.agg ⟨[(iI ((c.blocks.getD k default).ins.getD iz.toNat default).i.op), (iI ((c.blocks.getD k default).ins.getD iz.toNat default).i.a), (iI ((c.blocks.getD k default).ins.getD iz.toNat default).i.b), (iI ((c.blocks.getD k default).ins.getD iz.toNat default).i.c), (iI ((c.blocks.getD k default).ins.getD iz.toNat default).i.n), (.slice (cA (g8 iz.toNat) 5) ((c.blocks.getD k default).ins.getD iz.toNat default).args.length (cK (g8 iz.toNat) 5))]⟩)
   refine wRo 5 0 [(1, .o (.slice (cA (E k) 0) (c.blocks.getD k default).ins.length (cK (E k) 0))), (4, .o ih)] 70 74 [] [(74, ih)] (vA (ql 46 0 (HS.hc b0 (i := 2) rfl) rfl rfl) (vA (Sv.ix (j := iz) (SR.sv ar b0) (by omega) (by omega)) (vA (qn 52 0 6 (VInT.vw (hu iz.toNat) (by omega)) rfl rfl rfl rfl) trivial))) rfl fun _ => az (ap rfl rfl rfl) rfl rfl (ma.fF ex ((c.blocks.getD k default).ins.getD iz.toNat default) (HS.call b0) (by omega) (by omega) (by omega) (by omega) (by omega) hR hT) ?_
   rintro _ lS ⟨ik, kc, my, hF, ki, cc, et, rfl, b3, rfl⟩
   replace et : HS _ _ _ [_, _, _, a2, hF] _ := HS.back b0 rfl et
   replace c0 := c0.mono cc
   refine wTo 2 6 [] 76 77 [] [(76, (iI ((ab ((c.blocks.getD k default).ins.getD iz.toNat default)).length : Int))), (77, (iI 0))] rfl fun _ => ae 2 rfl (aj (fun (mm : Nat) f H' => ∃ (w1 : List Int) (q : Nat) (ax : Option Addr) (a1 : Nat) (F' : Fz), Fz.le ki F' ∧ HS (Base.of H []) F' H' [dn, Y, fi, a2, hF] R ∧ SR F' (.slice ax w1.length a1) w1 ∧ aD f [(4, (.slice c5 y4.length c6)), (5, (.slice J al.length N)), (7, (.pointer (some ⟨b6, 0, none⟩))), (8, (.slice z pl.length A)), (9, (.slice ax w1.length a1)), (10, (iI iz)), (21, (.slice T c.blocks.length V)), (22, (iI (c.blocks.length : Int))), (23, (iI (k : Int))), (75, (.slice ik (ab ((c.blocks.getD k default).ins.getD iz.toNat default)).length kc)), (76, (iI ((ab ((c.blocks.getD k default).ins.getD iz.toNat default)).length : Int))), (77, (iI (q : Int)))] ∧ mm = (ab ((c.blocks.getD k default).ins.getD iz.toNat default)).length - q ∧ (Lst w1 (wrS (ptS c k (iz.toNat + 1)) (ab ((c.blocks.getD k default).ins.getD iz.toNat default)) q)) ∧ (q ≤ (ab ((c.blocks.getD k default).ins.getD iz.toNat default)).length)) _ ⟨sw, 0, bb, bl, _, fR, et, c0, ⟨rfl, rfl, rfl, rfl, rfl, rfl, rfl, rfl, rfl, rfl, rfl, rfl, trivial⟩, rfl, (wr_zero (by rw [show iz.toNat + 1 = (iz + 1).toNat by omega]; exact f5)), (by omega)⟩ ?_)
   rintro lA l5 lT ⟨w1, q, ax, a1, lE, a7, Z, ay, hh, rfl, g1, g2⟩ hA
   refine au _ hh (fun _ => ?_)
   clear hh
   replace hT := (hT.mono cc).mono a7
   replace b3 := b3.mono a7
   replace ag := (ag.mono cc).mono a7
   replace ar := (ar.mono cc).mono a7
   have l8 := Lst.len g1 hrg.1 (fun r h => wr_lt (fun r h => pt_lt vF hbn h) h)
   have l7 := g1.asc
   refine ah 1 rfl (wT 2 [] 78 78 [] [(78, (.bool (decide ((q : Int) < ((ab ((c.blocks.getD k default).ins.getD iz.toNat default)).length : Int)))))] rfl fun _ => am 4 6 (v := (decide ((q : Int) < ((ab ((c.blocks.getD k default).ins.getD iz.toNat default)).length : Int)))) rfl rfl rfl rfl (fun d1 => ?_) (fun d1 => ?_))
   ·
    have g5 := d1
    try simp only [BS] at g5
    obtain ⟨lf, hv⟩ := Sv.view (OS.sv b3 Z (i := 4) rfl)
    have mn := fI (hv q)
    refine wR 2 [(1, .o (iI ((ab ((c.blocks.getD k default).ins.getD iz.toNat default)).getD q 0)))] 79 80 [12] [(12, (iI ((ab ((c.blocks.getD k default).ins.getD iz.toNat default)).getD q 0)))] (vA (Sv.ix (j := (q : Int)) (OS.sv b3 Z (i := 4) rfl) (by omega) (by omega)) (vA (ql 3 0 (vI (hv q) (by omega)) rfl rfl) trivial)) rfl fun _ => wU 1 [(2, .o (.bool (gc w1 ((ab ((c.blocks.getD k default).ins.getD iz.toNat default)).getD q 0))))] 81 83 [] [(83, (.bool (gc w1 ((ab ((c.blocks.getD k default).ins.getD iz.toNat default)).getD q 0))))] (ed ex w1 ((ab ((c.blocks.getD k default).ins.getD iz.toNat default)).getD q 0) (HS.call Z) ay (by omega) hT (by omega) (by omega)) rfl fun _ => am 0 2 (v := (gc w1 ((ab ((c.blocks.getD k default).ins.getD iz.toNat default)).getD q 0))) rfl rfl rfl rfl (fun d2 => ?_) (fun d2 => ?_)
    ·
     have g6 := d2
     try simp only [BS] at g6
     refine aa (wTo 2 0 [] 84 85 [] [(84, (.slice ax w1.length a1)), (85, (iI ((ab ((c.blocks.getD k default).ins.getD iz.toNat default)).getD q 0)))] rfl fun _ => az (ap rfl rfl rfl) rfl rfl (without_c ex w1 ((ab ((c.blocks.getD k default).ins.getD iz.toNat default)).getD q 0) (HS.call Z) ay (by omega) hT (by omega)) ?_)
     rintro _ lU ⟨f7, hD, mz, kS, lF, iv, ez, rfl, hM, rfl⟩
     replace ez : HS _ _ _ [_, _, _, _, _, kS] _ := HS.back Z rfl ez
     refine wa (.slice f7 (jk w1 [((ab ((c.blocks.getD k default).ins.getD iz.toNat default)).getD q 0)]).length hD) rfl rfl rfl (ae 2 rfl (wU 1 [] 77 77 [87] [(77, (iI ((q : Int) + 1)))] (vi (n := (q : Int) + 1) (by omega)) rfl fun _ => ?_))
     obtain ⟨lG, i1, e0, jb, lq⟩ := OS.frz hM ez (i := 5) rfl
     have e0 : HS _ _ _ [_, _, _, _, _, []] _ := e0
     refine hA _ _ _ ?_ ⟨jk w1 [((ab ((c.blocks.getD k default).ins.getD iz.toNat default)).getD q 0)], q + 1, f7, hD, _, (fT (fT (a7) iv) i1), (HS.sub e0 (a05 _ _)), jb, ⟨rfl, rfl, rfl, rfl, rfl, rfl, rfl, rfl, rfl, rfl, rfl, rfl, trivial⟩, rfl, (wr_yes (by omega) g1), (by omega)⟩
     omega
    have g6 := d2
    try simp only [BS] at g6
    refine wU 1 [] 77 77 [87] [(77, (iI ((q : Int) + 1)))] (vi (n := (q : Int) + 1) (by omega)) rfl fun _ => hA _ _ _ ?_ ⟨w1, q + 1, ax, a1, _, (a7), Z, ay, ⟨rfl, rfl, rfl, rfl, rfl, rfl, rfl, rfl, rfl, rfl, rfl, rfl, trivial⟩, rfl, (wr_no (by omega) (by simp_all; done) g1), (by omega)⟩
    omega
   have g5 := d1
   try simp only [BS] at g5
   refine aa ?_
   obtain ⟨g9, hw⟩ := Sv.view (SR.sv ar Z)
   obtain ⟨k5, k6, k7, k8, k9, hS⟩ := VInT.fx (hw iz.toNat)
   let ii : Value := (.agg ⟨[(iI ((c.blocks.getD k default).ins.getD iz.toNat default).i.op), (iI ((c.blocks.getD k default).ins.getD iz.toNat default).i.a), (iI ((c.blocks.getD k default).ins.getD iz.toNat default).i.b), (iI ((c.blocks.getD k default).ins.getD iz.toNat default).i.c), (iI ((c.blocks.getD k default).ins.getD iz.toNat default).i.n), (.slice (cA (g9 iz.toNat) 5) ((c.blocks.getD k default).ins.getD iz.toNat default).args.length (cK (g9 iz.toNat) 5))]⟩)
   refine wRo 5 0 [(1, .o (.slice (cA (E k) 0) (c.blocks.getD k default).ins.length (cK (E k) 0))), (4, .o ii)] 88 92 [] [(92, ii)] (vA (ql 46 0 (HS.hc Z (i := 2) rfl) rfl rfl) (vA (Sv.ix (j := iz) (SR.sv ar Z) (by omega) (by omega)) (vA (qn 52 0 6 (VInT.vw (hw iz.toNat) (by omega)) rfl rfl rfl rfl) trivial))) rfl fun _ => az (ap rfl rfl rfl) rfl rfl (ma.jY ex ((c.blocks.getD k default).ins.getD iz.toNat default) (HS.call Z) (by omega) (by omega) (by omega) (by omega) (by omega) hS hT (by omega)) ?_
   rintro _ lV ⟨il, kd, mA, h6, kk, c7, e3, rfl, b4, rfl⟩
   replace e3 : HS _ _ _ [_, _, _, _, _, h6] _ := HS.back Z rfl e3
   replace ay := ay.mono c7
   refine wTo 2 6 [] 94 95 [] [(94, (iI ((aw ((c.blocks.getD k default).ins.getD iz.toNat default)).length : Int))), (95, (iI 0))] rfl fun _ => ae 2 rfl (aj (fun (mm : Nat) f H' => ∃ (w2 : List Int) (p : Nat) (ad : Option Addr) (an : Nat) (F' : Fz), Fz.le kk F' ∧ HS (Base.of H []) F' H' [dn, Y, fi, a2, hF, h6] R ∧ SR F' (.slice ad w2.length an) w2 ∧ aD f [(4, (.slice c5 y4.length c6)), (5, (.slice J al.length N)), (7, (.pointer (some ⟨b6, 0, none⟩))), (8, (.slice z pl.length A)), (9, (.slice ad w2.length an)), (10, (iI iz)), (21, (.slice T c.blocks.length V)), (22, (iI (c.blocks.length : Int))), (23, (iI (k : Int))), (93, (.slice il (aw ((c.blocks.getD k default).ins.getD iz.toNat default)).length kd)), (94, (iI ((aw ((c.blocks.getD k default).ins.getD iz.toNat default)).length : Int))), (95, (iI (p : Int)))] ∧ mm = (aw ((c.blocks.getD k default).ins.getD iz.toNat default)).length - p ∧ (Lst w2 (rdS (wrS (ptS c k (iz.toNat + 1)) (ab ((c.blocks.getD k default).ins.getD iz.toNat default)) q) (aw ((c.blocks.getD k default).ins.getD iz.toNat default)) p)) ∧ (p ≤ (aw ((c.blocks.getD k default).ins.getD iz.toNat default)).length)) _ ⟨w1, 0, ax, a1, _, fR, e3, ay, ⟨rfl, rfl, rfl, rfl, rfl, rfl, rfl, rfl, rfl, rfl, rfl, rfl, trivial⟩, rfl, (rd_zero g1), (by omega)⟩ ?_)
   rintro lB l6 lW ⟨w2, p, ad, an, lH, ch, b2, c3, hj, rfl, g3, g4⟩ j2
   refine au _ hj (fun _ => ?_)
   clear hj
   replace hT := (hT.mono c7).mono ch
   replace b4 := b4.mono ch
   replace ag := (ag.mono c7).mono ch
   have mk := Lst.len g3 hrg.1 (fun r h => rd_lt (fun r h => wr_lt (fun r h => pt_lt vF hbn h) h) hvl.1 h)
   have l9 := g3.asc
   refine ah 1 rfl (wT 2 [] 96 96 [] [(96, (.bool (decide ((p : Int) < ((aw ((c.blocks.getD k default).ins.getD iz.toNat default)).length : Int)))))] rfl fun _ => am 4 4 (v := (decide ((p : Int) < ((aw ((c.blocks.getD k default).ins.getD iz.toNat default)).length : Int)))) rfl rfl rfl rfl (fun d3 => ?_) (fun d3 => ?_))
   ·
    have g7 := d3
    try simp only [BS] at g7
    obtain ⟨lh, hz⟩ := Sv.view (OS.sv b4 b2 (i := 5) rfl)
    have mp := fI (hz p)
    refine wR 1 [(1, .o (iI ((aw ((c.blocks.getD k default).ins.getD iz.toNat default)).getD p 0)))] 97 98 [14] [(14, (iI ((aw ((c.blocks.getD k default).ins.getD iz.toNat default)).getD p 0)))] (vA (Sv.ix (j := (p : Int)) (OS.sv b4 b2 (i := 5) rfl) (by omega) (by omega)) (vA (ql 3 0 (vI (hz p) (by omega)) rfl rfl) trivial)) rfl fun _ => aa (wTo 2 0 [] 99 100 [] [(99, (.slice ad w2.length an)), (100, (iI ((aw ((c.blocks.getD k default).ins.getD iz.toNat default)).getD p 0)))] rfl fun _ => az (ap rfl rfl rfl) rfl rfl (cW ex w2 ((aw ((c.blocks.getD k default).ins.getD iz.toNat default)).getD p 0) (HS.call b2) c3 (by omega) hT (by omega) (by omega)) ?_)
    rintro _ lX ⟨f9, hE, mB, lI, i2, e4, rfl, hQ, rfl⟩
    replace e4 : HS _ _ _ [_, _, _, _, _, _] _ := HS.back b2 rfl e4
    refine wa (.slice f9 (cY w2 ((aw ((c.blocks.getD k default).ins.getD iz.toNat default)).getD p 0)).length hE) rfl rfl rfl (ae 2 rfl (wU 1 [] 95 95 [102] [(95, (iI ((p : Int) + 1)))] (vi (n := (p : Int) + 1) (by omega)) rfl fun _ => j2 _ _ _ ?_ ⟨cY w2 ((aw ((c.blocks.getD k default).ins.getD iz.toNat default)).getD p 0), p + 1, f9, hE, _, (fT (ch) i2), e4, hQ, ⟨rfl, rfl, rfl, rfl, rfl, rfl, rfl, rfl, rfl, rfl, rfl, rfl, trivial⟩, rfl, (rd_yes (by omega) (eQ hvl.1 (by omega)).1 g3), (by omega)⟩))
    omega
   have g7 := d3
   try simp only [BS] at g7
   have hdone : Lst w2 (ptS c k iz.toNat) := pt_done hin (show (ab ((c.blocks.getD k default).ins.getD iz.toNat default)).length ≤ q by omega) (show (aw ((c.blocks.getD k default).ins.getD iz.toNat default)).length ≤ p by omega) g3
   refine aa (wUo 4 0 [] 103 106 [] [(105, (.slice ad w2.length an)), (106, (.pointer (some ⟨sB (.slice z pl.length A), sO (.slice z pl.length A) + iz.toNat * Rp.sz (List Int), none⟩)))] (Sv.ix (j := iz) (OS.sv ag b2 (i := 3) rfl) (by omega) (by omega)) rfl fun _ => aL (bY (α := (List Int)) (j := iz.toNat) (off := 0) (q := 3) w2 ag b2 rfl rfl rfl rfl rfl rfl rfl rfl (aK (x := default) (by omega)) rfl (by rintro cs ⟨_, _, rfl, _⟩; exact ⟨a04 rfl, ⟨ad, an, rfl, c3⟩⟩)) rfl ?_)
   rintro _ lY h7 ⟨ea, (jw : HS _ _ _ [_, _, _, h7, _, _] _), _⟩
   have lc := OS.len' ea
   refine ae 2 rfl (wU 1 [] 68 69 [10] [(10, (iI (iz - 1)))] (vi (n := iz - 1) (by omega)) rfl fun _ => j1 _ _ _ ?_ ⟨w2, pl.set iz.toNat w2, iz - 1, ad, an, z, A, h7, _, (fT (fT (fT (fT (b9) cc) a7) c7) ch), (HS.sub jw (a05 _ _)), c3, (OS.norm ea), (agC rfl (agC rfl (agC rfl (agC (show Value.slice z pl.length A = Value.slice z (pl.set iz.toNat w2).length A by rw [OS.len' ea]) ⟨rfl, rfl, rfl, rfl, rfl, trivial⟩)))), rfl, (by rw [a0i]; exact f1), (by omega), (by rw [show (iz - 1 + 1).toNat = iz.toNat by omega]; exact pset f1 (fun j h1 h2 => f3 j (show (iz + 1).toNat ≤ j by omega) h2) (show iz.toNat ≤ (c.blocks.getD k default).ins.length by omega) hdone), (by rw [cw (by rw [f1]; omega), if_neg (by omega)]; exact f4), (by rw [show (iz - 1 + 1).toNat = iz.toNat by omega]; exact hdone)⟩)
   omega
  have g0 := dv
  try simp only [BS] at g0
  refine aa (wTo 2 0 [] 107 108 [] [(107, (.slice J al.length N)), (108, (.slice z pl.length A))] rfl fun _ => ?_)
  obtain ⟨lJ, he, e5, jc, lr⟩ := OS.frz ag b0 (i := 3) rfl
  have e5 : HS _ _ _ [_, _, _, []] _ := e5
  replace a4 := a4.mono he
  refine aH (bu (α := (List (List Int))) (ps := [(0, (.slice z pl.length A))]) (cells := [(.slice z pl.length A)]) ([pl] : List (List (List Int))) e5 rfl rfl rfl (by kernel_rfl) ⟨[(.slice z pl.length A)], [], rfl, ⟨z, A, rfl, jc⟩, rfl⟩ rfl) rfl rfl ?_
  rintro _ lZ kT ⟨l1, ms, rfl, i3, (hp : HS _ _ _ [_, _, _, _, kT] _), _⟩
  refine aH (bC (α := (List (List Int))) (q := 1) a4 hp rfl rfl rfl (OS.sv i3 hp (i := 4) rfl) rfl rfl rfl rfl rfl rfl rfl (by (simp only [a06, a0a, a0g]; omega))) rfl rfl ?_
  rintro _ l0 h8 ⟨hV, hY, rfl, ja, (j0 : HS _ _ _ [_, h8, _, _, _] _), _⟩
  refine wa (.slice hV (al ++ ([pl] : List (List (List Int)))).length hY) rfl rfl rfl (ae 2 rfl (wU 1 [] 23 23 [111] [(23, (iI ((k : Int) + 1)))] (vi (n := (k : Int) + 1) (by omega)) rfl fun _ => kz _ _ _ ?_ ⟨al ++ ([pl] : List (List (List Int))), k + 1, hV, hY, h8, _, (fT (fT (fT (dk) b7) b9) he), (HS.sub j0 (a05 _ _)), ja, ⟨rfl, rfl, rfl, rfl, rfl, trivial⟩, rfl, (by simp; omega), (by omega), (ps_snoc e1 e2 ⟨f1, fun i hi => f3 i (by omega) hi, f4⟩)⟩))
  omega
 have go := ds
 try simp only [BS] at go
 refine wT 1 [] 2 2 [112] [(2, (.slice J al.length N))] rfl fun _ => ak ⟨.inr rfl, _, rfl, J, N, al, Y, _, (fT (ha) dk), (HS.only fd (i := 1) rfl), rfl, a4, (⟨by omega, fun b hb => e2 b (by omega)⟩)⟩
end Go.Proofs.YtknafdcgpaejlaaDoor.na
