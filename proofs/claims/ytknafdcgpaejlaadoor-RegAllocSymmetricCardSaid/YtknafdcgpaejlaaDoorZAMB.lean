/-
 Live registers: the program, function by function, each by a symbolic run. No condition but that the function is valid.
-/
import Derived.Test.YtknafdcgpaejlaaDoorZAML
noncomputable section
namespace Go.Proofs.YtknafdcgpaejlaaDoor.mb
open Go.R
set_option maxRecDepth 10000
set_option linter.unusedVariables false
open m1 m2 m3 m4 m5 m6 ma ml
theorem lst_step1 {s : List U64} {o : List Int} {k b : Nat} (ho : o = lstK s (64 * k + b)) (h : bitOf s (64 * k + b) = true) : o ++ ([64 * (k : Int) + (b : Int)] : List Int) = lstK s (64 * k + (b + 1)) := by
 rw [show 64 * k + (b + 1) = (64 * k + b) + 1 by omega, lstK_succ, if_pos h, ← ho]; simp
theorem lst_step0 {s : List U64} {o : List Int} {k b : Nat} (ho : o = lstK s (64 * k + b)) (h : ¬ bitOf s (64 * k + b) = true) : o = lstK s (64 * k + (b + 1)) := by
 rw [show 64 * k + (b + 1) = (64 * k + b) + 1 by omega, lstK_succ, if_neg h, ← ho]; simp
theorem end_ok {s s' : List U64} {b : BlkT} (h : ((b.fin = 2 ∨ b.fin = 3) ∧ 0 ≤ b.reg ∧ ∀ i, bitOf s' i = (bitOf s i || decide (i = b.reg.toNat))) ∨ (¬ (b.fin = 2 ∨ b.fin = 3) ∧ s' = s)) (i : Nat) : bitOf s' i = (bitOf s i || decide ((i : Int) ∈ endV b)) := by
 unfold endV
 rcases h with ⟨z, E, A⟩ | ⟨z, rfl⟩
 ·
  rw [if_pos z, A]; congr 1; rw [decide_eq_decide, List.mem_singleton]; omega
 ·
  rw [if_neg z]; simp
theorem rem_step {s w w' : List U64} {l : List Int} {k : Nat} (hk : k < l.length) (h : ∀ i, bitOf w i = (bitOf s i && !decide ((i : Int) ∈ l.take k))) (I : 0 ≤ l.getD k 0) (E : ∀ i, bitOf w' i = (bitOf w i && !decide (i = (l.getD k 0).toNat))) (i : Nat) : bitOf w' i = (bitOf s i && !decide ((i : Int) ∈ l.take (k + 1))) := by
 rw [E, h, take_snoc hk (d := 0), Bool.and_assoc]
 congr 1
 rw [Bool.eq_iff_iff]
 simp only [Bool.and_eq_true, Bool.not_eq_true', decide_eq_false_iff_not, List.mem_append, List.mem_singleton]
 constructor
 ·
  rintro ⟨A, J⟩ (z | z)
  ·
   exact A z
  ·
   omega
 ·
  intro A; exact ⟨fun z => A (.inl z), fun z => A (.inr (by omega))⟩
theorem add_step {s w w' : List U64} {l : List Int} {k : Nat} (hk : k < l.length) (h : ∀ i, bitOf w i = (bitOf s i || decide ((i : Int) ∈ l.take k))) (E : 0 ≤ l.getD k 0) (A : ∀ i, bitOf w' i = (bitOf w i || decide (i = (l.getD k 0).toNat))) (i : Nat) : bitOf w' i = (bitOf s i || decide ((i : Int) ∈ l.take (k + 1))) := by
 rw [A, h, take_snoc hk (d := 0), Bool.or_assoc]
 congr 1
 rw [Bool.eq_iff_iff]
 simp only [Bool.or_eq_true, decide_eq_true_eq, List.mem_append, List.mem_singleton]
 constructor
 ·
  rintro (z | z)
  ·
   exact .inl z
  ·
   exact .inr (by omega)
 ·
  rintro (z | z)
  ·
   exact .inl z
  ·
   exact .inr (by omega)
theorem lim_at {l : List Int} {m : Int} (h : ∀ x ∈ l, 0 ≤ x ∧ x < m) {k : Nat} (hk : k < l.length) : 0 ≤ l.getD k 0 ∧ l.getD k 0 < m := by
 rw [List.getD_eq_getElem?_getD, List.getElem?_eq_getElem hk]; exact h _ (List.getElem_mem hk)
theorem writes_len {v : VInT} : (writesV v).length ≤ 1 := by unfold writesV; split <;> simp
theorem reads_len {v : VInT} : (readsV v).length ≤ 3 + v.args.length := by
 unfold readsV
 split
 ·
  refine Nat.le_trans uni_len ?_
  unfold readsL
  simp only [List.length_append, List.length_nil]
  have z := one_len (a := v.i.a) (p := (infV v.i.op).ra = true)
  have A := one_len (a := v.i.b) (p := (infV v.i.op).rb = true)
  have E := one_len (a := v.i.c) (p := v.i.op = 11 ∨ v.i.op = 12)
  have I : (if v.i.op = 6 then v.args else []).length ≤ v.args.length := by split <;> first | exact Nat.le_refl _ | exact Nat.zero_le _
  omega
 ·
  exact Nat.zero_le _
theorem tr_done {s w v' : List U64} {iv : VInT} (z : ∀ i, bitOf w i = (bitOf s i && !decide ((i : Int) ∈ writesV iv))) (A : ∀ i, bitOf v' i = (bitOf w i || decide ((i : Int) ∈ readsV iv))) (i : Nat) : bitOf v' i = ((bitOf s i && !decide ((i : Int) ∈ writesV iv)) || decide ((i : Int) ∈ readsV iv)) := by rw [A, z]
theorem empty_c (ex : FuncId) (n : Int) {F : Fz} {H : Heap} {R : List Fp} (hs : HS (.of H []) F H [] R) (hn : in64 n) (hT : TB 37 tabC F) (hn : 0 ≤ n ∧ n ≤ 1000000) : C Tryd.prog 1 (KT 60 ex 37 tabC) 113 [(.int .i64 n)] H fun v H' => ∃ (ar : Option Addr) (kr : Nat) (r : List U64) (p : Fp) (F' : Fz), Fz.le F F' ∧ HS (.of H []) F' H' [p] R ∧ v = .slice ar r.length kr ∧ OS F' (.slice ar r.length kr) r p ∧ r = List.replicate (Int.tdiv (n + 63) 64).toNat (⟨0⟩ : U64) := by
 have hq : Int.tdiv (n + 63) 64 = (n + 63) / 64 := Int.tdiv_eq_ediv_of_nonneg (by omega)
 refine c_enter Tryd.func113 rfl rfl ?_
 refine wk_foc 1 rfl ?_
 refine wr 2 [] 2 2 [] [(2, (.slice none 0 0))] trivial (by kernel_rfl) rfl fun _ => ?_
 refine wk_region ?_
 have N : in64 (n + 63) → in64 (Int.tdiv (n + 63) 64) := fun h => vq h (by decide)
 refine wro 3 0 [] 3 5 [] [(5, (.int .i64 (Int.tdiv (n + 63) 64)))] (vA (vi (n := n + 63) (by omega)) (vA (vA (show (64 : Int) ≠ 0 from by decide) (vq (a := n + 63) (b := 64) (by omega) (by decide))) trivial)) (by kernel_rfl) rfl fun _ => ?_
 refine wo_rs (rs_make (⟨0⟩ : U64) hs rfl rfl rfl rfl rfl rfl rfl rfl rfl ⟨rfl, by decide⟩ (by omega) (by omega)) rfl rfl ?_
 rintro _ O J ⟨A, I, rfl, E, z, _⟩
 have z : HS _ _ _ [J] _ := z
 refine wa (.slice A (List.replicate (Int.tdiv (n + 63) 64).toNat (⟨0⟩ : U64)).length I) rfl rfl rfl ?_
 refine wo_end 1 rfl ?_
 refine wk_ret ⟨.inr rfl, _, rfl, A, I, List.replicate (Int.tdiv (n + 63) 64).toNat (⟨0⟩ : U64), J, _, (Fz.le_refl _), (HS.only z (i := 0) rfl), rfl, E, (by first | rfl | omega | simp_all)⟩
theorem add_c (ex : FuncId) {a_z : Option Addr} {n_z k_z : Nat} {p_z : Fp} (z : List U64) (n : Int) {F : Fz} {H : Heap} {R : List Fp} (hs : HS (.of H (p_z.map Prod.fst)) F H [p_z] R) (hz : OS F (.slice a_z n_z k_z) z p_z) (hn : in64 n) (hT : TB 37 tabC F) (hn : 0 ≤ n ∧ n < 64 * (z.length : Int)) (hsl : z.length ≤ 100000) : C Tryd.prog 1 (KT 60 ex 37 tabC) 116 [(.slice a_z n_z k_z), (.int .i64 n)] H fun v H' => ∃ (z' : List U64) (pm : Fp) (F' : Fz), Fz.le F F' ∧ HS (.of H (p_z.map Prod.fst)) F' H' [pm] R ∧ v = .tuple #[] ∧ OS F' (.slice a_z n_z k_z) z' pm ∧ (z'.length = z.length) ∧ (∀ i, bitOf z' i = (bitOf z i || decide (i = n.toNat))) := by
 have lnarg := OS.len' hz
 have hq := n64 hn
 refine c_enter Tryd.func116 rfl rfl ?_
 refine wk_region ?_
 have T : in64 n → in64 (Int.tdiv n 64) := fun h => vq h (by decide)
 obtain ⟨O, I⟩ := Sv.view (OS.sv hz hs (i := 0) rfl)
 have V := fU (I (Int.tdiv n 64).toNat)
 refine wro 11 0 [(4, .o (.int .u64 (z.getD (Int.tdiv n 64).toNat default).n))] 4 14 [] [(13, (.int .u64 (bitsOf .or .u64 (z.getD (Int.tdiv n 64).toNat default).n (IntKind.u64.wrap (1 * 2 ^ (Nat.min (Int.tmod n 64).toNat 64)))))), (14, (.pointer (some ⟨sB (.slice a_z n_z k_z), sO (.slice a_z n_z k_z) + (Int.tdiv n 64).toNat * Rp.sz U64, none⟩)))] (vA (vA (show (64 : Int) ≠ 0 from by decide) (vq (a := n) (b := 64) (by first | omega | (dsimp only; exact bits_rng _ _ _)) (by decide))) (vA (Sv.ix (j := Int.tdiv n 64) (OS.sv hz hs (i := 0) rfl) (by first | omega | (dsimp only; exact bits_rng _ _ _)) (by first | omega | (dsimp only; exact bits_rng _ _ _))) (vA (ql 87 0 (vU (I (Int.tdiv n 64).toNat) (by first | omega | (dsimp only; exact bits_rng _ _ _))) rfl rfl) (vA (show (64 : Int) ≠ 0 from by decide) (vA (vu (n := Int.tmod n 64) (by first | omega | (dsimp only; exact bits_rng _ _ _))) (vA (show (0 : Int) ≤ Int.tmod n 64 from by first | omega | (dsimp only; exact bits_rng _ _ _)) (vA (Sv.ix (j := Int.tdiv n 64) (OS.sv hz hs (i := 0) rfl) (by first | omega | (dsimp only; exact bits_rng _ _ _)) (by first | omega | (dsimp only; exact bits_rng _ _ _))) trivial))))))) (by kernel_rfl) rfl fun _ => ?_
 refine wo_rk (rs_st (α := U64) (j := (Int.tdiv n 64).toNat) (off := 0) (q := 0) ⟨bitsOf .or .u64 (z.getD (Int.tdiv n 64).toNat default).n (IntKind.u64.wrap (1 * 2 ^ (Nat.min (Int.tmod n 64).toNat 64)))⟩ hz hs rfl rfl rfl rfl rfl rfl rfl rfl (getD_at (x := default) (by first | omega | (dsimp only; exact bits_rng _ _ _))) rfl (by rintro cs ⟨rfl, _⟩; exact ⟨Nat.le_of_ble_eq_true rfl, rfl, by first | omega | (dsimp only; exact bits_rng _ _ _)⟩)) rfl ?_
 rintro _ U J ⟨E, A, _⟩
 have A : HS _ _ _ [J] _ := A
 have N := OS.len' E
 refine wo_end 0 rfl ?_
 refine wk_skip_nil ⟨.inl rfl, _, rfl, z.set (Int.tdiv n 64).toNat ⟨bitsOf .or .u64 (z.getD (Int.tdiv n 64).toNat default).n (IntKind.u64.wrap (1 * 2 ^ (Nat.min (Int.tmod n 64).toNat 64)))⟩, J, _, (Fz.le_refl _), (HS.first A), rfl, E, (by exact List.length_set), (by exact fun i => add_ok hn (by assumption) i)⟩
theorem rem_c (ex : FuncId) {a_z : Option Addr} {n_z k_z : Nat} {p_z : Fp} (z : List U64) (n : Int) {F : Fz} {H : Heap} {R : List Fp} (hs : HS (.of H (p_z.map Prod.fst)) F H [p_z] R) (hz : OS F (.slice a_z n_z k_z) z p_z) (hn : in64 n) (hT : TB 37 tabC F) (hn : 0 ≤ n ∧ n < 64 * (z.length : Int)) (hsl : z.length ≤ 100000) : C Tryd.prog 1 (KT 60 ex 37 tabC) 115 [(.slice a_z n_z k_z), (.int .i64 n)] H fun v H' => ∃ (z' : List U64) (pm : Fp) (F' : Fz), Fz.le F F' ∧ HS (.of H (p_z.map Prod.fst)) F' H' [pm] R ∧ v = .tuple #[] ∧ OS F' (.slice a_z n_z k_z) z' pm ∧ (z'.length = z.length) ∧ (∀ i, bitOf z' i = (bitOf z i && !decide (i = n.toNat))) := by
 have lnarg := OS.len' hz
 have hq := n64 hn
 refine c_enter Tryd.func115 rfl rfl ?_
 refine wk_region ?_
 have T : in64 n → in64 (Int.tdiv n 64) := fun h => vq h (by decide)
 obtain ⟨O, I⟩ := Sv.view (OS.sv hz hs (i := 0) rfl)
 have V := fU (I (Int.tdiv n 64).toNat)
 refine wro 11 0 [(4, .o (.int .u64 (z.getD (Int.tdiv n 64).toNat default).n))] 4 14 [] [(13, (.int .u64 (bitsOf .andNot .u64 (z.getD (Int.tdiv n 64).toNat default).n (IntKind.u64.wrap (1 * 2 ^ (Nat.min (Int.tmod n 64).toNat 64)))))), (14, (.pointer (some ⟨sB (.slice a_z n_z k_z), sO (.slice a_z n_z k_z) + (Int.tdiv n 64).toNat * Rp.sz U64, none⟩)))] (vA (vA (show (64 : Int) ≠ 0 from by decide) (vq (a := n) (b := 64) (by first | omega | (dsimp only; exact bits_rng _ _ _)) (by decide))) (vA (Sv.ix (j := Int.tdiv n 64) (OS.sv hz hs (i := 0) rfl) (by first | omega | (dsimp only; exact bits_rng _ _ _)) (by first | omega | (dsimp only; exact bits_rng _ _ _))) (vA (ql 87 0 (vU (I (Int.tdiv n 64).toNat) (by first | omega | (dsimp only; exact bits_rng _ _ _))) rfl rfl) (vA (show (64 : Int) ≠ 0 from by decide) (vA (vu (n := Int.tmod n 64) (by first | omega | (dsimp only; exact bits_rng _ _ _))) (vA (show (0 : Int) ≤ Int.tmod n 64 from by first | omega | (dsimp only; exact bits_rng _ _ _)) (vA (Sv.ix (j := Int.tdiv n 64) (OS.sv hz hs (i := 0) rfl) (by first | omega | (dsimp only; exact bits_rng _ _ _)) (by first | omega | (dsimp only; exact bits_rng _ _ _))) trivial))))))) (by kernel_rfl) rfl fun _ => ?_
 refine wo_rk (rs_st (α := U64) (j := (Int.tdiv n 64).toNat) (off := 0) (q := 0) ⟨bitsOf .andNot .u64 (z.getD (Int.tdiv n 64).toNat default).n (IntKind.u64.wrap (1 * 2 ^ (Nat.min (Int.tmod n 64).toNat 64)))⟩ hz hs rfl rfl rfl rfl rfl rfl rfl rfl (getD_at (x := default) (by first | omega | (dsimp only; exact bits_rng _ _ _))) rfl (by rintro cs ⟨rfl, _⟩; exact ⟨Nat.le_of_ble_eq_true rfl, rfl, by first | omega | (dsimp only; exact bits_rng _ _ _)⟩)) rfl ?_
 rintro _ U J ⟨E, A, _⟩
 have A : HS _ _ _ [J] _ := A
 have N := OS.len' E
 refine wo_end 0 rfl ?_
 refine wk_skip_nil ⟨.inl rfl, _, rfl, z.set (Int.tdiv n 64).toNat ⟨bitsOf .andNot .u64 (z.getD (Int.tdiv n 64).toNat default).n (IntKind.u64.wrap (1 * 2 ^ (Nat.min (Int.tmod n 64).toNat 64)))⟩, J, _, (Fz.le_refl _), (HS.first A), rfl, E, (by exact List.length_set), (by exact fun i => rem_ok hn (by assumption) i)⟩
theorem union_c (ex : FuncId) {a_z : Option Addr} {n_z k_z : Nat} {p_z : Fp} (z : List U64) {a_t : Option Addr} {n_t k_t : Nat} (t : List U64) {F : Fz} {H : Heap} {R : List Fp} (hs : HS (.of H (p_z.map Prod.fst)) F H [p_z] R) (hz : OS F (.slice a_z n_z k_z) z p_z) (ht : SR F (.slice a_t n_t k_t) t) (hT : TB 37 tabC F) (hl : t.length = z.length) (hsl : z.length ≤ 100000) : C Tryd.prog 1 (KT 60 ex 37 tabC) 117 [(.slice a_z n_z k_z), (.slice a_t n_t k_t)] H fun v H' => ∃ (r : Bool) (z' : List U64) (pm : Fp) (F' : Fz), Fz.le F F' ∧ HS (.of H (p_z.map Prod.fst)) F' H' [pm] R ∧ v = .bool r ∧ OS F' (.slice a_z n_z k_z) z' pm ∧ (z'.length = z.length) ∧ (∀ i, bitOf z' i = (bitOf z i || bitOf t i)) ∧ (r = false → z' = z) ∧ (r = true → ∃ i, bitOf t i = true ∧ bitOf z i = false) := by
 have ln_t := SR.len' ht
 have lnarg := OS.len' hz
 refine c_enter Tryd.func117 rfl rfl ?_
 refine wk_foc 1 rfl ?_
 refine wr 2 [] 4 4 [] [(4, (.bool false))] trivial (by kernel_rfl) rfl fun _ => ?_
 refine wr 3 [] 1 0 [5] [(5, (.bool false))] trivial (by kernel_rfl) rfl fun _ => ?_
 refine wr 2 [] 7 9 [] [(8, (.int .i64 (n_z : Int))), (9, (.int .i64 0))] trivial (by kernel_rfl) rfl fun _ => ?_
 refine wk_loop_inv (fun (mm : Nat) f H' => ∃ (w : List U64) (k : Nat) (m : Bool) (I : Fp) (F' : Fz), Fz.le F F' ∧ HS (Base.of H (p_z.map Prod.fst)) F' H' [I] R ∧ OS F' (.slice a_z n_z k_z) w I ∧ agrees f [(0, (.slice a_z n_z k_z)), (1, (.slice a_t n_t k_t)), (4, (.bool false)), (5, (.bool m)), (8, (.int .i64 (n_z : Int))), (9, (.int .i64 (k : Int)))] ∧ mm = z.length - k ∧ (uniB z t k w) ∧ (k ≤ z.length) ∧ (m = false → w = z) ∧ (m = true → ∃ i, bitOf t i = true ∧ bitOf z i = false)) _ ⟨z, 0, false, p_z, _, (Fz.le_refl _), hs, hz, (agC rfl (agC rfl (agC rfl (agC rfl (agC rfl (agC rfl agN)))))), rfl, (by exact uniB_zero), (by first | assumption | omega | (simp at *; omega)), (by exact fun _ => rfl), (by intro h; cases h)⟩ ?_
 rintro aF f4 H4 ⟨w, k, m, I, F4, T, E, A, ab, rfl, hu, hk, au, av⟩ ae
 refine wk_canon _ ab (fun _ => ?_)
 clear ab
 replace ht := ht.mono T
 have an := OS.len' A
 have hwl := hu.1
 refine wk_foc 1 rfl ?_
 refine wr 2 [] 10 10 [] [(10, (.bool (decide ((k : Int) < (n_z : Int)))))] trivial (by kernel_rfl) rfl fun _ => ?_
 refine wk_if 4 5 (v := (decide ((k : Int) < (n_z : Int)))) rfl rfl rfl rfl (fun V => ?_) (fun V => ?_)
 ·
  have c6 := V
  try simp only [BS] at c6
  refine wr 2 [] 11 11 [6] [(6, (.int .i64 (k : Int)))] trivial (by kernel_rfl) rfl fun _ => ?_
  obtain ⟨aD, ad⟩ := Sv.view (SR.sv ht E)
  have g9 := fU (ad k)
  obtain ⟨aA, Y⟩ := Sv.view (OS.sv A E (i := 0) rfl)
  have aE := fU (Y k)
  refine wrD 1 [(3, .o (.int .u64 (t.getD k default).n)), (7, .o (.int .u64 (w.getD k default).n))] 12 21 [] [(21, (.bool (bitsOf .andNot .u64 (t.getD k default).n (w.getD k default).n != 0)))] (vA (Sv.ix (j := (k : Int)) (SR.sv ht E) (by first | omega | (dsimp only; exact bits_rng _ _ _)) (by first | omega | (dsimp only; exact bits_rng _ _ _))) (vA (ql 87 0 (hc0 (vU (ad k) (by first | omega | (dsimp only; exact bits_rng _ _ _)))) rfl rfl) (vA (Sv.ix (j := (k : Int)) (OS.sv A E (i := 0) rfl) (by first | omega | (dsimp only; exact bits_rng _ _ _)) (by first | omega | (dsimp only; exact bits_rng _ _ _))) (vA (ql 87 0 (hc0 (vU (Y k) (by first | omega | (dsimp only; exact bits_rng _ _ _)))) rfl rfl) trivial)))) rfl (by kernel_rfl) rfl fun _ => ?_
  refine wk_if 1 2 (v := (bitsOf .andNot .u64 (t.getD k default).n (w.getD k default).n != 0)) rfl rfl rfl rfl (fun N => ?_) (fun N => ?_)
  ·
   have U := N
   try simp only [BS] at U
   refine wr 1 [] 1 0 [5] [(5, (.bool true))] trivial (by kernel_rfl) rfl fun _ => ?_
   refine wf_region rfl ?_
   refine fm (.slice a_z n_z k_z) rfl rfl rfl ?_
   refine fm (.int .i64 (k : Int)) rfl rfl rfl ?_
   refine wf_pure (v := (.pointer (some ⟨sB (.slice a_z n_z k_z), sO (.slice a_z n_z k_z) + k * Rp.sz U64, none⟩))) (id := .v) (ap_idxV (α := U64) (j := (k : Int)) rfl rfl rfl rfl (OS.sv A E.log0 (i := 0) rfl) (by first | omega | (dsimp only; exact bits_rng _ _ _)) (by first | omega | (dsimp only; exact bits_rng _ _ _))) rfl rfl (did_v rfl) (okD_v _) ?_
   obtain ⟨aB, ak, ah⟩ := Sv.at (OS.sv A E.log0 (i := 0) rfl) (getD_at (x := default) (show k < w.length from by first | omega | (dsimp only; exact bits_rng _ _ _)))
   obtain ⟨rfl, aw, aq⟩ := ak
   refine wf_pure (v := (.int .u64 (w.getD k default).n)) (id := .l (sB (.slice a_z n_z k_z))) (ap_ld1 (i := 0) rfl rfl ah rfl rfl) rfl rfl (did_l rfl) (⟨.inl rfl, ⟨.inl rfl, ⟨.inl rfl, trivial⟩⟩⟩) ?_
   refine fm (.slice a_t n_t k_t) rfl rfl rfl ?_
   refine fm (.int .i64 (k : Int)) rfl rfl rfl ?_
   refine wf_pure (v := (.pointer (some ⟨sB (.slice a_t n_t k_t), sO (.slice a_t n_t k_t) + k * Rp.sz U64, none⟩))) (id := .v) (ap_idxV (α := U64) (j := (k : Int)) rfl rfl rfl rfl (SR.sv ht E.log0) (by first | omega | (dsimp only; exact bits_rng _ _ _)) (by first | omega | (dsimp only; exact bits_rng _ _ _))) rfl rfl (did_v rfl) (okD_v _) ?_
   obtain ⟨aC, al, aj⟩ := Sv.at (SR.sv ht E.log0) (getD_at (x := default) (show k < t.length from by first | omega | (dsimp only; exact bits_rng _ _ _)))
   obtain ⟨rfl, ax, ar⟩ := al
   refine wf_pure (v := (.int .u64 (t.getD k default).n)) (id := .l (sB (.slice a_t n_t k_t))) (ap_ld1 (i := 0) rfl rfl aj rfl rfl) rfl rfl (did_l rfl) (⟨.inl rfl, ⟨.inl rfl, ⟨.inl rfl, ⟨.inr trivial, ⟨.inr trivial, ⟨.inr trivial, ⟨.inr trivial, trivial⟩⟩⟩⟩⟩⟩⟩) ?_
   refine wf_pure (v := (.int .u64 (bitsOf .or .u64 (w.getD k default).n (t.getD k default).n))) (id := .v) (ap_int rfl rfl rfl) rfl rfl (did_v rfl) (okD_v _) ?_
   refine wf_pure (v := (.pointer (some ⟨sB (.slice a_z n_z k_z), sO (.slice a_z n_z k_z) + k * Rp.sz U64, none⟩))) (id := .v) (ap_idxV (α := U64) (j := (k : Int)) rfl rfl rfl rfl (OS.sv A E.log0 (i := 0) rfl) (by first | omega | (dsimp only; exact bits_rng _ _ _)) (by first | omega | (dsimp only; exact bits_rng _ _ _))) rfl rfl (did_v rfl) (okD_v _) ?_
   refine wf_rk (id := .x (I.map Prod.fst)) (rs_st (α := U64) (j := k) (off := 0) (q := 0) ⟨bitsOf .or .u64 (w.getD k default).n (t.getD k default).n⟩ A E.log0 rfl rfl rfl rfl rfl rfl rfl rfl (getD_at (x := default) (by first | omega | (dsimp only; exact bits_rng _ _ _))) rfl (by rintro cs ⟨rfl, _⟩; exact ⟨Nat.le_of_ble_eq_true rfl, rfl, by first | omega | (dsimp only; exact bits_rng _ _ _)⟩)) rfl (by rintro _ _ Z ⟨O, _, hwr⟩; exact did_x rfl rfl (Wr.did hwr)) (⟨.inl rfl, ⟨.inl rfl, ⟨.inl rfl, ⟨.inl rfl, ⟨.inl rfl, ⟨.inl rfl, ⟨.inl rfl, ⟨.inl rfl, ⟨.inl rfl, ⟨.inl rfl, trivial⟩⟩⟩⟩⟩⟩⟩⟩⟩⟩) ?_
   rintro _ ap Z ⟨O, J, _⟩ am aa
   replace J := HS.lg J E aa
   generalize ({ ap with log := am } : Heap) = az at J ⊢
   have J : HS _ _ _ [Z] _ := J
   have ay := OS.len' O
   refine wf_nil ?_
   refine wk_foc 2 rfl ?_
   refine wr 1 [] 9 9 [32] [(9, (.int .i64 ((k : Int) + 1)))] (vA (vi (n := (k : Int) + 1) (by first | omega | (dsimp only; exact bits_rng _ _ _))) trivial) (by kernel_rfl) rfl fun _ => ?_
   refine ae _ _ _ ?_ ⟨w.set k ⟨bitsOf .or .u64 (w.getD k default).n (t.getD k default).n⟩, k + 1, true, Z, _, (T), J, O, (agC rfl (agC rfl (agC rfl (agC rfl (agC rfl (agC rfl agN)))))), rfl, (by first | exact uniB_or hu (by omega) (by assumption) (by assumption) | exact uniB_same hu (by assumption) (by assumption) (by assumption)), (by first | assumption | omega | (simp at *; omega)), (by first | assumption | (intro h; cases h; done)), (by first | assumption | (intro _; exact uniB_new hu (by assumption) (by assumption) (by assumption)))⟩
   omega
  ·
   have U := N
   try simp only [BS] at U
   refine wr 1 [] 9 9 [32] [(9, (.int .i64 ((k : Int) + 1)))] (vA (vi (n := (k : Int) + 1) (by first | omega | (dsimp only; exact bits_rng _ _ _))) trivial) (by kernel_rfl) rfl fun _ => ?_
   refine ae _ _ _ ?_ ⟨w, k + 1, m, I, _, (T), E, A, (agC rfl (agC rfl (agC rfl (agC rfl (agC rfl (agC rfl agN)))))), rfl, (by first | exact uniB_or hu (by omega) (by assumption) (by assumption) | exact uniB_same hu (by assumption) (by assumption) (by assumption)), (by first | assumption | omega | (simp at *; omega)), (by first | assumption | (intro h; cases h; done)), (by first | assumption | (intro _; exact uniB_new hu (by assumption) (by assumption) (by assumption)))⟩
   omega
 ·
  have c6 := V
  try simp only [BS] at c6
  refine wr 1 [] 4 4 [33] [(4, (.bool m))] trivial (by kernel_rfl) rfl fun _ => ?_
  refine wk_ret ⟨.inr rfl, _, rfl, m, w, I, _, (T), (HS.first E), rfl, A, (by exact hu.1), (by exact uniB_all hu (by omega) hl), (by exact au), (by exact av)⟩
theorem list_c (ex : FuncId) {a_z : Option Addr} {n_z k_z : Nat} (z : List U64) {F : Fz} {H : Heap} {R : List Fp} (hs : HS (.of H []) F H [] R) (hz : SR F (.slice a_z n_z k_z) z) (hT : TB 37 tabC F) (hsl : z.length ≤ 100000) : C Tryd.prog 1 (KT 60 ex 37 tabC) 112 [(.slice a_z n_z k_z)] H fun v H' => ∃ (ar : Option Addr) (kr : Nat) (r : List Int) (p : Fp) (F' : Fz), Fz.le F F' ∧ HS (.of H []) F' H' [p] R ∧ v = .slice ar r.length kr ∧ OS F' (.slice ar r.length kr) r p ∧ r = lstV z := by
 have ln_z := SR.len' hz
 refine c_enter Tryd.func112 rfl rfl ?_
 refine wk_foc 1 rfl ?_
 refine wr 2 [] 2 2 [] [(2, (.slice none 0 0))] trivial (by kernel_rfl) rfl fun _ => ?_
 refine wr 3 [] 1 0 [3] [(3, (.slice none 0 0))] trivial (by kernel_rfl) rfl fun _ => ?_
 refine wr 2 [] 6 8 [] [(7, (.int .i64 (n_z : Int))), (8, (.int .i64 0))] trivial (by kernel_rfl) rfl fun _ => ?_
 have an := HS.snoc hs
 have an : HS _ _ _ [[]] _ := an
 refine wk_loop_inv (fun (mm : Nat) f H' => ∃ (o : List Int) (k : Nat) (J : Option Addr) (N : Nat) (T : Fp) (F' : Fz), Fz.le F F' ∧ HS (Base.of H []) F' H' [T] R ∧ OS F' (.slice J o.length N) o T ∧ agrees f [(0, (.slice a_z n_z k_z)), (2, (.slice none 0 0)), (3, (.slice J o.length N)), (7, (.int .i64 (n_z : Int))), (8, (.int .i64 (k : Int)))] ∧ mm = z.length - k ∧ (o = lstK z (64 * k)) ∧ (k ≤ z.length)) _ ⟨([] : List Int), 0, none, 0, [], _, (Fz.le_refl _), an, (OS.nil : OS F (.slice none 0 0) ([] : List Int) []), (agC rfl (agC rfl (agC rfl (agC rfl (agC rfl agN))))), rfl, (by rfl), (by first | assumption | omega | (simp at *; omega))⟩ ?_
 rintro aT f4 H4 ⟨o, k, J, N, T, F4, al, ax, ah, aw, rfl, ho, hk⟩ aD
 refine wk_canon _ aw (fun _ => ?_)
 clear aw
 replace hz := hz.mono al
 refine wk_foc 1 rfl ?_
 refine wr 2 [] 9 9 [] [(9, (.bool (decide ((k : Int) < (n_z : Int)))))] trivial (by kernel_rfl) rfl fun _ => ?_
 refine wk_if 4 5 (v := (decide ((k : Int) < (n_z : Int)))) rfl rfl rfl rfl (fun ak => ?_) (fun ak => ?_)
 ·
  have c7 := ak
  try simp only [BS] at c7
  refine wr 2 [] 10 10 [4] [(4, (.int .i64 (k : Int)))] trivial (by kernel_rfl) rfl fun _ => ?_
  refine wr 2 [] 1 0 [5] [(5, (.int .i64 0))] trivial (by kernel_rfl) rfl fun _ => ?_
  refine wk_loop_inv (fun (mm : Nat) f H' => ∃ (V : List Int) (b : Nat) (A : Option Addr) (E : Nat) (I : Fp) (F' : Fz), Fz.le F4 F' ∧ HS (Base.of H []) F' H' [I] R ∧ OS F' (.slice A V.length E) V I ∧ agrees f [(0, (.slice a_z n_z k_z)), (2, (.slice none 0 0)), (3, (.slice A V.length E)), (4, (.int .i64 (k : Int))), (5, (.int .i64 (b : Int))), (7, (.int .i64 (n_z : Int))), (8, (.int .i64 (k : Int))), (9, (.bool (decide ((k : Int) < (n_z : Int)))))] ∧ mm = 64 - b ∧ (V = lstK z (64 * k + b)) ∧ (b ≤ 64)) _ ⟨o, 0, J, N, T, _, (Fz.le_refl _), ax, ah, (agC rfl (agC rfl (agC rfl (agC rfl (agC rfl (agC rfl (agC rfl (agC rfl agN)))))))), rfl, (by exact ho), (by first | assumption | omega | (simp at *; omega))⟩ ?_
  rintro aJ aP aL ⟨V, b, A, E, I, aK, Z, O, U, am, rfl, Y, hb⟩ au
  refine wk_canon _ am (fun _ => ?_)
  clear am
  replace hz := hz.mono Z
  have hol : V.length ≤ 64 * k + b := by rw [Y]; exact lstK_len
  refine wk_foc 2 rfl ?_
  obtain ⟨aG, ap⟩ := Sv.view (SR.sv hz O)
  have aQ := fU (ap k)
  refine wr 1 [(3, .o (.int .u64 (z.getD k default).n))] 11 18 [] [(18, (.bool (Int.fdiv (z.getD k default).n (2 ^ (Nat.min b 64)) != 0)))] (vA (Sv.ix (j := (k : Int)) (SR.sv hz O) (by first | omega | exact shr_rng (by assumption) (by omega)) (by first | omega | exact shr_rng (by assumption) (by omega))) (vA (ql 87 0 (vU (ap k) (by first | omega | exact shr_rng (by assumption) (by omega))) rfl rfl) (vA (vu (n := (b : Int)) (by first | omega | exact shr_rng (by assumption) (by omega))) (vA (show (0 : Int) ≤ (b : Int) from by first | omega | exact shr_rng (by assumption) (by omega)) trivial)))) (by kernel_rfl) rfl fun _ => ?_
  refine wk_if 4 5 (v := (Int.fdiv (z.getD k default).n (2 ^ (Nat.min b 64)) != 0)) rfl rfl rfl rfl (fun ab => ?_) (fun ab => ?_)
  ·
   have ag := ab
   try simp only [BS] at ag
   have aI := list_lt (by assumption) hb ag
   obtain ⟨aH, aq⟩ := Sv.view (SR.sv hz O)
   have aR := fU (aq k)
   refine wr 1 [(3, .o (.int .u64 (z.getD k default).n))] 21 29 [] [(29, (.bool (bitsOf .and .u64 (Int.fdiv (z.getD k default).n (2 ^ (Nat.min b 64))) 1 == 1)))] (vA (Sv.ix (j := (k : Int)) (SR.sv hz O) (by first | omega | exact shr_rng (by assumption) (by omega)) (by first | omega | exact shr_rng (by assumption) (by omega))) (vA (ql 87 0 (vU (aq k) (by first | omega | exact shr_rng (by assumption) (by omega))) rfl rfl) (vA (vu (n := (b : Int)) (by first | omega | exact shr_rng (by assumption) (by omega))) (vA (show (0 : Int) ≤ (b : Int) from by first | omega | exact shr_rng (by assumption) (by omega)) trivial)))) (by kernel_rfl) rfl fun _ => ?_
   refine wk_if 0 2 (v := (bitsOf .and .u64 (Int.fdiv (z.getD k default).n (2 ^ (Nat.min b 64))) 1 == 1)) rfl rfl rfl rfl (fun ad => ?_) (fun ad => ?_)
   ·
    have aj := ad
    try simp only [BS] at aj
    refine wk_region ?_
    refine wro 5 0 [] 30 34 [] [(30, (.slice A V.length E)), (34, (.int .i64 ((64 * (k : Int)) + (b : Int))))] (vA (vi (n := 64 * (k : Int)) (by first | omega | exact shr_rng (by assumption) (by omega))) (vA (vi (n := (64 * (k : Int)) + (b : Int)) (by first | omega | exact shr_rng (by assumption) (by omega))) trivial)) (by kernel_rfl) rfl fun _ => ?_
    refine wo_rs (rs_lit (α := Int) (ps := [(0, (.int .i64 ((64 * (k : Int)) + (b : Int))))]) (cells := [(.int .i64 ((64 * (k : Int)) + (b : Int)))]) ([(64 * (k : Int)) + (b : Int)] : List Int) O rfl rfl rfl (by kernel_rfl) ⟨[(.int .i64 ((64 * (k : Int)) + (b : Int)))], [], rfl, ⟨rfl, by first | omega | exact shr_rng (by assumption) (by omega)⟩, rfl⟩ rfl) rfl rfl ?_
    rintro _ aM aE ⟨aO, aS, rfl, aB, aa, _⟩
    have aa : HS _ _ _ [I, aE] _ := aa
    refine wo_rs (rs_app (α := Int) (q := 0) U aa rfl rfl rfl (OS.sv aB aa (i := 1) rfl) rfl rfl rfl rfl rfl rfl rfl (by first | omega | (simp only [List.length_append, List.length_cons, List.length_nil]; omega))) rfl rfl ?_
    rintro _ aN az ⟨av, ay, rfl, aC, ae, _⟩
    have ae : HS _ _ _ [az, _] _ := ae
    refine wa (.slice av (V ++ ([(64 * (k : Int)) + (b : Int)] : List Int)).length ay) rfl rfl rfl ?_
    refine wo_end 2 rfl ?_
    refine wr 1 [] 19 20 [5] [(5, (.int .i64 ((b : Int) + 1)))] (vA (vi (n := (b : Int) + 1) (by first | omega | exact shr_rng (by assumption) (by omega))) trivial) (by kernel_rfl) rfl fun _ => ?_
    refine au _ _ _ ?_ ⟨V ++ ([(64 * (k : Int)) + (b : Int)] : List Int), b + 1, av, ay, az, _, (Z), (HS.sub ae (List.sublist_append_left _ _)), aC, (agC rfl (agC rfl (agC rfl (agC rfl (agC rfl (agC rfl (agC rfl (agC rfl agN)))))))), rfl, (by first | exact lst_step1 Y ((list_bit (by assumption) (by omega)).1 (by assumption)) | exact lst_step0 Y (fun hh => absurd ((list_bit (by assumption) (by omega)).2 hh) (by assumption))), (by first | assumption | omega | (simp at *; omega))⟩
    omega
   ·
    have aj := ad
    try simp only [BS] at aj
    refine wr 1 [] 19 20 [5] [(5, (.int .i64 ((b : Int) + 1)))] (vA (vi (n := (b : Int) + 1) (by first | omega | exact shr_rng (by assumption) (by omega))) trivial) (by kernel_rfl) rfl fun _ => ?_
    refine au _ _ _ ?_ ⟨V, b + 1, A, E, I, _, (Z), O, U, (agC rfl (agC rfl (agC rfl (agC rfl (agC rfl (agC rfl (agC rfl (agC rfl agN)))))))), rfl, (by first | exact lst_step1 Y ((list_bit (by assumption) (by omega)).1 (by assumption)) | exact lst_step0 Y (fun hh => absurd ((list_bit (by assumption) (by omega)).2 hh) (by assumption))), (by first | assumption | omega | (simp at *; omega))⟩
    omega
  ·
   have ag := ab
   try simp only [BS] at ag
   refine wr 1 [] 8 8 [37] [(8, (.int .i64 ((k : Int) + 1)))] (vA (vi (n := (k : Int) + 1) (by first | omega | exact shr_rng (by assumption) (by omega))) trivial) (by kernel_rfl) rfl fun _ => ?_
   refine aD _ _ _ ?_ ⟨V, k + 1, A, E, I, _, (Fz.le_trans (al) Z), O, U, (agC rfl (agC rfl (agC rfl (agC rfl (agC rfl agN))))), rfl, (by rw [Y]; exact list_stop (by assumption) hb (by assumption)), (by first | assumption | omega | (simp at *; omega))⟩
   omega
 ·
  have c7 := ak
  try simp only [BS] at c7
  refine wr 1 [] 2 2 [38] [(2, (.slice J o.length N))] trivial (by kernel_rfl) rfl fun _ => ?_
  refine wk_ret ⟨.inr rfl, _, rfl, J, N, o, T, _, (al), (HS.only ax (i := 0) rfl), rfl, ah, (by rw [ho]; unfold lstV; congr 1; omega)⟩
theorem addT_c (ex : FuncId) {a_z : Option Addr} {n_z k_z : Nat} {p_z : Fp} (z : List U64) {I : Option Addr} {J : Nat} (b : BlkT) {F : Fz} {H : Heap} {R : List Fp} (hs : HS (.of H (p_z.map Prod.fst)) F H [p_z] R) (hz : OS F (.slice a_z n_z k_z) z p_z) (aa : SR F (.slice I b.ins.length J) b.ins) (ab : in64 b.fin) (ad : in64 b.reg) (ae : in64 b.tgt) (ag : in64 b.els) (hT : TB 37 tabC F) (hb : (b.fin = 2 ∨ b.fin = 3) → 0 ≤ b.reg ∧ b.reg < 64 * (z.length : Int)) (hsl : z.length ≤ 100000) : C Tryd.prog 1 (KT 60 ex 37 tabC) 114 [(.slice a_z n_z k_z), (.agg ⟨[(.slice I b.ins.length J), (.int .i64 b.fin), (.int .i64 b.reg), (.int .i64 b.tgt), (.int .i64 b.els)]⟩)] H fun v H' => ∃ (z' : List U64) (pm : Fp) (F' : Fz), Fz.le F F' ∧ HS (.of H (p_z.map Prod.fst)) F' H' [pm] R ∧ v = .tuple #[] ∧ OS F' (.slice a_z n_z k_z) z' pm ∧ (z'.length = z.length) ∧ (∀ i, bitOf z' i = (bitOf z i || decide ((i : Int) ∈ endV b))) := by
 have lnarg := OS.len' hz
 refine c_enter Tryd.func114 rfl rfl ?_
 refine wk_foc 1 rfl ?_
 refine wk_region ?_
 refine wo_rs (rs_box hs rfl rfl) rfl rfl ?_
 rintro _ H2 _ ⟨Z, rfl, A, _⟩
 have A : HS _ _ _ [p_z, [(Z, .cells [(.slice I b.ins.length J), (.int .i64 b.fin), (.int .i64 b.reg), (.int .i64 b.tgt), (.int .i64 b.els)] none false)]] _ := A
 refine wo_end 2 rfl ?_
 refine wr 1 [(1, .o (.int .i64 b.fin)), (5, .o (.int .i64 b.fin))] 4 11 [] [(11, (.bool ((b.fin == 2) || (b.fin == 3))))] (vA (ql 3 1 (HS.hc A (i := 1) rfl) rfl rfl) (vA (fun (g1 : (b.fin == 2) = false) => (ql 3 1 (HS.hc A (i := 1) rfl) rfl rfl)) trivial)) (by kernel_rfl) rfl fun _ => ?_
 refine wk_if 0 0 (v := ((b.fin == 2) || (b.fin == 3))) rfl rfl rfl rfl (fun N => ?_) (fun N => ?_)
 ·
  have U := N
  try simp only [BS] at U
  have ak := hb (by omega)
  refine wk_region ?_
  refine wro 3 0 [(2, .o (.int .i64 b.reg))] 12 14 [] [(12, (.slice a_z n_z k_z)), (14, (.int .i64 b.reg))] (vA (ql 3 2 (HS.hc A (i := 1) rfl) rfl rfl) trivial) (by kernel_rfl) rfl fun _ => ?_
  refine wo_call (ap_call rfl rfl rfl) rfl rfl (add_c ex z b.reg (HS.callOwn A (i := 0) rfl) hz (by omega) hT (by omega) (by omega)) ?_
  rintro _ H6 ⟨Y, T, F6, V, E, rfl, O, ah, aj⟩
  replace E := HS.backOwn A (i := 0) rfl rfl (fun _ hb => hb) E
  have E : HS _ _ _ [T, _] _ := E
  have al := OS.len' O
  refine wo_end 0 rfl ?_
  refine wk_skip_nil ⟨.inl rfl, _, rfl, Y, T, _, (V), (HS.first E), rfl, O, (by first | rfl | assumption), (by first | exact end_ok (.inl ⟨by omega, by omega, by assumption⟩) | exact end_ok (.inr ⟨by omega, rfl⟩))⟩
 ·
  have U := N
  try simp only [BS] at U
  refine wk_skip_nil ⟨.inl rfl, _, rfl, z, p_z, _, (Fz.le_refl _), (HS.first A), rfl, hz, (by first | rfl | assumption), (by first | exact end_ok (.inl ⟨by omega, by omega, by assumption⟩) | exact end_ok (.inr ⟨by omega, rfl⟩))⟩
theorem transfer_c (ex : FuncId) {a_z : Option Addr} {n_z k_z : Nat} {p_z : Fp} (z : List U64) {A : Option Addr} {E : Nat} (iv : VInT) {F : Fz} {H : Heap} {R : List Fp} (hs : HS (.of H (p_z.map Prod.fst)) F H [p_z] R) (hz : OS F (.slice a_z n_z k_z) z p_z) (aT : in64 iv.i.op) (aU : in64 iv.i.a) (aV : in64 iv.i.b) (aW : in64 iv.i.c) (aX : in64 iv.i.n) (O : SR F (.slice A iv.args.length E) iv.args) (hT : TB 37 tabC F) (hr : ∀ x ∈ readsV iv, 0 ≤ x ∧ x < 64 * (z.length : Int)) (hw : ∀ x ∈ writesV iv, 0 ≤ x ∧ x < 64 * (z.length : Int)) (hlen : iv.args.length ≤ 1048576) (hsl : z.length ≤ 100000) : C Tryd.prog 1 (KT 60 ex 37 tabC) 118 [(.slice a_z n_z k_z), (.agg ⟨[(.int .i64 iv.i.op), (.int .i64 iv.i.a), (.int .i64 iv.i.b), (.int .i64 iv.i.c), (.int .i64 iv.i.n), (.slice A iv.args.length E)]⟩)] H fun v H' => ∃ (z' : List U64) (pm : Fp) (F' : Fz), Fz.le F F' ∧ HS (.of H (p_z.map Prod.fst)) F' H' [pm] R ∧ v = .tuple #[] ∧ OS F' (.slice a_z n_z k_z) z' pm ∧ (z'.length = z.length) ∧ (∀ i, bitOf z' i = ((bitOf z i && !decide ((i : Int) ∈ writesV iv)) || decide ((i : Int) ∈ readsV iv))) := by
 have lnarg := OS.len' hz
 have hwl := writes_len (v := iv)
 have hrl := reads_len (v := iv)
 refine c_enter Tryd.func118 rfl rfl ?_
 refine wk_foc 1 rfl ?_
 refine wk_region ?_
 refine wo_rs (rs_box hs rfl rfl) rfl rfl ?_
 rintro _ H2 _ ⟨b1, rfl, ah, _⟩
 have ah : HS _ _ _ [p_z, [(b1, .cells [(.int .i64 iv.i.op), (.int .i64 iv.i.a), (.int .i64 iv.i.b), (.int .i64 iv.i.c), (.int .i64 iv.i.n), (.slice A iv.args.length E)] none false)]] _ := ah
 refine wo_end 3 rfl ?_
 refine wk_region ?_
 refine wro 1 0 [(0, .o (.agg ⟨[(.int .i64 iv.i.op), (.int .i64 iv.i.a), (.int .i64 iv.i.b), (.int .i64 iv.i.c), (.int .i64 iv.i.n), (.slice A iv.args.length E)]⟩))] 8 8 [] [(8, (.agg ⟨[(.int .i64 iv.i.op), (.int .i64 iv.i.a), (.int .i64 iv.i.b), (.int .i64 iv.i.c), (.int .i64 iv.i.n), (.slice A iv.args.length E)]⟩))] (vA (qn 52 0 6 (HS.hc ah (i := 1) rfl) rfl rfl rfl rfl) trivial) (by kernel_rfl) rfl fun _ => ?_
 refine wo_call (ap_call rfl rfl rfl) rfl rfl (ma.vwrites_c ex iv (HS.call ah) (by omega) (by omega) (by omega) (by omega) (by omega) O hT) ?_
 rintro _ H4 ⟨aO, aS, r4, p4, F4, am, aj, rfl, ae, rfl⟩
 replace aj := HS.back ah rfl aj
 have aj : HS _ _ _ [_, _, p4] _ := aj
 replace hz := hz.mono am
 refine wro 2 2 [] 10 11 [] [(10, (.int .i64 ((writesV iv).length : Int))), (11, (.int .i64 0))] trivial (by kernel_rfl) rfl fun _ => ?_
 refine wo_end 2 rfl ?_
 refine wk_loop_inv (fun (mm : Nat) f H' => ∃ (w : List U64) (k : Nat) (N : Fp) (F' : Fz), Fz.le F4 F' ∧ HS (Base.of H (p_z.map Prod.fst)) F' H' [N, [(b1, .cells [(.int .i64 iv.i.op), (.int .i64 iv.i.a), (.int .i64 iv.i.b), (.int .i64 iv.i.c), (.int .i64 iv.i.n), (.slice A iv.args.length E)] none false)], p4] R ∧ OS F' (.slice a_z n_z k_z) w N ∧ agrees f [(0, (.slice a_z n_z k_z)), (3, (.pointer (some ⟨b1, 0, none⟩))), (9, (.slice aO (writesV iv).length aS)), (10, (.int .i64 ((writesV iv).length : Int))), (11, (.int .i64 (k : Int)))] ∧ mm = (writesV iv).length - k ∧ (w.length = z.length) ∧ (∀ i, bitOf w i = (bitOf z i && !decide ((i : Int) ∈ (writesV iv).take k))) ∧ (k ≤ (writesV iv).length)) _ ⟨z, 0, p_z, _, (Fz.le_refl _), aj, hz, (agC rfl (agC rfl (agC rfl (agC rfl (agC rfl agN))))), rfl, (by rfl), (by intro i; simp), (by first | assumption | omega | (simp at *; omega))⟩ ?_
 rintro bj f6 H6 ⟨w, k, N, F6, ag, aa, I, az, rfl, g1, g2, g3⟩ aR
 refine wk_canon _ az (fun _ => ?_)
 clear az
 replace hT := (hT.mono am).mono ag
 replace O := (O.mono am).mono ag
 replace ae := ae.mono ag
 have aM := OS.len' I
 refine wk_foc 1 rfl ?_
 refine wr 2 [] 12 12 [] [(12, (.bool (decide ((k : Int) < ((writesV iv).length : Int)))))] trivial (by kernel_rfl) rfl fun _ => ?_
 refine wk_if 4 5 (v := (decide ((k : Int) < ((writesV iv).length : Int)))) rfl rfl rfl rfl (fun ap => ?_) (fun ap => ?_)
 ·
  have c8 := ap
  try simp only [BS] at c8
  have hlw := lim_at hw (by omega : k < (writesV iv).length)
  obtain ⟨be, aA⟩ := Sv.view (OS.sv ae aa (i := 2) rfl)
  have bg := fI (aA k)
  refine wr 1 [(1, .o (.int .i64 ((writesV iv).getD k 0)))] 13 14 [5] [(5, (.int .i64 ((writesV iv).getD k 0)))] (vA (Sv.ix (j := (k : Int)) (OS.sv ae aa (i := 2) rfl) (by omega) (by omega)) (vA (ql 3 0 (vI (aA k) (by omega)) rfl rfl) trivial)) (by kernel_rfl) rfl fun _ => ?_
  refine wk_region ?_
  refine wro 2 0 [] 15 16 [] [(15, (.slice a_z n_z k_z)), (16, (.int .i64 ((writesV iv).getD k 0)))] trivial (by kernel_rfl) rfl fun _ => ?_
  refine wo_call (ap_call rfl rfl rfl) rfl rfl (rem_c ex w ((writesV iv).getD k 0) (HS.callOwn aa (i := 0) rfl) I (by omega) hT (by omega) (by omega)) ?_
  rintro _ ba ⟨aK, aw, a7, aE, U, rfl, ar, a0, a2⟩
  replace U := HS.backOwn aa (i := 0) rfl rfl (fun _ hb => hb) U
  have U : HS _ _ _ [aw, _, _] _ := U
  have a4 := OS.len' ar
  refine wo_end 2 rfl ?_
  refine wr 1 [] 11 11 [18] [(11, (.int .i64 ((k : Int) + 1)))] (vA (vi (n := (k : Int) + 1) (by omega)) trivial) (by kernel_rfl) rfl fun _ => ?_
  refine aR _ _ _ ?_ ⟨aK, k + 1, aw, _, (Fz.le_trans (ag) aE), U, ar, (agC rfl (agC rfl (agC rfl (agC rfl (agC rfl agN))))), rfl, (by omega), (by exact rem_step (by omega) g2 (lim_at hw (by omega)).1 (by assumption)), (by first | assumption | omega | (simp at *; omega))⟩
  omega
 ·
  have c8 := ap
  try simp only [BS] at c8
  refine wk_region ?_
  refine wro 1 0 [(0, .o (.agg ⟨[(.int .i64 iv.i.op), (.int .i64 iv.i.a), (.int .i64 iv.i.b), (.int .i64 iv.i.c), (.int .i64 iv.i.n), (.slice A iv.args.length E)]⟩))] 19 19 [] [(19, (.agg ⟨[(.int .i64 iv.i.op), (.int .i64 iv.i.a), (.int .i64 iv.i.b), (.int .i64 iv.i.c), (.int .i64 iv.i.n), (.slice A iv.args.length E)]⟩))] (vA (qn 52 0 6 (HS.hc aa (i := 1) rfl) rfl rfl rfl rfl) trivial) (by kernel_rfl) rfl fun _ => ?_
  refine wo_call (ap_call rfl rfl rfl) rfl rfl (ma.vreads_c ex iv (HS.call aa) (by omega) (by omega) (by omega) (by omega) (by omega) O hT (by omega)) ?_
  rintro _ bb ⟨aC, aH, bk, aB, aN, al, V, rfl, T, rfl⟩
  replace V := HS.back aa rfl V
  have V : HS _ _ _ [N, _, _, aB] _ := V
  replace I := I.mono al
  refine wro 2 2 [] 21 22 [] [(21, (.int .i64 ((readsV iv).length : Int))), (22, (.int .i64 0))] trivial (by kernel_rfl) rfl fun _ => ?_
  refine wo_end 2 rfl ?_
  refine wk_loop_inv (fun (mm : Nat) f H' => ∃ (u : List U64) (q : Nat) (J : Fp) (F' : Fz), Fz.le aN F' ∧ HS (Base.of H (p_z.map Prod.fst)) F' H' [J, [(b1, .cells [(.int .i64 iv.i.op), (.int .i64 iv.i.a), (.int .i64 iv.i.b), (.int .i64 iv.i.c), (.int .i64 iv.i.n), (.slice A iv.args.length E)] none false)], p4, aB] R ∧ OS F' (.slice a_z n_z k_z) u J ∧ agrees f [(0, (.slice a_z n_z k_z)), (20, (.slice aC (readsV iv).length aH)), (21, (.int .i64 ((readsV iv).length : Int))), (22, (.int .i64 (q : Int)))] ∧ mm = (readsV iv).length - q ∧ (u.length = z.length) ∧ (∀ i, bitOf u i = (bitOf w i || decide ((i : Int) ∈ (readsV iv).take q))) ∧ (q ≤ (readsV iv).length)) _ ⟨w, 0, N, _, (Fz.le_refl _), V, I, (agC rfl (agC rfl (agC rfl (agC rfl agN)))), rfl, (by first | assumption | omega | (simp at *; omega)), (by intro i; simp), (by first | assumption | omega | (simp at *; omega))⟩ ?_
  rintro a6 bf bc ⟨u, q, J, a8, ad, Y, ab, aq, rfl, g4, g5, g6⟩ aG
  refine wk_canon _ aq (fun _ => ?_)
  clear aq
  replace hT := (hT.mono al).mono ad
  replace T := T.mono ad
  have aI := OS.len' ab
  refine wk_foc 1 rfl ?_
  refine wr 2 [] 23 23 [] [(23, (.bool (decide ((q : Int) < ((readsV iv).length : Int)))))] trivial (by kernel_rfl) rfl fun _ => ?_
  refine wk_if 4 3 (v := (decide ((q : Int) < ((readsV iv).length : Int)))) rfl rfl rfl rfl (fun ak => ?_) (fun ak => ?_)
  ·
   have an := ak
   try simp only [BS] at an
   have hlr := lim_at hr (by omega : q < (readsV iv).length)
   obtain ⟨aZ, av⟩ := Sv.view (OS.sv T Y (i := 3) rfl)
   have bh := fI (av q)
   refine wr 1 [(1, .o (.int .i64 ((readsV iv).getD q 0)))] 24 25 [7] [(7, (.int .i64 ((readsV iv).getD q 0)))] (vA (Sv.ix (j := (q : Int)) (OS.sv T Y (i := 3) rfl) (by omega) (by omega)) (vA (ql 3 0 (vI (av q) (by omega)) rfl rfl) trivial)) (by kernel_rfl) rfl fun _ => ?_
   refine wk_region ?_
   refine wro 2 0 [] 26 27 [] [(26, (.slice a_z n_z k_z)), (27, (.int .i64 ((readsV iv).getD q 0)))] trivial (by kernel_rfl) rfl fun _ => ?_
   refine wo_call (ap_call rfl rfl rfl) rfl rfl (add_c ex u ((readsV iv).getD q 0) (HS.callOwn Y (i := 0) rfl) ab (by omega) hT (by omega) (by omega)) ?_
   rintro _ bd ⟨aL, ax, a9, aF, Z, rfl, au, a1, a3⟩
   replace Z := HS.backOwn Y (i := 0) rfl rfl (fun _ hb => hb) Z
   have Z : HS _ _ _ [ax, _, _, _] _ := Z
   have a5 := OS.len' au
   refine wo_end 2 rfl ?_
   refine wr 1 [] 22 22 [29] [(22, (.int .i64 ((q : Int) + 1)))] (vA (vi (n := (q : Int) + 1) (by omega)) trivial) (by kernel_rfl) rfl fun _ => ?_
   refine aG _ _ _ ?_ ⟨aL, q + 1, ax, _, (Fz.le_trans (ad) aF), Z, au, (agC rfl (agC rfl (agC rfl (agC rfl agN)))), rfl, (by omega), (by exact add_step (by omega) g5 (lim_at hr (by omega)).1 (by assumption)), (by first | assumption | omega | (simp at *; omega))⟩
   omega
  ·
   have an := ak
   try simp only [BS] at an
   refine wk_skip_nil ⟨.inl rfl, _, rfl, u, J, _, (Fz.le_trans (Fz.le_trans (Fz.le_trans (am) ag) al) ad), (HS.first Y), rfl, ab, (by omega), (by exact tr_done (fun i => by rw [g2 i, List.take_of_length_le (by omega)]) (fun i => by rw [g5 i, List.take_of_length_le (by omega)]))⟩
end Go.Proofs.YtknafdcgpaejlaaDoor.mb
