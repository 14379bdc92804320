/-
  Live registers: the program, function by function, each by a symbolic run. No condition but that the function is valid.
-/
import Derived.Test.YtlabedbmgmfbaaaDoorML
noncomputable section
namespace Go.Proofs.YtlabedbmgmfbaaaDoor.mb
open Go.R
set_option maxRecDepth 10000
set_option linter.unusedVariables false
theorem ql {H : Heap} {b o : Nat} {cs : List Value} {w : Value} (t : TypeId) (i : Nat) (hc : HC H.get b o cs) (ha : aggOf Tryd.prog t = some false) (hv : cs[i]? = some w) : LDv Tryd.prog H t (.pointer (some ⟨b, o + i, none⟩)) w := ld1 hc ha hv
theorem qn {H : Heap} {b o : Nat} {cs l : List Value} (t : TypeId) (i n : Nat) (hc : HC H.get b o cs) (ha : aggOf Tryd.prog t = some true) (hs : szOf Tryd.prog t = some n) (hn : Nat.ble (i + n) cs.length = true) (hl : takeL (dropL cs i) n = l) : LDv Tryd.prog H t (.pointer (some ⟨b, o + i, none⟩)) (.agg ⟨l⟩) := ldN hc ha hs hn hl
open m1 m2 m3 m4 m5 m6 ma ml
theorem lst_step1 {s : List U64} {o : List Int} {k b : Nat} (ho : o = lstK s (64 * k + b)) (h : bitOf s (64 * k + b) = true) : o ++ ([64 * (k : Int) + (b : Int)] : List Int) = lstK s (64 * k + (b + 1)) := by
  rw [show 64 * k + (b + 1) = (64 * k + b) + 1 by omega, lstK_succ, if_pos h, ← ho]; simp
theorem lst_step0 {s : List U64} {o : List Int} {k b : Nat} (ho : o = lstK s (64 * k + b)) (h : ¬ bitOf s (64 * k + b) = true) : o = lstK s (64 * k + (b + 1)) := by
  rw [show 64 * k + (b + 1) = (64 * k + b) + 1 by omega, lstK_succ, if_neg h, ← ho]; simp
theorem end_ok {s s' : List U64} {b : BlkT} (h : ((b.fin = 2 ∨ b.fin = 3) ∧ 0 ≤ b.reg ∧ ∀ i, bitOf s' i = (bitOf s i || decide (i = b.reg.toNat))) ∨ (¬ (b.fin = 2 ∨ b.fin = 3) ∧ s' = s)) (i : Nat) : bitOf s' i = (bitOf s i || decide ((i : Int) ∈ endV b)) := by
  unfold endV
  rcases h with ⟨h1, h2, h3⟩ | ⟨h1, rfl⟩
  · rw [if_pos h1, h3]; congr 1; rw [decide_eq_decide, List.mem_singleton]; omega
  · rw [if_neg h1]; simp
theorem rem_step {s w w' : List U64} {l : List Int} {k : Nat} (hk : k < l.length) (h : ∀ i, bitOf w i = (bitOf s i && !decide ((i : Int) ∈ l.take k))) (h0 : 0 ≤ l.getD k 0) (h2 : ∀ i, bitOf w' i = (bitOf w i && !decide (i = (l.getD k 0).toNat))) (i : Nat) : bitOf w' i = (bitOf s i && !decide ((i : Int) ∈ l.take (k + 1))) := by
  rw [h2, h, take_snoc hk (d := 0), Bool.and_assoc]
  congr 1
  rw [Bool.eq_iff_iff]
  simp only [Bool.and_eq_true, Bool.not_eq_true', decide_eq_false_iff_not, List.mem_append, List.mem_singleton]
  constructor
  · rintro ⟨h3, h4⟩ (h5 | h5)
    · exact h3 h5
    · omega
  · intro h3; exact ⟨fun h5 => h3 (.inl h5), fun h5 => h3 (.inr (by omega))⟩
theorem add_step {s w w' : List U64} {l : List Int} {k : Nat} (hk : k < l.length) (h : ∀ i, bitOf w i = (bitOf s i || decide ((i : Int) ∈ l.take k))) (h0 : 0 ≤ l.getD k 0) (h2 : ∀ i, bitOf w' i = (bitOf w i || decide (i = (l.getD k 0).toNat))) (i : Nat) : bitOf w' i = (bitOf s i || decide ((i : Int) ∈ l.take (k + 1))) := by
  rw [h2, h, take_snoc hk (d := 0), Bool.or_assoc]
  congr 1
  rw [Bool.eq_iff_iff]
  simp only [Bool.or_eq_true, decide_eq_true_eq, List.mem_append, List.mem_singleton]
  constructor
  · rintro (h3 | h3)
    · exact .inl h3
    · exact .inr (by omega)
  · rintro (h3 | h3)
    · exact .inl h3
    · exact .inr (by omega)
theorem lim_at {l : List Int} {m : Int} (h : ∀ x ∈ l, 0 ≤ x ∧ x < m) {k : Nat} (hk : k < l.length) : 0 ≤ l.getD k 0 ∧ l.getD k 0 < m := by
  rw [List.getD_eq_getElem?_getD, List.getElem?_eq_getElem hk]; exact h _ (List.getElem_mem hk)
theorem writes_len {v : VInT} : (writesV v).length ≤ 1 := by unfold writesV; split <;> simp
theorem reads_len {v : VInT} : (readsV v).length ≤ 3 + v.args.length := by
  unfold readsV
  split
  · refine Nat.le_trans uni_len ?_
    unfold readsL
    simp only [List.length_append, List.length_nil]
    have h1 := one_len (a := v.i.a) (p := (infV v.i.op).ra = true)
    have h2 := one_len (a := v.i.b) (p := (infV v.i.op).rb = true)
    have h3 := one_len (a := v.i.c) (p := v.i.op = 11 ∨ v.i.op = 12)
    have h4 : (if v.i.op = 6 then v.args else []).length ≤ v.args.length := by split <;> first | exact Nat.le_refl _ | exact Nat.zero_le _
    omega
  · exact Nat.zero_le _
theorem tr_done {s w v' : List U64} {iv : VInT} (h1 : ∀ i, bitOf w i = (bitOf s i && !decide ((i : Int) ∈ writesV iv))) (h2 : ∀ i, bitOf v' i = (bitOf w i || decide ((i : Int) ∈ readsV iv))) (i : Nat) : bitOf v' i = ((bitOf s i && !decide ((i : Int) ∈ writesV iv)) || decide ((i : Int) ∈ readsV iv)) := by rw [h2, h1]

theorem empty_c (ex : FuncId) (n : Int) {F : Fz} {H : Heap} {R : List Fp} (hs : HS (.of H []) F H [] R) (hn : in64 n) (hT : TB 37 tabC F) (hn : 0 ≤ n ∧ n ≤ 1000000) : C Tryd.prog 1 (KT 60 ex 37 tabC) 55 [(.int .i64 n)] H fun v H' => ∃ (ar : Option Addr) (kr : Nat) (r : List U64) (p : Fp) (F' : Fz), Fz.le F F' ∧ HS (.of H []) F' H' [p] R ∧ v = .slice ar r.length kr ∧ OS F' (.slice ar r.length kr) r p ∧ r = List.replicate (Int.tdiv (n + 63) 64).toNat (⟨0⟩ : U64) := by
  have hq : Int.tdiv (n + 63) 64 = (n + 63) / 64 := Int.tdiv_eq_ediv_of_nonneg (by omega)
  refine c_enter Tryd.func55 rfl rfl ?_
  refine wk_foc 1 rfl ?_
  refine wr 2 [] 2 2 [] [(2, (.slice none 0 0))] trivial (by kernel_rfl) rfl fun gg1 => ?_
  refine wk_region ?_
  have tq2 : in64 (n + 63) → in64 (Int.tdiv (n + 63) 64) := fun h => vq h (by decide)
  refine wro 3 0 [] 3 5 [] [(5, (.int .i64 (Int.tdiv (n + 63) 64)))] (vA (vi (n := n + 63) (by omega)) (vA (vA (show (64 : Int) ≠ 0 from by decide) (vq (a := n + 63) (b := 64) (by omega) (by decide))) trivial)) (by kernel_rfl) rfl fun gg3 => ?_
  refine wo_rs (rs_make (⟨0⟩ : U64) hs rfl rfl rfl rfl rfl rfl rfl rfl rfl ⟨rfl, by decide⟩ (by omega) (by omega)) rfl rfl ?_
  rintro _ H5 p4 ⟨a4, k4, rfl, ho4, hs5, _⟩
  have hs5 : HS _ _ _ [p4] _ := hs5
  refine wa (.slice a4 (List.replicate ((Int.tdiv (n + 63) 64).toNat) (⟨0⟩ : U64)).length k4) rfl rfl rfl ?_
  refine wo_end 1 rfl ?_
  refine wk_ret ⟨.inr rfl, _, rfl, a4, k4, List.replicate ((Int.tdiv (n + 63) 64).toNat) (⟨0⟩ : U64), p4, _, (Fz.le_refl _), (HS.only hs5 (i := 0) rfl), rfl, ho4, (by first | rfl | omega | simp_all)⟩

theorem add_c (ex : FuncId) {a_z : Option Addr} {n_z k_z : Nat} {p_z : Fp} (z : List U64) (n : Int) {F : Fz} {H : Heap} {R : List Fp} (hs : HS (.of H (p_z.map Prod.fst)) F H [p_z] R) (hz : OS F (.slice a_z n_z k_z) z p_z) (hn : in64 n) (hT : TB 37 tabC F) (hn : 0 ≤ n ∧ n < 64 * (z.length : Int)) (hsl : z.length ≤ 100000) : C Tryd.prog 1 (KT 60 ex 37 tabC) 58 [(.slice a_z n_z k_z), (.int .i64 n)] H fun v H' => ∃ (z' : List U64) (pm : Fp) (F' : Fz), Fz.le F F' ∧ HS (.of H (p_z.map Prod.fst)) F' H' [pm] R ∧ v = .tuple #[] ∧ OS F' (.slice a_z n_z k_z) z' pm ∧ (z'.length = z.length) ∧ (∀ i, bitOf z' i = (bitOf z i || decide (i = n.toNat))) := by
  have lnarg := OS.len' hz
  have hq := n64 hn
  refine c_enter Tryd.func58 rfl rfl ?_
  refine wk_region ?_
  have tq1 : in64 n → in64 (Int.tdiv n 64) := fun h => vq h (by decide)
  obtain ⟨cf2, hv2⟩ := Sv.view (OS.sv hz hs (i := 0) rfl)
  have g3 := fU (hv2 ((Int.tdiv n 64).toNat))
  refine wro 11 0 [(4, .o (.int .u64 ((z.getD ((Int.tdiv n 64).toNat) default).n)))] 4 14 [] [(13, (.int .u64 (bitsOf .or .u64 ((z.getD ((Int.tdiv n 64).toNat) default).n) (IntKind.u64.wrap (1 * 2 ^ (Nat.min (Int.tmod n 64).toNat 64)))))), (14, (.pointer (some ⟨sB (.slice a_z n_z k_z), sO (.slice a_z n_z k_z) + ((Int.tdiv n 64).toNat) * Rp.sz U64, none⟩)))] (vA (vA (show (64 : Int) ≠ 0 from by decide) (vq (a := n) (b := 64) (by first | omega | (dsimp only; exact bits_rng _ _ _)) (by decide))) (vA (Sv.ix (j := Int.tdiv n 64) (OS.sv hz hs (i := 0) rfl) (by first | omega | (dsimp only; exact bits_rng _ _ _)) (by first | omega | (dsimp only; exact bits_rng _ _ _))) (vA (ql 117 0 (vU (hv2 ((Int.tdiv n 64).toNat)) (by first | omega | (dsimp only; exact bits_rng _ _ _))) rfl rfl) (vA (show (64 : Int) ≠ 0 from by decide) (vA (vu (n := Int.tmod n 64) (by first | omega | (dsimp only; exact bits_rng _ _ _))) (vA (show (0 : Int) ≤ Int.tmod n 64 from by first | omega | (dsimp only; exact bits_rng _ _ _)) (vA (Sv.ix (j := Int.tdiv n 64) (OS.sv hz hs (i := 0) rfl) (by first | omega | (dsimp only; exact bits_rng _ _ _)) (by first | omega | (dsimp only; exact bits_rng _ _ _))) trivial))))))) (by kernel_rfl) rfl fun gg4 => ?_
  refine wo_rk (rs_st (α := U64) (j := (Int.tdiv n 64).toNat) (off := 0) (q := 0) ⟨bitsOf .or .u64 ((z.getD ((Int.tdiv n 64).toNat) default).n) (IntKind.u64.wrap (1 * 2 ^ (Nat.min (Int.tmod n 64).toNat 64)))⟩ hz hs rfl rfl rfl rfl rfl rfl rfl rfl (getD_at (x := default) (by first | omega | (dsimp only; exact bits_rng _ _ _))) rfl (by rintro cs ⟨rfl, _⟩; exact ⟨Nat.le_of_ble_eq_true rfl, rfl, by first | omega | (dsimp only; exact bits_rng _ _ _)⟩)) rfl ?_
  rintro _ H7 p5 ⟨ho6, hs7, _⟩
  have hs7 : HS _ _ _ [p5] _ := hs7
  have hnp5 := OS.len' ho6
  refine wo_end 0 rfl ?_
  refine wk_skip_nil ⟨.inl rfl, _, rfl, z.set ((Int.tdiv n 64).toNat) ⟨bitsOf .or .u64 ((z.getD ((Int.tdiv n 64).toNat) default).n) (IntKind.u64.wrap (1 * 2 ^ (Nat.min (Int.tmod n 64).toNat 64)))⟩, p5, _, (Fz.le_refl _), (HS.first hs7), rfl, ho6, (by exact List.length_set), (by exact fun i => add_ok hn (by assumption) i)⟩

theorem rem_c (ex : FuncId) {a_z : Option Addr} {n_z k_z : Nat} {p_z : Fp} (z : List U64) (n : Int) {F : Fz} {H : Heap} {R : List Fp} (hs : HS (.of H (p_z.map Prod.fst)) F H [p_z] R) (hz : OS F (.slice a_z n_z k_z) z p_z) (hn : in64 n) (hT : TB 37 tabC F) (hn : 0 ≤ n ∧ n < 64 * (z.length : Int)) (hsl : z.length ≤ 100000) : C Tryd.prog 1 (KT 60 ex 37 tabC) 57 [(.slice a_z n_z k_z), (.int .i64 n)] H fun v H' => ∃ (z' : List U64) (pm : Fp) (F' : Fz), Fz.le F F' ∧ HS (.of H (p_z.map Prod.fst)) F' H' [pm] R ∧ v = .tuple #[] ∧ OS F' (.slice a_z n_z k_z) z' pm ∧ (z'.length = z.length) ∧ (∀ i, bitOf z' i = (bitOf z i && !decide (i = n.toNat))) := by
  have lnarg := OS.len' hz
  have hq := n64 hn
  refine c_enter Tryd.func57 rfl rfl ?_
  refine wk_region ?_
  have tq1 : in64 n → in64 (Int.tdiv n 64) := fun h => vq h (by decide)
  obtain ⟨cf2, hv2⟩ := Sv.view (OS.sv hz hs (i := 0) rfl)
  have g3 := fU (hv2 ((Int.tdiv n 64).toNat))
  refine wro 11 0 [(4, .o (.int .u64 ((z.getD ((Int.tdiv n 64).toNat) default).n)))] 4 14 [] [(13, (.int .u64 (bitsOf .andNot .u64 ((z.getD ((Int.tdiv n 64).toNat) default).n) (IntKind.u64.wrap (1 * 2 ^ (Nat.min (Int.tmod n 64).toNat 64)))))), (14, (.pointer (some ⟨sB (.slice a_z n_z k_z), sO (.slice a_z n_z k_z) + ((Int.tdiv n 64).toNat) * Rp.sz U64, none⟩)))] (vA (vA (show (64 : Int) ≠ 0 from by decide) (vq (a := n) (b := 64) (by first | omega | (dsimp only; exact bits_rng _ _ _)) (by decide))) (vA (Sv.ix (j := Int.tdiv n 64) (OS.sv hz hs (i := 0) rfl) (by first | omega | (dsimp only; exact bits_rng _ _ _)) (by first | omega | (dsimp only; exact bits_rng _ _ _))) (vA (ql 117 0 (vU (hv2 ((Int.tdiv n 64).toNat)) (by first | omega | (dsimp only; exact bits_rng _ _ _))) rfl rfl) (vA (show (64 : Int) ≠ 0 from by decide) (vA (vu (n := Int.tmod n 64) (by first | omega | (dsimp only; exact bits_rng _ _ _))) (vA (show (0 : Int) ≤ Int.tmod n 64 from by first | omega | (dsimp only; exact bits_rng _ _ _)) (vA (Sv.ix (j := Int.tdiv n 64) (OS.sv hz hs (i := 0) rfl) (by first | omega | (dsimp only; exact bits_rng _ _ _)) (by first | omega | (dsimp only; exact bits_rng _ _ _))) trivial))))))) (by kernel_rfl) rfl fun gg4 => ?_
  refine wo_rk (rs_st (α := U64) (j := (Int.tdiv n 64).toNat) (off := 0) (q := 0) ⟨bitsOf .andNot .u64 ((z.getD ((Int.tdiv n 64).toNat) default).n) (IntKind.u64.wrap (1 * 2 ^ (Nat.min (Int.tmod n 64).toNat 64)))⟩ hz hs rfl rfl rfl rfl rfl rfl rfl rfl (getD_at (x := default) (by first | omega | (dsimp only; exact bits_rng _ _ _))) rfl (by rintro cs ⟨rfl, _⟩; exact ⟨Nat.le_of_ble_eq_true rfl, rfl, by first | omega | (dsimp only; exact bits_rng _ _ _)⟩)) rfl ?_
  rintro _ H7 p5 ⟨ho6, hs7, _⟩
  have hs7 : HS _ _ _ [p5] _ := hs7
  have hnp5 := OS.len' ho6
  refine wo_end 0 rfl ?_
  refine wk_skip_nil ⟨.inl rfl, _, rfl, z.set ((Int.tdiv n 64).toNat) ⟨bitsOf .andNot .u64 ((z.getD ((Int.tdiv n 64).toNat) default).n) (IntKind.u64.wrap (1 * 2 ^ (Nat.min (Int.tmod n 64).toNat 64)))⟩, p5, _, (Fz.le_refl _), (HS.first hs7), rfl, ho6, (by exact List.length_set), (by exact fun i => rem_ok hn (by assumption) i)⟩

theorem union_c (ex : FuncId) {a_z : Option Addr} {n_z k_z : Nat} {p_z : Fp} (z : List U64) {a_t : Option Addr} {n_t k_t : Nat} (t : List U64) {F : Fz} {H : Heap} {R : List Fp} (hs : HS (.of H (p_z.map Prod.fst)) F H [p_z] R) (hz : OS F (.slice a_z n_z k_z) z p_z) (ht : SR F (.slice a_t n_t k_t) t) (hT : TB 37 tabC F) (hl : t.length = z.length) (hsl : z.length ≤ 100000) : C Tryd.prog 1 (KT 60 ex 37 tabC) 59 [(.slice a_z n_z k_z), (.slice a_t n_t k_t)] H fun v H' => ∃ (r : Bool) (z' : List U64) (pm : Fp) (F' : Fz), Fz.le F F' ∧ HS (.of H (p_z.map Prod.fst)) F' H' [pm] R ∧ v = .bool r ∧ OS F' (.slice a_z n_z k_z) z' pm ∧ (z'.length = z.length) ∧ (∀ i, bitOf z' i = (bitOf z i || bitOf t i)) ∧ (r = false → z' = z) ∧ (r = true → ∃ i, bitOf t i = true ∧ bitOf z i = false) := by
  have ln_t := SR.len' ht
  have lnarg := OS.len' hz
  refine c_enter Tryd.func59 rfl rfl ?_
  refine wk_foc 1 rfl ?_
  refine wr 2 [] 4 4 [] [(4, (.bool false))] trivial (by kernel_rfl) rfl fun gg1 => ?_
  refine wr 3 [] 1 0 [5] [(5, (.bool false))] trivial (by kernel_rfl) rfl fun gg2 => ?_
  refine wr 2 [] 7 9 [] [(8, (.int .i64 (n_z : Int))), (9, (.int .i64 0))] trivial (by kernel_rfl) rfl fun gg3 => ?_
  refine wk_loop_inv (fun (mm : Nat) f H' => ∃ (w : List U64) (k : Nat) (m : Bool) (lp4_0 : Fp) (F' : Fz), Fz.le F F' ∧ HS (Base.of H (p_z.map Prod.fst)) F' H' [lp4_0] R ∧ OS F' (.slice a_z n_z k_z) w lp4_0 ∧ agrees f [(0, (.slice a_z n_z k_z)), (1, (.slice a_t n_t k_t)), (4, (.bool false)), (5, (.bool m)), (8, (.int .i64 (n_z : Int))), (9, (.int .i64 (k : Int)))] ∧ mm = z.length - k ∧ (uniB z t k w) ∧ (k ≤ z.length) ∧ (m = false → w = z) ∧ (m = true → ∃ i, bitOf t i = true ∧ bitOf z i = false)) _ ⟨z, 0, false, p_z, _, (Fz.le_refl _), hs, hz, (agC rfl (agC rfl (agC rfl (agC rfl (agC rfl (agC rfl agN)))))), rfl, (by exact uniB_zero), (by first | assumption | omega | (simp at *; omega)), (by exact fun _ => rfl), (by intro h; cases h)⟩ ?_
  rintro mm4 f4 H4 ⟨w, k, m, lp4_0, F4, hF4, hs4, lh4_0, hf4, rfl, hu, hk, hm0, hm1⟩ ih4
  refine wk_canon _ hf4 (fun gg4 => ?_)
  clear hf4
  replace hT := hT.mono hF4
  replace ht := ht.mono hF4
  have lnlh4_0 := OS.len' lh4_0
  have hwl := hu.1
  refine wk_foc 1 rfl ?_
  refine wr 2 [] 10 10 [] [(10, (.bool (decide ((k : Int) < (n_z : Int)))))] trivial (by kernel_rfl) rfl fun gg5 => ?_
  refine wk_if 4 5 (v := (decide ((k : Int) < (n_z : Int)))) rfl rfl rfl rfl (fun c6b => ?_) (fun c6b => ?_)
  · have c6 := c6b
    try simp only [BS] at c6
    refine wr 2 [] 11 11 [6] [(6, (.int .i64 (k : Int)))] trivial (by kernel_rfl) rfl fun gg7 => ?_
    obtain ⟨cf8, hv8⟩ := Sv.view (SR.sv ht hs4)
    have g9 := fU (hv8 k)
    obtain ⟨cf10, hv10⟩ := Sv.view (OS.sv lh4_0 hs4 (i := 0) rfl)
    have g11 := fU (hv10 k)
    refine wrD 1 [(3, .o (.int .u64 ((t.getD k default).n))), (7, .o (.int .u64 ((w.getD k default).n)))] 12 21 [] [(21, (.bool (bitsOf .andNot .u64 ((t.getD k default).n) ((w.getD k default).n) != 0)))] (vA (Sv.ix (j := (k : Int)) (SR.sv ht hs4) (by first | omega | (dsimp only; exact bits_rng _ _ _)) (by first | omega | (dsimp only; exact bits_rng _ _ _))) (vA (ql 117 0 (hc0 (vU (hv8 k) (by first | omega | (dsimp only; exact bits_rng _ _ _)))) rfl rfl) (vA (Sv.ix (j := (k : Int)) (OS.sv lh4_0 hs4 (i := 0) rfl) (by first | omega | (dsimp only; exact bits_rng _ _ _)) (by first | omega | (dsimp only; exact bits_rng _ _ _))) (vA (ql 117 0 (hc0 (vU (hv10 k) (by first | omega | (dsimp only; exact bits_rng _ _ _)))) rfl rfl) trivial)))) rfl (by kernel_rfl) rfl fun gg12 => ?_
    refine wk_if 1 2 (v := (bitsOf .andNot .u64 ((t.getD k default).n) ((w.getD k default).n) != 0)) rfl rfl rfl rfl (fun c13b => ?_) (fun c13b => ?_)
    · have c13 := c13b
      try simp only [BS] at c13
      refine wr 1 [] 1 0 [5] [(5, (.bool true))] trivial (by kernel_rfl) rfl fun gg14 => ?_
      refine wf_region rfl ?_
      refine fm (.slice a_z n_z k_z) rfl rfl rfl ?_
      refine fm (.int .i64 (k : Int)) rfl rfl rfl ?_
      refine wf_pure (v := (.pointer (some ⟨sB (.slice a_z n_z k_z), sO (.slice a_z n_z k_z) + k * Rp.sz U64, none⟩))) (id := .v) (ap_idxV (α := U64) (j := (k : Int)) rfl rfl rfl rfl (OS.sv lh4_0 hs4.log0 (i := 0) rfl) (by first | omega | (dsimp only; exact bits_rng _ _ _)) (by first | omega | (dsimp only; exact bits_rng _ _ _))) rfl rfl (did_v rfl) (okD_v _) ?_
      obtain ⟨cs15, hr15, hc15⟩ := Sv.at (OS.sv lh4_0 hs4.log0 (i := 0) rfl) (getD_at (x := default) (show k < w.length from by first | omega | (dsimp only; exact bits_rng _ _ _)))
      obtain ⟨rfl, g16_0, g16_0b⟩ := hr15
      refine wf_pure (v := (.int .u64 ((w.getD k default).n))) (id := .l (sB (.slice a_z n_z k_z))) (ap_ld1 (i := 0) rfl rfl hc15 rfl rfl) rfl rfl (did_l rfl) (⟨.inl rfl, ⟨.inl rfl, ⟨.inl rfl, trivial⟩⟩⟩) ?_
      refine fm (.slice a_t n_t k_t) rfl rfl rfl ?_
      refine fm (.int .i64 (k : Int)) rfl rfl rfl ?_
      refine wf_pure (v := (.pointer (some ⟨sB (.slice a_t n_t k_t), sO (.slice a_t n_t k_t) + k * Rp.sz U64, none⟩))) (id := .v) (ap_idxV (α := U64) (j := (k : Int)) rfl rfl rfl rfl (SR.sv ht hs4.log0) (by first | omega | (dsimp only; exact bits_rng _ _ _)) (by first | omega | (dsimp only; exact bits_rng _ _ _))) rfl rfl (did_v rfl) (okD_v _) ?_
      obtain ⟨cs17, hr17, hc17⟩ := Sv.at (SR.sv ht hs4.log0) (getD_at (x := default) (show k < t.length from by first | omega | (dsimp only; exact bits_rng _ _ _)))
      obtain ⟨rfl, g18_0, g18_0b⟩ := hr17
      refine wf_pure (v := (.int .u64 ((t.getD k default).n))) (id := .l (sB (.slice a_t n_t k_t))) (ap_ld1 (i := 0) rfl rfl hc17 rfl rfl) rfl rfl (did_l rfl) (⟨.inl rfl, ⟨.inl rfl, ⟨.inl rfl, ⟨.inr trivial, ⟨.inr trivial, ⟨.inr trivial, ⟨.inr trivial, trivial⟩⟩⟩⟩⟩⟩⟩) ?_
      refine wf_pure (v := (.int .u64 (bitsOf .or .u64 ((w.getD k default).n) ((t.getD k default).n)))) (id := .v) (ap_int rfl rfl rfl) rfl rfl (did_v rfl) (okD_v _) ?_
      refine wf_pure (v := (.pointer (some ⟨sB (.slice a_z n_z k_z), sO (.slice a_z n_z k_z) + k * Rp.sz U64, none⟩))) (id := .v) (ap_idxV (α := U64) (j := (k : Int)) rfl rfl rfl rfl (OS.sv lh4_0 hs4.log0 (i := 0) rfl) (by first | omega | (dsimp only; exact bits_rng _ _ _)) (by first | omega | (dsimp only; exact bits_rng _ _ _))) rfl rfl (did_v rfl) (okD_v _) ?_
      refine wf_rk (id := .x (lp4_0.map Prod.fst)) (rs_st (α := U64) (j := k) (off := 0) (q := 0) ⟨bitsOf .or .u64 ((w.getD k default).n) ((t.getD k default).n)⟩ lh4_0 hs4.log0 rfl rfl rfl rfl rfl rfl rfl rfl (getD_at (x := default) (by first | omega | (dsimp only; exact bits_rng _ _ _))) rfl (by rintro cs ⟨rfl, _⟩; exact ⟨Nat.le_of_ble_eq_true rfl, rfl, by first | omega | (dsimp only; exact bits_rng _ _ _)⟩)) rfl (by rintro _ _ p19 ⟨ho20, _, hwr⟩; exact did_x rfl rfl (Wr.did hwr)) (⟨.inl rfl, ⟨.inl rfl, ⟨.inl rfl, ⟨.inl rfl, ⟨.inl rfl, ⟨.inl rfl, ⟨.inl rfl, ⟨.inl rfl, ⟨.inl rfl, ⟨.inl rfl, trivial⟩⟩⟩⟩⟩⟩⟩⟩⟩⟩) ?_
      rintro _ H21 p19 ⟨ho20, hs21, _⟩ lg21 hlg21
      replace hs21 := HS.lg hs21 hs4 hlg21
      generalize ({ H21 with log := lg21 } : Heap) = H21g at hs21 ⊢
      have hs21 : HS _ _ _ [p19] _ := hs21
      have hnp19 := OS.len' ho20
      refine wf_nil ?_
      refine wk_foc 2 rfl ?_
      refine wr 1 [] 9 9 [32] [(9, (.int .i64 ((k : Int) + 1)))] (vA (vi (n := (k : Int) + 1) (by first | omega | (dsimp only; exact bits_rng _ _ _))) trivial) (by kernel_rfl) rfl fun gg22 => ?_
      refine ih4 _ _ _ ?_ ⟨w.set k ⟨bitsOf .or .u64 ((w.getD k default).n) ((t.getD k default).n)⟩, k + 1, true, p19, _, (hF4), hs21, ho20, (agC rfl (agC rfl (agC rfl (agC rfl (agC rfl (agC rfl agN)))))), rfl, (by first | exact uniB_or hu (by omega) (by assumption) (by assumption) | exact uniB_same hu (by assumption) (by assumption) (by assumption)), (by first | assumption | omega | (simp at *; omega)), (by first | assumption | (intro h; cases h; done)), (by first | assumption | (intro _; exact uniB_new hu (by assumption) (by assumption) (by assumption)))⟩
      omega
    · have c13 := c13b
      try simp only [BS] at c13
      refine wr 1 [] 9 9 [32] [(9, (.int .i64 ((k : Int) + 1)))] (vA (vi (n := (k : Int) + 1) (by first | omega | (dsimp only; exact bits_rng _ _ _))) trivial) (by kernel_rfl) rfl fun gg23 => ?_
      refine ih4 _ _ _ ?_ ⟨w, k + 1, m, lp4_0, _, (hF4), hs4, lh4_0, (agC rfl (agC rfl (agC rfl (agC rfl (agC rfl (agC rfl agN)))))), rfl, (by first | exact uniB_or hu (by omega) (by assumption) (by assumption) | exact uniB_same hu (by assumption) (by assumption) (by assumption)), (by first | assumption | omega | (simp at *; omega)), (by first | assumption | (intro h; cases h; done)), (by first | assumption | (intro _; exact uniB_new hu (by assumption) (by assumption) (by assumption)))⟩
      omega
  · have c6 := c6b
    try simp only [BS] at c6
    refine wr 1 [] 4 4 [33] [(4, (.bool m))] trivial (by kernel_rfl) rfl fun gg24 => ?_
    refine wk_ret ⟨.inr rfl, _, rfl, m, w, lp4_0, _, (hF4), (HS.first hs4), rfl, lh4_0, (by exact hu.1), (by exact uniB_all hu (by omega) hl), (by exact hm0), (by exact hm1)⟩

theorem list_c (ex : FuncId) {a_z : Option Addr} {n_z k_z : Nat} (z : List U64) {F : Fz} {H : Heap} {R : List Fp} (hs : HS (.of H []) F H [] R) (hz : SR F (.slice a_z n_z k_z) z) (hT : TB 37 tabC F) (hsl : z.length ≤ 100000) : C Tryd.prog 1 (KT 60 ex 37 tabC) 52 [(.slice a_z n_z k_z)] H fun v H' => ∃ (ar : Option Addr) (kr : Nat) (r : List Int) (p : Fp) (F' : Fz), Fz.le F F' ∧ HS (.of H []) F' H' [p] R ∧ v = .slice ar r.length kr ∧ OS F' (.slice ar r.length kr) r p ∧ r = lstV z := by
  have ln_z := SR.len' hz
  refine c_enter Tryd.func52 rfl rfl ?_
  refine wk_foc 1 rfl ?_
  refine wr 2 [] 2 2 [] [(2, (.slice none 0 0))] trivial (by kernel_rfl) rfl fun gg1 => ?_
  refine wr 3 [] 1 0 [3] [(3, (.slice none 0 0))] trivial (by kernel_rfl) rfl fun gg2 => ?_
  refine wr 2 [] 6 8 [] [(7, (.int .i64 (n_z : Int))), (8, (.int .i64 0))] trivial (by kernel_rfl) rfl fun gg3 => ?_
  have hs5 := HS.snoc hs
  have hs5 : HS _ _ _ [[]] _ := hs5
  refine wk_loop_inv (fun (mm : Nat) f H' => ∃ (o : List Int) (k : Nat) (la4_3 : Option Addr) (lk4_3 : Nat) (lp4_3 : Fp) (F' : Fz), Fz.le F F' ∧ HS (Base.of H []) F' H' [lp4_3] R ∧ OS F' (.slice la4_3 o.length lk4_3) o lp4_3 ∧ agrees f [(0, (.slice a_z n_z k_z)), (2, (.slice none 0 0)), (3, (.slice la4_3 o.length lk4_3)), (7, (.int .i64 (n_z : Int))), (8, (.int .i64 (k : Int)))] ∧ mm = z.length - k ∧ (o = lstK z (64 * k)) ∧ (k ≤ z.length)) _ ⟨([] : List Int), 0, none, 0, [], _, (Fz.le_refl _), hs5, (OS.nil : OS F (.slice none 0 0) ([] : List Int) []), (agC rfl (agC rfl (agC rfl (agC rfl (agC rfl agN))))), rfl, (by rfl), (by first | assumption | omega | (simp at *; omega))⟩ ?_
  rintro mm4 f4 H4 ⟨o, k, la4_3, lk4_3, lp4_3, F4, hF4, hs4, lh4_3, hf4, rfl, ho, hk⟩ ih4
  refine wk_canon _ hf4 (fun gg4 => ?_)
  clear hf4
  replace hT := hT.mono hF4
  replace hz := hz.mono hF4
  refine wk_foc 1 rfl ?_
  refine wr 2 [] 9 9 [] [(9, (.bool (decide ((k : Int) < (n_z : Int)))))] trivial (by kernel_rfl) rfl fun gg6 => ?_
  refine wk_if 4 5 (v := (decide ((k : Int) < (n_z : Int)))) rfl rfl rfl rfl (fun c7b => ?_) (fun c7b => ?_)
  · have c7 := c7b
    try simp only [BS] at c7
    refine wr 2 [] 10 10 [4] [(4, (.int .i64 (k : Int)))] trivial (by kernel_rfl) rfl fun gg8 => ?_
    refine wr 2 [] 1 0 [5] [(5, (.int .i64 0))] trivial (by kernel_rfl) rfl fun gg9 => ?_
    refine wk_loop_inv (fun (mm : Nat) f H' => ∃ (o2 : List Int) (b : Nat) (la10_3 : Option Addr) (lk10_3 : Nat) (lp10_3 : Fp) (F' : Fz), Fz.le F4 F' ∧ HS (Base.of H []) F' H' [lp10_3] R ∧ OS F' (.slice la10_3 o2.length lk10_3) o2 lp10_3 ∧ agrees f [(0, (.slice a_z n_z k_z)), (2, (.slice none 0 0)), (3, (.slice la10_3 o2.length lk10_3)), (4, (.int .i64 (k : Int))), (5, (.int .i64 (b : Int))), (7, (.int .i64 (n_z : Int))), (8, (.int .i64 (k : Int))), (9, (.bool (decide ((k : Int) < (n_z : Int)))))] ∧ mm = 64 - b ∧ (o2 = lstK z (64 * k + b)) ∧ (b ≤ 64)) _ ⟨o, 0, la4_3, lk4_3, lp4_3, _, (Fz.le_refl _), hs4, lh4_3, (agC rfl (agC rfl (agC rfl (agC rfl (agC rfl (agC rfl (agC rfl (agC rfl agN)))))))), rfl, (by exact ho), (by first | assumption | omega | (simp at *; omega))⟩ ?_
    rintro mm10 f10 H10 ⟨o2, b, la10_3, lk10_3, lp10_3, F10, hF10, hs10, lh10_3, hf10, rfl, ho2, hb⟩ ih10
    refine wk_canon _ hf10 (fun gg10 => ?_)
    clear hf10
    replace hT := hT.mono hF10
    replace hz := hz.mono hF10
    have hol : o2.length ≤ 64 * k + b := by rw [ho2]; exact lstK_len
    refine wk_foc 2 rfl ?_
    obtain ⟨cf11, hv11⟩ := Sv.view (SR.sv hz hs10)
    have g12 := fU (hv11 k)
    refine wr 1 [(3, .o (.int .u64 ((z.getD k default).n)))] 11 18 [] [(18, (.bool (Int.fdiv ((z.getD k default).n) (2 ^ (Nat.min b 64)) != 0)))] (vA (Sv.ix (j := (k : Int)) (SR.sv hz hs10) (by first | omega | exact shr_rng (by assumption) (by omega)) (by first | omega | exact shr_rng (by assumption) (by omega))) (vA (ql 117 0 (vU (hv11 k) (by first | omega | exact shr_rng (by assumption) (by omega))) rfl rfl) (vA (vu (n := (b : Int)) (by first | omega | exact shr_rng (by assumption) (by omega))) (vA (show (0 : Int) ≤ (b : Int) from by first | omega | exact shr_rng (by assumption) (by omega)) trivial)))) (by kernel_rfl) rfl fun gg13 => ?_
    refine wk_if 4 5 (v := (Int.fdiv ((z.getD k default).n) (2 ^ (Nat.min b 64)) != 0)) rfl rfl rfl rfl (fun c14b => ?_) (fun c14b => ?_)
    · have c14 := c14b
      try simp only [BS] at c14
      have hb64 := list_lt (by assumption) hb c14
      obtain ⟨cf15, hv15⟩ := Sv.view (SR.sv hz hs10)
      have g16 := fU (hv15 k)
      refine wr 1 [(3, .o (.int .u64 ((z.getD k default).n)))] 21 29 [] [(29, (.bool (bitsOf .and .u64 (Int.fdiv ((z.getD k default).n) (2 ^ (Nat.min b 64))) 1 == 1)))] (vA (Sv.ix (j := (k : Int)) (SR.sv hz hs10) (by first | omega | exact shr_rng (by assumption) (by omega)) (by first | omega | exact shr_rng (by assumption) (by omega))) (vA (ql 117 0 (vU (hv15 k) (by first | omega | exact shr_rng (by assumption) (by omega))) rfl rfl) (vA (vu (n := (b : Int)) (by first | omega | exact shr_rng (by assumption) (by omega))) (vA (show (0 : Int) ≤ (b : Int) from by first | omega | exact shr_rng (by assumption) (by omega)) trivial)))) (by kernel_rfl) rfl fun gg17 => ?_
      refine wk_if 0 2 (v := (bitsOf .and .u64 (Int.fdiv ((z.getD k default).n) (2 ^ (Nat.min b 64))) 1 == 1)) rfl rfl rfl rfl (fun c18b => ?_) (fun c18b => ?_)
      · have c18 := c18b
        try simp only [BS] at c18
        refine wk_region ?_
        refine wro 5 0 [] 30 34 [] [(30, (.slice la10_3 o2.length lk10_3)), (34, (.int .i64 ((64 * (k : Int)) + (b : Int))))] (vA (vi (n := 64 * (k : Int)) (by first | omega | exact shr_rng (by assumption) (by omega))) (vA (vi (n := (64 * (k : Int)) + (b : Int)) (by first | omega | exact shr_rng (by assumption) (by omega))) trivial)) (by kernel_rfl) rfl fun gg19 => ?_
        refine wo_rs (rs_lit (α := Int) (ps := [(0, (.int .i64 ((64 * (k : Int)) + (b : Int))))]) (cells := [(.int .i64 ((64 * (k : Int)) + (b : Int)))]) ([(64 * (k : Int)) + (b : Int)] : List Int) hs10 rfl rfl rfl (by kernel_rfl) ⟨[(.int .i64 ((64 * (k : Int)) + (b : Int)))], [], rfl, ⟨rfl, by first | omega | exact shr_rng (by assumption) (by omega)⟩, rfl⟩ rfl) rfl rfl ?_
        rintro _ H21 p20 ⟨a20, k20, rfl, ho20, hs21, _⟩
        have hs21 : HS _ _ _ [lp10_3, p20] _ := hs21
        refine wo_rs (rs_app (α := Int) (q := 0) lh10_3 hs21 rfl rfl rfl (OS.sv ho20 hs21 (i := 1) rfl) rfl rfl rfl rfl rfl rfl rfl (by first | omega | (simp only [List.length_append, List.length_cons, List.length_nil]; omega))) rfl rfl ?_
        rintro _ H23 p22 ⟨a22, k22, rfl, ho22, hs23, _⟩
        have hs23 : HS _ _ _ [p22, _] _ := hs23
        refine wa (.slice a22 (o2 ++ ([(64 * (k : Int)) + (b : Int)] : List Int)).length k22) rfl rfl rfl ?_
        refine wo_end 2 rfl ?_
        refine wr 1 [] 19 20 [5] [(5, (.int .i64 ((b : Int) + 1)))] (vA (vi (n := (b : Int) + 1) (by first | omega | exact shr_rng (by assumption) (by omega))) trivial) (by kernel_rfl) rfl fun gg24 => ?_
        refine ih10 _ _ _ ?_ ⟨o2 ++ ([(64 * (k : Int)) + (b : Int)] : List Int), b + 1, a22, k22, p22, _, (hF10), (HS.sub hs23 (List.sublist_append_left _ _)), ho22, (agC rfl (agC rfl (agC rfl (agC rfl (agC rfl (agC rfl (agC rfl (agC rfl agN)))))))), rfl, (by first | exact lst_step1 ho2 ((list_bit (by assumption) (by omega)).1 (by assumption)) | exact lst_step0 ho2 (fun hh => absurd ((list_bit (by assumption) (by omega)).2 hh) (by assumption))), (by first | assumption | omega | (simp at *; omega))⟩
        omega
      · have c18 := c18b
        try simp only [BS] at c18
        refine wr 1 [] 19 20 [5] [(5, (.int .i64 ((b : Int) + 1)))] (vA (vi (n := (b : Int) + 1) (by first | omega | exact shr_rng (by assumption) (by omega))) trivial) (by kernel_rfl) rfl fun gg25 => ?_
        refine ih10 _ _ _ ?_ ⟨o2, b + 1, la10_3, lk10_3, lp10_3, _, (hF10), hs10, lh10_3, (agC rfl (agC rfl (agC rfl (agC rfl (agC rfl (agC rfl (agC rfl (agC rfl agN)))))))), rfl, (by first | exact lst_step1 ho2 ((list_bit (by assumption) (by omega)).1 (by assumption)) | exact lst_step0 ho2 (fun hh => absurd ((list_bit (by assumption) (by omega)).2 hh) (by assumption))), (by first | assumption | omega | (simp at *; omega))⟩
        omega
    · have c14 := c14b
      try simp only [BS] at c14
      refine wr 1 [] 8 8 [37] [(8, (.int .i64 ((k : Int) + 1)))] (vA (vi (n := (k : Int) + 1) (by first | omega | exact shr_rng (by assumption) (by omega))) trivial) (by kernel_rfl) rfl fun gg26 => ?_
      refine ih4 _ _ _ ?_ ⟨o2, k + 1, la10_3, lk10_3, lp10_3, _, (Fz.le_trans (hF4) hF10), hs10, lh10_3, (agC rfl (agC rfl (agC rfl (agC rfl (agC rfl agN))))), rfl, (by rw [ho2]; exact list_stop (by assumption) hb (by assumption)), (by first | assumption | omega | (simp at *; omega))⟩
      omega
  · have c7 := c7b
    try simp only [BS] at c7
    refine wr 1 [] 2 2 [38] [(2, (.slice la4_3 o.length lk4_3))] trivial (by kernel_rfl) rfl fun gg27 => ?_
    refine wk_ret ⟨.inr rfl, _, rfl, la4_3, lk4_3, o, lp4_3, _, (hF4), (HS.only hs4 (i := 0) rfl), rfl, lh4_3, (by rw [ho]; unfold lstV; congr 1; omega)⟩

theorem addT_c (ex : FuncId) {a_z : Option Addr} {n_z k_z : Nat} {p_z : Fp} (z : List U64) {ab_0 : Option Addr} {kb_0 : Nat} (b : BlkT) {F : Fz} {H : Heap} {R : List Fp} (hs : HS (.of H (p_z.map Prod.fst)) F H [p_z] R) (hz : OS F (.slice a_z n_z k_z) z p_z) (hb_0 : SR F (.slice ab_0 b.ins.length kb_0) b.ins) (hb_1 : in64 b.fin) (hb_2 : in64 b.reg) (hb_3 : in64 b.tgt) (hb_4 : in64 b.els) (hT : TB 37 tabC F) (hb : (b.fin = 2 ∨ b.fin = 3) → 0 ≤ b.reg ∧ b.reg < 64 * (z.length : Int)) (hsl : z.length ≤ 100000) : C Tryd.prog 1 (KT 60 ex 37 tabC) 56 [(.slice a_z n_z k_z), (.agg ⟨[(.slice ab_0 b.ins.length kb_0), (.int .i64 b.fin), (.int .i64 b.reg), (.int .i64 b.tgt), (.int .i64 b.els)]⟩)] H fun v H' => ∃ (z' : List U64) (pm : Fp) (F' : Fz), Fz.le F F' ∧ HS (.of H (p_z.map Prod.fst)) F' H' [pm] R ∧ v = .tuple #[] ∧ OS F' (.slice a_z n_z k_z) z' pm ∧ (z'.length = z.length) ∧ (∀ i, bitOf z' i = (bitOf z i || decide ((i : Int) ∈ endV b))) := by
  have lnarg := OS.len' hz
  refine c_enter Tryd.func56 rfl rfl ?_
  refine wk_foc 1 rfl ?_
  refine wk_region ?_
  refine wo_rs (rs_box hs rfl rfl) rfl rfl ?_
  rintro _ H2 _ ⟨b1, rfl, hs2, _⟩
  have hs2 : HS _ _ _ [p_z, [(b1, .cells [(.slice ab_0 b.ins.length kb_0), (.int .i64 b.fin), (.int .i64 b.reg), (.int .i64 b.tgt), (.int .i64 b.els)] none false)]] _ := hs2
  refine wo_end 2 rfl ?_
  refine wr 1 [(1, .o (.int .i64 b.fin)), (5, .o (.int .i64 b.fin))] 4 11 [] [(11, (.bool ((b.fin == 2) || (b.fin == 3))))] (vA (ql 3 1 (HS.hc hs2 (i := 1) rfl) rfl rfl) (vA (fun (g1 : (b.fin == 2) = false) => (ql 3 1 (HS.hc hs2 (i := 1) rfl) rfl rfl)) trivial)) (by kernel_rfl) rfl fun gg3 => ?_
  refine wk_if 0 0 (v := ((b.fin == 2) || (b.fin == 3))) rfl rfl rfl rfl (fun c4b => ?_) (fun c4b => ?_)
  · have c4 := c4b
    try simp only [BS] at c4
    have hb2 := hb (by omega)
    refine wk_region ?_
    refine wro 3 0 [(2, .o (.int .i64 b.reg))] 12 14 [] [(12, (.slice a_z n_z k_z)), (14, (.int .i64 b.reg))] (vA (ql 3 2 (HS.hc hs2 (i := 1) rfl) rfl rfl) trivial) (by kernel_rfl) rfl fun gg5 => ?_
    refine wo_call (ap_call rfl rfl rfl) rfl rfl (add_c ex z b.reg (HS.callOwn hs2 (i := 0) rfl) hz (by omega) hT (by omega) (by omega)) ?_
    rintro _ H6 ⟨zm6, pm6, F6, hF6, hs6, rfl, hm6, h16, h26⟩
    replace hs6 := HS.backOwn hs2 (i := 0) rfl rfl (fun _ hb => hb) hs6
    have hs6 : HS _ _ _ [pm6, _] _ := hs6
    replace hT := hT.mono hF6
    replace hb_0 := hb_0.mono hF6
    replace hz := hz.mono hF6
    have ln6 := OS.len' hm6
    refine wo_end 0 rfl ?_
    refine wk_skip_nil ⟨.inl rfl, _, rfl, zm6, pm6, _, (hF6), (HS.first hs6), rfl, hm6, (by first | rfl | assumption), (by first | exact end_ok (.inl ⟨by omega, by omega, by assumption⟩) | exact end_ok (.inr ⟨by omega, rfl⟩))⟩
  · have c4 := c4b
    try simp only [BS] at c4
    refine wk_skip_nil ⟨.inl rfl, _, rfl, z, p_z, _, (Fz.le_refl _), (HS.first hs2), rfl, hz, (by first | rfl | assumption), (by first | exact end_ok (.inl ⟨by omega, by omega, by assumption⟩) | exact end_ok (.inr ⟨by omega, rfl⟩))⟩

theorem transfer_c (ex : FuncId) {a_z : Option Addr} {n_z k_z : Nat} {p_z : Fp} (z : List U64) {aiv_5 : Option Addr} {kiv_5 : Nat} (iv : VInT) {F : Fz} {H : Heap} {R : List Fp} (hs : HS (.of H (p_z.map Prod.fst)) F H [p_z] R) (hz : OS F (.slice a_z n_z k_z) z p_z) (hiv_0 : in64 iv.i.op) (hiv_1 : in64 iv.i.a) (hiv_2 : in64 iv.i.b) (hiv_3 : in64 iv.i.c) (hiv_4 : in64 iv.i.n) (hiv_5 : SR F (.slice aiv_5 iv.args.length kiv_5) iv.args) (hT : TB 37 tabC F) (hr : ∀ x ∈ readsV iv, 0 ≤ x ∧ x < 64 * (z.length : Int)) (hw : ∀ x ∈ writesV iv, 0 ≤ x ∧ x < 64 * (z.length : Int)) (hlen : iv.args.length ≤ 1048576) (hsl : z.length ≤ 100000) : C Tryd.prog 1 (KT 60 ex 37 tabC) 60 [(.slice a_z n_z k_z), (.agg ⟨[(.int .i64 iv.i.op), (.int .i64 iv.i.a), (.int .i64 iv.i.b), (.int .i64 iv.i.c), (.int .i64 iv.i.n), (.slice aiv_5 iv.args.length kiv_5)]⟩)] H fun v H' => ∃ (z' : List U64) (pm : Fp) (F' : Fz), Fz.le F F' ∧ HS (.of H (p_z.map Prod.fst)) F' H' [pm] R ∧ v = .tuple #[] ∧ OS F' (.slice a_z n_z k_z) z' pm ∧ (z'.length = z.length) ∧ (∀ i, bitOf z' i = ((bitOf z i && !decide ((i : Int) ∈ writesV iv)) || decide ((i : Int) ∈ readsV iv))) := by
  have lnarg := OS.len' hz
  have hwl := writes_len (v := iv)
  have hrl := reads_len (v := iv)
  refine c_enter Tryd.func60 rfl rfl ?_
  refine wk_foc 1 rfl ?_
  refine wk_region ?_
  refine wo_rs (rs_box hs rfl rfl) rfl rfl ?_
  rintro _ H2 _ ⟨b1, rfl, hs2, _⟩
  have hs2 : HS _ _ _ [p_z, [(b1, .cells [(.int .i64 iv.i.op), (.int .i64 iv.i.a), (.int .i64 iv.i.b), (.int .i64 iv.i.c), (.int .i64 iv.i.n), (.slice aiv_5 iv.args.length kiv_5)] none false)]] _ := hs2
  refine wo_end 3 rfl ?_
  refine wk_region ?_
  refine wro 1 0 [(0, .o (.agg ⟨[(.int .i64 iv.i.op), (.int .i64 iv.i.a), (.int .i64 iv.i.b), (.int .i64 iv.i.c), (.int .i64 iv.i.n), (.slice aiv_5 iv.args.length kiv_5)]⟩))] 8 8 [] [(8, (.agg ⟨[(.int .i64 iv.i.op), (.int .i64 iv.i.a), (.int .i64 iv.i.b), (.int .i64 iv.i.c), (.int .i64 iv.i.n), (.slice aiv_5 iv.args.length kiv_5)]⟩))] (vA (qn 47 0 6 (HS.hc hs2 (i := 1) rfl) rfl rfl rfl rfl) trivial) (by kernel_rfl) rfl fun gg3 => ?_
  refine wo_call (ap_call rfl rfl rfl) rfl rfl (ma.vwrites_c ex iv (HS.call hs2) (by omega) (by omega) (by omega) (by omega) (by omega) hiv_5 hT) ?_
  rintro _ H4 ⟨ar4, kr4, r4, p4, F4, hF4, hs4, rfl, hrr4, rfl⟩
  replace hs4 := HS.back hs2 rfl hs4
  have hs4 : HS _ _ _ [_, _, p4] _ := hs4
  replace hT := hT.mono hF4
  replace hiv_5 := hiv_5.mono hF4
  replace hz := hz.mono hF4
  refine wro 2 2 [] 10 11 [] [(10, (.int .i64 ((writesV iv).length : Int))), (11, (.int .i64 0))] trivial (by kernel_rfl) rfl fun gg5 => ?_
  refine wo_end 2 rfl ?_
  refine wk_loop_inv (fun (mm : Nat) f H' => ∃ (w : List U64) (k : Nat) (lp6_0 : Fp) (F' : Fz), Fz.le F4 F' ∧ HS (Base.of H (p_z.map Prod.fst)) F' H' [lp6_0, [(b1, .cells [(.int .i64 iv.i.op), (.int .i64 iv.i.a), (.int .i64 iv.i.b), (.int .i64 iv.i.c), (.int .i64 iv.i.n), (.slice aiv_5 iv.args.length kiv_5)] none false)], p4] R ∧ OS F' (.slice a_z n_z k_z) w lp6_0 ∧ agrees f [(0, (.slice a_z n_z k_z)), (3, (.pointer (some ⟨b1, 0, none⟩))), (9, (.slice ar4 (writesV iv).length kr4)), (10, (.int .i64 ((writesV iv).length : Int))), (11, (.int .i64 (k : Int)))] ∧ mm = (writesV iv).length - k ∧ (w.length = z.length) ∧ (∀ i, bitOf w i = (bitOf z i && !decide ((i : Int) ∈ (writesV iv).take k))) ∧ (k ≤ (writesV iv).length)) _ ⟨z, 0, p_z, _, (Fz.le_refl _), hs4, hz, (agC rfl (agC rfl (agC rfl (agC rfl (agC rfl agN))))), rfl, (by rfl), (by intro i; simp), (by first | assumption | omega | (simp at *; omega))⟩ ?_
  rintro mm6 f6 H6 ⟨w, k, lp6_0, F6, hF6, hs6, lh6_0, hf6, rfl, g1, g2, g3⟩ ih6
  refine wk_canon _ hf6 (fun gg6 => ?_)
  clear hf6
  replace hT := hT.mono hF6
  replace hiv_5 := hiv_5.mono hF6
  replace hrr4 := hrr4.mono hF6
  have lnlh6_0 := OS.len' lh6_0
  refine wk_foc 1 rfl ?_
  refine wr 2 [] 12 12 [] [(12, (.bool (decide ((k : Int) < ((writesV iv).length : Int)))))] trivial (by kernel_rfl) rfl fun gg7 => ?_
  refine wk_if 4 5 (v := (decide ((k : Int) < ((writesV iv).length : Int)))) rfl rfl rfl rfl (fun c8b => ?_) (fun c8b => ?_)
  · have c8 := c8b
    try simp only [BS] at c8
    have hlw := lim_at hw (by omega : k < (writesV iv).length)
    obtain ⟨cf9, hv9⟩ := Sv.view (OS.sv hrr4 hs6 (i := 2) rfl)
    have g10 := fI (hv9 k)
    refine wr 1 [(1, .o (.int .i64 ((writesV iv).getD k 0)))] 13 14 [5] [(5, (.int .i64 ((writesV iv).getD k 0)))] (vA (Sv.ix (j := (k : Int)) (OS.sv hrr4 hs6 (i := 2) rfl) (by omega) (by omega)) (vA (ql 3 0 (vI (hv9 k) (by omega)) rfl rfl) trivial)) (by kernel_rfl) rfl fun gg11 => ?_
    refine wk_region ?_
    refine wro 2 0 [] 15 16 [] [(15, (.slice a_z n_z k_z)), (16, (.int .i64 ((writesV iv).getD k 0)))] trivial (by kernel_rfl) rfl fun gg12 => ?_
    refine wo_call (ap_call rfl rfl rfl) rfl rfl (rem_c ex w ((writesV iv).getD k 0) (HS.callOwn hs6 (i := 0) rfl) lh6_0 (by omega) hT (by omega) (by omega)) ?_
    rintro _ H13 ⟨zm13, pm13, F13, hF13, hs13, rfl, hm13, h113, h213⟩
    replace hs13 := HS.backOwn hs6 (i := 0) rfl rfl (fun _ hb => hb) hs13
    have hs13 : HS _ _ _ [pm13, _, _] _ := hs13
    replace hT := hT.mono hF13
    replace hiv_5 := hiv_5.mono hF13
    replace hrr4 := hrr4.mono hF13
    replace lh6_0 := lh6_0.mono hF13
    have ln13 := OS.len' hm13
    refine wo_end 2 rfl ?_
    refine wr 1 [] 11 11 [18] [(11, (.int .i64 ((k : Int) + 1)))] (vA (vi (n := (k : Int) + 1) (by omega)) trivial) (by kernel_rfl) rfl fun gg14 => ?_
    refine ih6 _ _ _ ?_ ⟨zm13, k + 1, pm13, _, (Fz.le_trans (hF6) hF13), hs13, hm13, (agC rfl (agC rfl (agC rfl (agC rfl (agC rfl agN))))), rfl, (by omega), (by exact rem_step (by omega) g2 (lim_at hw (by omega)).1 (by assumption)), (by first | assumption | omega | (simp at *; omega))⟩
    omega
  · have c8 := c8b
    try simp only [BS] at c8
    refine wk_region ?_
    refine wro 1 0 [(0, .o (.agg ⟨[(.int .i64 iv.i.op), (.int .i64 iv.i.a), (.int .i64 iv.i.b), (.int .i64 iv.i.c), (.int .i64 iv.i.n), (.slice aiv_5 iv.args.length kiv_5)]⟩))] 19 19 [] [(19, (.agg ⟨[(.int .i64 iv.i.op), (.int .i64 iv.i.a), (.int .i64 iv.i.b), (.int .i64 iv.i.c), (.int .i64 iv.i.n), (.slice aiv_5 iv.args.length kiv_5)]⟩))] (vA (qn 47 0 6 (HS.hc hs6 (i := 1) rfl) rfl rfl rfl rfl) trivial) (by kernel_rfl) rfl fun gg15 => ?_
    refine wo_call (ap_call rfl rfl rfl) rfl rfl (ma.vreads_c ex iv (HS.call hs6) (by omega) (by omega) (by omega) (by omega) (by omega) hiv_5 hT (by omega)) ?_
    rintro _ H16 ⟨ar16, kr16, r16, p16, F16, hF16, hs16, rfl, hrr16, rfl⟩
    replace hs16 := HS.back hs6 rfl hs16
    have hs16 : HS _ _ _ [lp6_0, _, _, p16] _ := hs16
    replace hT := hT.mono hF16
    replace hiv_5 := hiv_5.mono hF16
    replace hrr4 := hrr4.mono hF16
    replace lh6_0 := lh6_0.mono hF16
    refine wro 2 2 [] 21 22 [] [(21, (.int .i64 ((readsV iv).length : Int))), (22, (.int .i64 0))] trivial (by kernel_rfl) rfl fun gg17 => ?_
    refine wo_end 2 rfl ?_
    refine wk_loop_inv (fun (mm : Nat) f H' => ∃ (u : List U64) (q : Nat) (lp18_0 : Fp) (F' : Fz), Fz.le F16 F' ∧ HS (Base.of H (p_z.map Prod.fst)) F' H' [lp18_0, [(b1, .cells [(.int .i64 iv.i.op), (.int .i64 iv.i.a), (.int .i64 iv.i.b), (.int .i64 iv.i.c), (.int .i64 iv.i.n), (.slice aiv_5 iv.args.length kiv_5)] none false)], p4, p16] R ∧ OS F' (.slice a_z n_z k_z) u lp18_0 ∧ agrees f [(0, (.slice a_z n_z k_z)), (20, (.slice ar16 (readsV iv).length kr16)), (21, (.int .i64 ((readsV iv).length : Int))), (22, (.int .i64 (q : Int)))] ∧ mm = (readsV iv).length - q ∧ (u.length = z.length) ∧ (∀ i, bitOf u i = (bitOf w i || decide ((i : Int) ∈ (readsV iv).take q))) ∧ (q ≤ (readsV iv).length)) _ ⟨w, 0, lp6_0, _, (Fz.le_refl _), hs16, lh6_0, (agC rfl (agC rfl (agC rfl (agC rfl agN)))), rfl, (by first | assumption | omega | (simp at *; omega)), (by intro i; simp), (by first | assumption | omega | (simp at *; omega))⟩ ?_
    rintro mm18 f18 H18 ⟨u, q, lp18_0, F18, hF18, hs18, lh18_0, hf18, rfl, g4, g5, g6⟩ ih18
    refine wk_canon _ hf18 (fun gg18 => ?_)
    clear hf18
    replace hT := hT.mono hF18
    replace hiv_5 := hiv_5.mono hF18
    replace hrr16 := hrr16.mono hF18
    have lnlh18_0 := OS.len' lh18_0
    refine wk_foc 1 rfl ?_
    refine wr 2 [] 23 23 [] [(23, (.bool (decide ((q : Int) < ((readsV iv).length : Int)))))] trivial (by kernel_rfl) rfl fun gg19 => ?_
    refine wk_if 4 3 (v := (decide ((q : Int) < ((readsV iv).length : Int)))) rfl rfl rfl rfl (fun c20b => ?_) (fun c20b => ?_)
    · have c20 := c20b
      try simp only [BS] at c20
      have hlr := lim_at hr (by omega : q < (readsV iv).length)
      obtain ⟨cf21, hv21⟩ := Sv.view (OS.sv hrr16 hs18 (i := 3) rfl)
      have g22 := fI (hv21 q)
      refine wr 1 [(1, .o (.int .i64 ((readsV iv).getD q 0)))] 24 25 [7] [(7, (.int .i64 ((readsV iv).getD q 0)))] (vA (Sv.ix (j := (q : Int)) (OS.sv hrr16 hs18 (i := 3) rfl) (by omega) (by omega)) (vA (ql 3 0 (vI (hv21 q) (by omega)) rfl rfl) trivial)) (by kernel_rfl) rfl fun gg23 => ?_
      refine wk_region ?_
      refine wro 2 0 [] 26 27 [] [(26, (.slice a_z n_z k_z)), (27, (.int .i64 ((readsV iv).getD q 0)))] trivial (by kernel_rfl) rfl fun gg24 => ?_
      refine wo_call (ap_call rfl rfl rfl) rfl rfl (add_c ex u ((readsV iv).getD q 0) (HS.callOwn hs18 (i := 0) rfl) lh18_0 (by omega) hT (by omega) (by omega)) ?_
      rintro _ H25 ⟨zm25, pm25, F25, hF25, hs25, rfl, hm25, h125, h225⟩
      replace hs25 := HS.backOwn hs18 (i := 0) rfl rfl (fun _ hb => hb) hs25
      have hs25 : HS _ _ _ [pm25, _, _, _] _ := hs25
      replace hT := hT.mono hF25
      replace hiv_5 := hiv_5.mono hF25
      replace hrr16 := hrr16.mono hF25
      replace lh18_0 := lh18_0.mono hF25
      have ln25 := OS.len' hm25
      refine wo_end 2 rfl ?_
      refine wr 1 [] 22 22 [29] [(22, (.int .i64 ((q : Int) + 1)))] (vA (vi (n := (q : Int) + 1) (by omega)) trivial) (by kernel_rfl) rfl fun gg26 => ?_
      refine ih18 _ _ _ ?_ ⟨zm25, q + 1, pm25, _, (Fz.le_trans (hF18) hF25), hs25, hm25, (agC rfl (agC rfl (agC rfl (agC rfl agN)))), rfl, (by omega), (by exact add_step (by omega) g5 (lim_at hr (by omega)).1 (by assumption)), (by first | assumption | omega | (simp at *; omega))⟩
      omega
    · have c20 := c20b
      try simp only [BS] at c20
      refine wk_skip_nil ⟨.inl rfl, _, rfl, u, lp18_0, _, (Fz.le_trans (Fz.le_trans (Fz.le_trans (hF4) hF6) hF16) hF18), (HS.first hs18), rfl, lh18_0, (by omega), (by exact tr_done (fun i => by rw [g2 i, List.take_of_length_le (by omega)]) (fun i => by rw [g5 i, List.take_of_length_le (by omega)]))⟩
end Go.Proofs.YtlabedbmgmfbaaaDoor.mb
