/-
  Texts of words: writing and reading them, program and reference, each by a symbolic run. No condition but that numbers are words.
-/
import Derived.Test.YtcakpkdeojhacabW1
import Derived.Test.YtcakpkdeojhacabRxN
noncomputable section
namespace Go.Proofs.Ytcakpkdeojhacab.w3
open Go.R
set_option maxRecDepth 10000
set_option linter.unusedVariables false
open w1
theorem pow_le {i k : Nat} (h : i ≤ k) : 10 ^ i ≤ 10 ^ k := Nat.pow_le_pow_right (by decide) h
theorem w_tail {s : List UInt8} : s.tail = s.drop 1 := by cases s <;> rfl
theorem okNum_iff {t : List UInt8} : okNum t = true ↔ 1 ≤ t.length ∧ t.length ≤ 19 ∧ t.all isDig = true ∧ (t.getD 0 0 = 48 → t.length = 1) := by
  unfold okNum
  have e : t.headD 0 = t.getD 0 0 := by cases t <;> rfl
  rw [e]
  simp only [Bool.and_eq_true, Bool.or_eq_true, decide_eq_true_eq, bne_iff_ne, ne_eq, beq_iff_eq, and_assoc]
  constructor
  · rintro ⟨h1, h2, h3, h4⟩; exact ⟨h1, h2, h3, fun h => by rcases h4 with h4 | h4; exact absurd h h4; exact h4⟩
  · rintro ⟨h1, h2, h3, h4⟩; exact ⟨h1, h2, h3, by by_cases h : t.getD 0 0 = 48; exact .inr (h4 h); exact .inl h⟩
theorem dig_iff {c : UInt8} : isDig c = true ↔ 48 ≤ c.toNat ∧ c.toNat ≤ 57 := by simp [isDig]
theorem u8eq {c : UInt8} {n : Nat} (h : n < 256) : (c.toNat : Int) = (n : Int) ↔ c = UInt8.ofNat n := by
  constructor
  · intro h1
    apply UInt8.toNat_inj.1
    rw [UInt8.toNat_ofNat']; omega
  · rintro rfl; rw [UInt8.toNat_ofNat']; omega

theorem dec_step {m q : Nat} {bs : List UInt8} {d : List UInt8} (hb : bs.length = 20) (hq : 1 ≤ q) (hq2 : q ≤ 20) (h : d = dec m ++ bs.drop q) :
    (0 < m / 10 → d = dec (m / 10) ++ (bs.set (q - 1) (UInt8.ofNat (48 + m % 10))).drop (q - 1)) ∧ (m / 10 = 0 → d = (bs.set (q - 1) (UInt8.ofNat (48 + m % 10))).drop (q - 1)) := by
  have e : (bs.set (q - 1) (UInt8.ofNat (48 + m % 10))).drop (q - 1) = UInt8.ofNat (48 + m % 10) :: bs.drop q := by
    apply List.ext_getElem?
    intro i
    rw [List.getElem?_drop]
    cases i with
    | zero => rw [List.getElem?_cons_zero, Nat.add_zero, List.getElem?_set_self (by omega)]
    | succ i => rw [List.getElem?_cons_succ, List.getElem?_drop, List.getElem?_set_ne (by omega)]; congr 1; omega
  rw [e]
  refine ⟨fun h1 => ?_, fun h1 => ?_⟩
  · rw [h, dec_big (by omega)]; simp [decD]
  · rw [h, dec_small (by omega)]
    have : m % 10 = m := by omega
    rw [this]; rfl
theorem tx0 {l : List UInt8} (h : l.length ≤ 20) : ([45] : List UInt8).length + l.length ≤ 1099511627776 := by simp; omega
theorem tx1 {n : Int} (hn : in64 n) : (n < 0 → [45] ++ dec (IntKind.u64.wrap (0 - IntKind.u64.wrap n)).toNat = textS n) ∧ (¬ n < 0 → dec (IntKind.u64.wrap n).toNat = textS n) := by
  obtain ⟨h1, h2⟩ := hn
  rw [u64_eq, u64_eq]
  refine ⟨fun h => ?_, fun h => ?_⟩
  · rw [textS, if_pos h, show ((0 - n % 18446744073709551616) % 18446744073709551616).toNat = n.natAbs by omega]; rfl
  · rw [textS, if_neg h, show (n % 18446744073709551616).toNat = n.toNat by omega]
theorem dec_le {n : Int} (h : 0 ≤ n ∧ n < 18446744073709551616) : (dec n.toNat).length ≤ 20 := dec_len 19 _ (by omega)

theorem digits_c (ex : FuncId) (n : Int) {F : Fz} {H : Heap} {R : List Fp} (hs : HS (.of H []) F H [] R) (hn : 0 ≤ n ∧ n < 18446744073709551616) : C Try.prog 0 (KX ex) 23 [(.int .u64 n)] H fun v H' => ∃ (r : List UInt8) (F' : Fz), Fz.le F F' ∧ HS (.of H []) F' H' [] R ∧ v = .string ⟨⟨r⟩⟩ ∧ r = dec n.toNat := by
  obtain ⟨m0, rfl⟩ := Int.eq_ofNat_of_zero_le hn.1
  refine c_enter Try.func23 rfl rfl ?_
  refine wk_seq ?_
  refine wk_region ?_
  refine wa (.string ⟨⟨[]⟩⟩) rfl rfl rfl ?_
  refine wo_nil ?_
  refine wk_skip_seq ?_
  refine wk_seq ?_
  refine wk_region ?_
  refine wo_rs (rs_arr (List.replicate 20 (0 : UInt8)) hs rfl (RL.replicate (z := [(.int .u8 0)]) rfl 20) rfl) rfl rfl ?_
  rintro _ H2 p1 ⟨b1, rfl, ho1, hs2, _, hc1⟩
  have hs2 : HS (Base.of H []) F H2 [p1] R := hs2
  have hn1 := OS.len' ho1
  refine wo_nil ?_
  refine wk_skip_seq ?_
  refine wk_seq ?_
  refine wk_region ?_
  refine wa (.int .i64 20) rfl rfl rfl ?_
  refine wo_nil ?_
  refine wk_skip_seq ?_
  refine wk_block ?_
  refine wk_loop_inv (fun (mm : Nat) f H' => ∃ (m : Nat) (q : Nat) (bs : List UInt8) (lp3_3 : Fp) (F' : Fz), Fz.le F F' ∧ HS (Base.of H []) F' H' [lp3_3] R ∧ OS F' (.slice (some ⟨b1, 0, none⟩) 20 20) bs lp3_3 ∧ (∃ cs, lp3_3 = [(b1, .cells cs none false)]) ∧ agrees f [(0, (.int .u64 (m : Int))), (3, (.pointer (some ⟨b1, 0, none⟩))), (4, (.int .i64 (q : Int)))] ∧ mm = q + 1 ∧ (q ≤ 20) ∧ (m < 10 ^ q) ∧ (q = 20 ∨ 0 < m) ∧ (dec m0 = dec m ++ bs.drop q) ∧ (m < 18446744073709551616)) _ ⟨m0, 20, List.replicate 20 (0 : UInt8), p1, _, (Fz.le_refl _), hs2, ho1, hc1, (agC rfl (agC rfl (agC rfl agN))), rfl, (by first | assumption | omega | (simp at *; omega)), (by first | assumption | omega | (simp at *; omega)), (by first | assumption | omega | (simp at *; omega)), (by simp), (by first | assumption | omega | (simp at *; omega))⟩ ?_
  rintro mm3 f3 H3 ⟨m, q, bs, lp3_3, F3, hF3, hs3, lh3_3, lo3_3, hf3, rfl, h1, h2, h3, h4, h5⟩ ih3
  refine wk_canon _ hf3 (fun gg3 => ?_)
  clear hf3
  have ln3_3 := OS.len' lh3_3
  have hq0 : 1 ≤ q := by
    rcases Nat.eq_zero_or_pos q with h | h
    · subst h; omega
    · exact h
  obtain ⟨q1, hq1⟩ : ∃ q1, q = q1 + 1 := ⟨q - 1, by omega⟩
  refine wk_block ?_
  refine wk_seq ?_
  refine wk_region ?_
  refine wm (.int .i64 (q : Int)) rfl rfl rfl ?_
  refine wo_val (v := (.int .i64 ((q - 1 : Nat) : Int))) (ap_sub rfl rfl (natsub (a := q) (b := 1) (by omega) (w_i64 (by omega)))) rfl rfl ?_
  refine wa (.int .i64 ((q - 1 : Nat) : Int)) rfl rfl rfl ?_
  refine wo_nil ?_
  refine wk_skip_seq ?_
  refine wk_seq ?_
  refine wk_region ?_
  refine wm (.int .i64 ((q - 1 : Nat) : Int)) rfl rfl rfl ?_
  refine wm (.int .u64 (m : Int)) rfl rfl rfl ?_
  refine wo_val (v := (.int .u64 ((m % 10 : Nat) : Int))) (ap_mod rfl rfl (by decide) rfl) rfl rfl ?_
  refine wo_val (v := (.int .u64 (48 + ((m % 10 : Nat) : Int)))) (ap_add rfl rfl (w_u64 (n := 48 + ((m % 10 : Nat) : Int)) (by omega))) rfl rfl ?_
  refine wo_val (v := (.int .u8 (48 + ((m % 10 : Nat) : Int)))) (ap_cv rfl rfl rfl (w_u8 (n := 48 + ((m % 10 : Nat) : Int)) (by omega))) rfl rfl ?_
  refine wo_val (v := (.pointer (some ⟨sB (.slice (some ⟨b1, 0, none⟩) 20 20), sO (.slice (some ⟨b1, 0, none⟩) 20 20) + (q - 1) * Rp.sz UInt8, none⟩))) (ap_idxA (α := UInt8) (j := ((q - 1 : Nat) : Int)) rfl rfl rfl rfl (by omega) (by omega)) rfl rfl ?_
  refine wo_rk (rs_stA (α := UInt8) (j := q - 1) (off := 0) (q := 0) (UInt8.ofNat (48 + (m % 10))) lh3_3 hs3 rfl rfl rfl rfl rfl rfl rfl rfl (getD_at (x := default) (by omega)) rfl (by rintro cs rfl; exact ⟨Nat.le_of_ble_eq_true rfl, u8r (n := 48 + (m % 10)) (by omega)⟩) lo3_3) rfl ?_
  rintro _ H6 p4 ⟨ho5, hs6, _, hcp4⟩
  have hs6 : HS (Base.of H []) F3 H6 [p4] R := hs6
  have hnp4 := OS.len' ho5
  refine wo_nil ?_
  refine wk_skip_seq ?_
  refine wk_seq ?_
  refine wk_region ?_
  refine wm (.int .u64 (m : Int)) rfl rfl rfl ?_
  refine wo_val (v := (.int .u64 ((m / 10 : Nat) : Int))) (ap_div rfl rfl (by decide) (w_u64 (n := ((m / 10 : Nat) : Int)) (by omega))) rfl rfl ?_
  refine wa (.int .u64 ((m / 10 : Nat) : Int)) rfl rfl rfl ?_
  refine wo_nil ?_
  refine wk_skip_seq ?_
  refine wk_seq ?_
  refine wk_region ?_
  refine wm (.int .u64 ((m / 10 : Nat) : Int)) rfl rfl rfl ?_
  refine wo_val (v := (.bool (((m / 10 : Nat) : Int) == 0))) (ap_cmp rfl rfl rfl rfl) rfl rfl ?_
  refine wo_nil ?_
  refine wk_skip_seq ?_
  refine wk_cond (v := (((m / 10 : Nat) : Int) == 0)) rfl rfl (fun c7b => ?_) (fun c7b => ?_)
  · have c7 := c7b
    try simp only [BS] at c7
    refine wk_seq ?_
    refine wk_region ?_
    refine wm (.int .i64 ((q - 1 : Nat) : Int)) rfl rfl rfl ?_
    refine wo_rs (rs_cutA (α := UInt8) (i := q - 1) (j := 20) ho5 hs6 (q := 0) rfl rfl rfl rfl optN0 (optN (by omega)) (by omega) (by omega) hcp4) rfl rfl ?_
    rintro _ _ _ ⟨a8, k8, rfl, hH8, hq8⟩
    simp only at hH8; subst hH8
    refine wo_val (v := (.string ⟨⟨((bs.set (q - 1) (UInt8.ofNat (48 + (m % 10)))).take 20).drop (q - 1)⟩⟩)) (ap_cvB rfl rfl rfl rfl (OS.sv hq8 hs6 (i := 0) rfl)) rfl rfl ?_
    refine wa (.string ⟨⟨((bs.set (q - 1) (UInt8.ofNat (48 + (m % 10)))).take 20).drop (q - 1)⟩⟩) rfl rfl rfl ?_
    refine wo_nil ?_
    refine wk_skip_seq ?_
    refine wk_ret ⟨.inr rfl, _, rfl, ((bs.set (q - 1) (UInt8.ofNat (48 + (m % 10)))).take 20).drop (q - 1), _, (hF3), (HS.forget hs6), rfl, (by rw [List.take_of_length_le (by omega)]; exact ((dec_step (by assumption) (by omega) h1 h4).2 (by omega)).symm)⟩
  · have c7 := c7b
    try simp only [BS] at c7
    refine wk_skip_block ?_
    refine wk_skip_seq ?_
    refine ih3 _ _ _ ?_ ⟨m / 10, q - 1, bs.set (q - 1) (UInt8.ofNat (48 + (m % 10))), p4, _, (Fz.le_trans hF3 (Fz.le_refl _)), hs6, ho5, hcp4, (agC rfl (agC rfl (agC rfl agN))), rfl, (by first | assumption | omega | (simp at *; omega)), (by rw [show q - 1 = q1 by omega]; rw [hq1, Nat.pow_succ] at h2; omega), (by first | assumption | omega | (simp at *; omega)), (by exact (dec_step (by assumption) (by omega) h1 h4).1 (by omega)), (by first | assumption | omega | (simp at *; omega))⟩
    omega

theorem text_c (ex : FuncId) (n : Int) {F : Fz} {H : Heap} {R : List Fp} (hs : HS (.of H []) F H [] R) (hn : in64 n) : C Try.prog 0 (KX ex) 14 [(.int .i64 n)] H fun v H' => ∃ (r : List UInt8) (F' : Fz), Fz.le F F' ∧ HS (.of H []) F' H' [] R ∧ v = .string ⟨⟨r⟩⟩ ∧ r = textS n := by
  refine c_enter Try.func14 rfl rfl ?_
  refine wk_seq ?_
  refine wk_region ?_
  refine wa (.string ⟨⟨[]⟩⟩) rfl rfl rfl ?_
  refine wo_nil ?_
  refine wk_skip_seq ?_
  refine wk_seq ?_
  refine wk_seq ?_
  refine wk_region ?_
  refine wm (.int .i64 n) rfl rfl rfl ?_
  refine wo_val (v := (.bool (decide (n < 0)))) (ap_cmp rfl rfl rfl rfl) rfl rfl ?_
  refine wo_nil ?_
  refine wk_skip_seq ?_
  refine wk_cond (v := (decide (n < 0))) rfl rfl (fun c1b => ?_) (fun c1b => ?_)
  · have c1 := c1b
    try simp only [BS] at c1
    refine wk_seq ?_
    refine wk_region ?_
    refine wm (.int .i64 n) rfl rfl rfl ?_
    refine wo_val (v := (.int .u64 (IntKind.u64.wrap n))) (ap_cv rfl rfl rfl rfl) rfl rfl ?_
    refine wo_val (v := (.int .u64 (IntKind.u64.wrap (0 - (IntKind.u64.wrap n))))) (ap_ng rfl rfl) rfl rfl ?_
    refine wo_call (ap_call rfl rfl rfl) rfl rfl (digits_c ex (IntKind.u64.wrap (0 - (IntKind.u64.wrap n))) (HS.call hs) (by first | omega | (simp only [u64_eq]; omega))) ?_
    rintro _ H2 ⟨r2, F2, hF2, hs2, rfl, rfl⟩
    replace hs2 := HS.back hs rfl hs2
    have hs2 : HS (Base.of H []) F2 H2 [] R := hs2
    refine wo_val (v := (.string ⟨⟨[45] ++ (dec (IntKind.u64.wrap (0 - (IntKind.u64.wrap n))).toNat)⟩⟩)) (ap_addS rfl rfl (by exact tx0 (dec_le ⟨by simp only [u64_eq]; omega, by simp only [u64_eq]; omega⟩))) rfl rfl ?_
    refine wa (.string ⟨⟨[45] ++ (dec (IntKind.u64.wrap (0 - (IntKind.u64.wrap n))).toNat)⟩⟩) rfl rfl rfl ?_
    refine wo_nil ?_
    refine wk_skip_seq ?_
    refine wk_ret ⟨.inr rfl, _, rfl, [45] ++ (dec (IntKind.u64.wrap (0 - (IntKind.u64.wrap n))).toNat), _, (hF2), (HS.forget hs2), rfl, (by first | exact (tx1 hn).1 (by assumption) | exact (tx1 hn).2 (by assumption))⟩
  · have c1 := c1b
    try simp only [BS] at c1
    refine wk_skip_seq ?_
    refine wk_seq ?_
    refine wk_region ?_
    refine wm (.int .i64 n) rfl rfl rfl ?_
    refine wo_val (v := (.int .u64 (IntKind.u64.wrap n))) (ap_cv rfl rfl rfl rfl) rfl rfl ?_
    refine wo_call (ap_call rfl rfl rfl) rfl rfl (digits_c ex (IntKind.u64.wrap n) (HS.call hs) (by first | omega | (simp only [u64_eq]; omega))) ?_
    rintro _ H3 ⟨r3, F3, hF3, hs3, rfl, rfl⟩
    replace hs3 := HS.back hs rfl hs3
    have hs3 : HS (Base.of H []) F3 H3 [] R := hs3
    refine wa (.string ⟨⟨dec (IntKind.u64.wrap n).toNat⟩⟩) rfl rfl rfl ?_
    refine wo_nil ?_
    refine wk_skip_seq ?_
    refine wk_ret ⟨.inr rfl, _, rfl, dec (IntKind.u64.wrap n).toNat, _, (hF3), (HS.forget hs3), rfl, (by first | exact (tx1 hn).1 (by assumption) | exact (tx1 hn).2 (by assumption))⟩

theorem head_getD {t : List UInt8} : t.headD 0 = t.getD 0 0 := by cases t <;> rfl
theorem c48 {c : UInt8} : (c.toNat : Int) = 48 ↔ c = 48 := u8eq (n := 48) (by decide)
theorem c45 {c : UInt8} : (c.toNat : Int) = 45 ↔ c = 45 := u8eq (n := 45) (by decide)
def sgn : Option Nat → Option Int
  | some 0 => none
  | some n => some (-(n : Int))
  | none => none
theorem parse_b {s : List UInt8} (h : 0 < (s.length : Int) ∧ ((s.getD 0 0).toNat : Int) = 45) : parseS s = sgn (posS (s.drop 1) 9223372036854775808) := by
  unfold parseS
  rw [head_getD, if_pos (c45.1 h.2), w_tail]
  cases posS (s.drop 1) 9223372036854775808 with
  | none => rfl
  | some n => cases n <;> rfl
theorem parse_p {s : List UInt8} (h : 0 < (s.length : Int) → ((s.getD 0 0).toNat : Int) ≠ 45) : parseS s = (posS s 9223372036854775807).map fun n => (n : Int) := by
  unfold parseS
  have : s.headD 0 ≠ 45 := by
    rw [head_getD]
    intro e
    cases s with
    | nil => cases e
    | cons a l => exact h (by simp) (c45.2 e)
  rw [if_neg this]
  cases posS s 9223372036854775807 <;> rfl
theorem ps_len {t : List UInt8} {m : Nat} (h : t.length < 1 ∨ 19 < t.length) : posS t m = none := by
  unfold posS; rw [if_neg]
  rintro ⟨h1, _⟩
  obtain ⟨h2, h3, _⟩ := okNum_iff.1 h1
  omega
theorem ps_zero {t : List UInt8} {m : Nat} (h : t.getD 0 0 = 48) : posS t m = if t.length = 1 then some 0 else none := by
  unfold posS
  split
  · rename_i h1
    obtain ⟨h2, h3, h4, h5⟩ := okNum_iff.1 h1.1
    rw [if_pos (h5 h)]
    match t, h5 h with
    | [a], _ =>
      have : a = 48 := h
      subst this; rfl
  · rename_i h1
    split
    · rename_i h2
      exfalso; apply h1
      match t, h2 with
      | [a], _ =>
        have : a = 48 := h
        subst this; exact ⟨by decide, by show 0 ≤ m; omega⟩
    · rfl
theorem ps_bad {t : List UInt8} {i m : Nat} (hi : i < t.length) (h : ((t.getD i 0).toNat : Int) < 48 ∨ 57 < ((t.getD i 0).toNat : Int)) : posS t m = none := by
  unfold posS; rw [if_neg]
  rintro ⟨h1, _⟩
  obtain ⟨_, _, h4, _⟩ := okNum_iff.1 h1
  have := dig_iff.1 (List.all_eq_true.1 h4 (t.getD i 0) (List.mem_of_getElem? (getD_at hi)))
  omega
theorem ps_ok {t : List UInt8} {m : Nat} (h1 : 1 ≤ t.length) (h2 : t.length ≤ 19) (h3 : t.all isDig = true) (h4 : t.getD 0 0 = 48 → t.length = 1) : posS t m = if val t ≤ m then some (val t) else none := by
  unfold posS
  have : okNum t = true := okNum_iff.2 ⟨h1, h2, h3, h4⟩
  simp only [this, true_and]
theorem wr1 {m : Nat} (h : m ≤ 9223372036854775808) : IntKind.i64.wrap (IntKind.u64.wrap (0 - (m : Int))) = -(m : Int) := by
  rw [u64_eq, IntKind.wrap_i64]; omega
theorem wr2 {m : Nat} (h : m ≤ 9223372036854775807) : IntKind.i64.wrap (m : Int) = (m : Int) := w_i64 ⟨by omega, by omega⟩
theorem sgn_of {n : Nat} (h : 0 < n) : sgn (some n) = some (-(n : Int)) := by
  cases n with
  | zero => omega
  | succ n => rfl
theorem pb1 {s : List UInt8} {q : Prop} (h : 0 < (s.length : Int) ∧ ((s.getD 0 0).toNat : Int) = 45) (c : (((s.drop 1).length : Int) < 1 ∨ 19 < ((s.drop 1).length : Int)) ∨ (((s.drop 1).getD 0 0).toNat : Int) = 48 ∧ q) : parseS s = none := by
  rw [parse_b h]
  rcases c with c | ⟨c, _⟩
  · rw [ps_len (by omega)]; rfl
  · rw [ps_zero (c48.1 c)]; split <;> rfl
theorem pp1 {s : List UInt8} (h : 0 < (s.length : Int) → ((s.getD 0 0).toNat : Int) ≠ 45) (c : ((s.length : Int) < 1 ∨ 19 < (s.length : Int)) ∨ ((s.getD 0 0).toNat : Int) = 48 ∧ (1 < (s.length : Int) ∨ 0 < (s.length : Int) ∧ ((s.getD 0 0).toNat : Int) = 45)) : parseS s = none := by
  rw [parse_p h]
  rcases c with c | ⟨c, c'⟩
  · rw [ps_len (by omega)]; rfl
  · rw [ps_zero (c48.1 c), if_neg (by rcases c' with c' | ⟨c1, c2⟩; omega; exact absurd c2 (h c1))]; rfl
theorem pb2 {s : List UInt8} {i : Nat} (h : 0 < (s.length : Int) ∧ ((s.getD 0 0).toNat : Int) = 45) (hi : (i : Int) < ((s.drop 1).length : Int)) (c : (((s.drop 1).getD i 0).toNat : Int) < 48 ∨ 57 < (((s.drop 1).getD i 0).toNat : Int)) : parseS s = none := by
  rw [parse_b h, ps_bad (i := i) (by omega) c]; rfl
theorem pp2 {s : List UInt8} {i : Nat} (h : 0 < (s.length : Int) → ((s.getD 0 0).toNat : Int) ≠ 45) (hi : (i : Int) < (s.length : Int)) (c : ((s.getD i 0).toNat : Int) < 48 ∨ 57 < ((s.getD i 0).toNat : Int)) : parseS s = none := by
  rw [parse_p h, ps_bad (i := i) (by omega) c]; rfl
theorem fin_len {t : List UInt8} {i m : Nat} (h1 : i ≤ t.length) (c : ¬ (i : Int) < (t.length : Int)) (h2 : m = val (t.take i)) (h3 : (t.take i).all isDig = true) : m = val t ∧ t.all isDig = true := by
  have : t.take i = t := List.take_of_length_le (by omega)
  rw [this] at h2 h3; exact ⟨h2, h3⟩
theorem pb3 {s : List UInt8} {i m : Nat} {q : Prop} (h : 0 < (s.length : Int) ∧ ((s.getD 0 0).toNat : Int) = 45) (c : (¬ ((s.drop 1).length : Int) < 1 ∧ ¬ 19 < ((s.drop 1).length : Int)) ∧ ((((s.drop 1).getD 0 0).toNat : Int) = 48 → ¬ 1 < ((s.drop 1).length : Int) ∧ q)) (hq : ¬ q)
    (h1 : i ≤ (s.drop 1).length) (ci : ¬ (i : Int) < ((s.drop 1).length : Int)) (h2 : m = val ((s.drop 1).take i)) (h3 : ((s.drop 1).take i).all isDig = true) : parseS s = if m ≤ 9223372036854775808 then some (-(m : Int)) else none := by
  obtain ⟨e1, e2⟩ := fin_len h1 ci h2 h3
  have h48 : (s.drop 1).getD 0 0 ≠ 48 := fun e => hq (c.2 (c48.2 e)).2
  rw [parse_b h, ps_ok (by omega) (by omega) e2 (fun e => absurd e h48), ← e1]
  split
  · rw [sgn_of]
    -- the first digit is not zero
    rw [e1]
    have hl : 1 ≤ (s.drop 1).length := by omega
    generalize s.drop 1 = t at *
    cases t with
    | nil => simp at hl
    | cons a l =>
      have ha : a ≠ 48 := h48
      have hd := dig_iff.1 (List.all_eq_true.1 e2 a (by simp))
      have ha' : a.toNat ≠ 48 := fun e => ha (UInt8.toNat_inj.1 e)
      have key : ∀ (l : List UInt8) (n : Nat), 0 < n → 0 < l.foldl valA n := by
        intro l
        induction l with
        | nil => intro n hn; exact hn
        | cons b l ih => intro n hn; exact ih _ (by unfold valA; omega)
      exact key l _ (by unfold valA; omega)
  · rfl
theorem pp3 {s : List UInt8} {i m : Nat} {q : Prop} (h : 0 < (s.length : Int) → ((s.getD 0 0).toNat : Int) ≠ 45) (c : (¬ (s.length : Int) < 1 ∧ ¬ 19 < (s.length : Int)) ∧ (((s.getD 0 0).toNat : Int) = 48 → ¬ 1 < (s.length : Int) ∧ q))
    (h1 : i ≤ s.length) (ci : ¬ (i : Int) < (s.length : Int)) (h2 : m = val (s.take i)) (h3 : (s.take i).all isDig = true) : parseS s = if m ≤ 9223372036854775807 then some (m : Int) else none := by
  obtain ⟨e1, e2⟩ := fin_len h1 ci h2 h3
  rw [parse_p h, ps_ok (by omega) (by omega) e2 (fun e => by have := (c.2 (c48.2 e)).1; omega), ← e1]
  split <;> rfl

theorem parse_c (ex : FuncId) (s : List UInt8) (H : Heap) : C Try.prog 0 (KX ex) 13 [(.string ⟨⟨s⟩⟩)] H fun v H' => ∃ (r : Int) (ok : Bool), H' = H ∧ v = .tuple ⟨[.int .i64 r, .bool ok]⟩ ∧ r = (parseS s).getD 0 ∧ ok = (parseS s).isSome := by
  refine c_enter Try.func13 rfl rfl ?_
  refine wk_seq ?_
  refine wk_region ?_
  refine wa (.int .i64 0) rfl rfl rfl ?_
  refine wa (.bool false) rfl rfl rfl ?_
  refine wo_nil ?_
  refine wk_skip_seq ?_
  refine wk_seq ?_
  refine wk_region ?_
  refine wm (.string ⟨⟨s⟩⟩) rfl rfl rfl ?_
  refine wa (.string ⟨⟨s⟩⟩) rfl rfl rfl ?_
  refine wo_nil ?_
  refine wk_skip_seq ?_
  refine wk_seq ?_
  refine wk_rcut 10 17 [5] [(5, (.bool ((decide ((0 : Int) < (s.length : Int))) && (((s.getD 0 0).toNat : Int) == 45))))] (fun H' => H' = H) ?_ ?_
  · skip
    refine wk_region ?_
    refine wm (.string ⟨⟨s⟩⟩) rfl rfl rfl ?_
    refine wo_val (v := (.int .i64 (s.length : Int))) (ap_lenS rfl rfl) rfl rfl ?_
    refine wo_val (v := (.bool (decide ((0 : Int) < (s.length : Int))))) (ap_cmp rfl rfl rfl rfl) rfl rfl ?_
    refine wm (.bool (decide ((0 : Int) < (s.length : Int)))) rfl rfl rfl ?_
    refine wo_gsT (v := (decide ((0 : Int) < (s.length : Int)))) rfl rfl (fun g2 => ?_) (fun g2 => ?_)
    · have pg2 := g2
      try simp only [BS] at pg2
      refine wm (.string ⟨⟨s⟩⟩) rfl rfl rfl ?_
      refine wo_gt rfl g2 ?_
      have u8_3 := u8_lt (s.getD 0 0)
      refine wo_val (v := (.int .u8 ((s.getD 0 0).toNat : Int))) (ap_idxS (j := 0) rfl rfl rfl (by decide) (getD_at (by omega))) rfl rfl ?_
      refine wo_gt rfl g2 ?_
      refine wo_val (v := (.bool (((s.getD 0 0).toNat : Int) == 45))) (ap_cmp rfl rfl rfl rfl) rfl rfl ?_
      refine wo_val (v := (.bool (((s.getD 0 0).toNat : Int) == 45))) (ap_pickT rfl g2 rfl) rfl rfl ?_
      refine wa (.bool (((s.getD 0 0).toNat : Int) == 45)) rfl rfl rfl ?_
      refine wo_nil ?_
      exact wk_skip_nil ⟨rfl, rfl, (Lu rfl (Lu rfl (Lu rfl (Lu rfl (Lu rfl (Lu rfl (Lu rfl (Lu rfl (Lu rfl Lr))))))))), (agC (congrArg Value.bool (show (((s.getD 0 0).toNat : Int) == 45) = ((decide ((0 : Int) < (s.length : Int))) && (((s.getD 0 0).toNat : Int) == 45)) by simp only [↓g2, BT])) agN)⟩
    · have pg2 := g2
      try simp only [BS] at pg2
      refine wo_gf1 rfl g2 rfl ?_
      refine wo_gf1 rfl g2 rfl ?_
      refine wo_val (v := (.bool false)) (ap_pickF rfl g2 rfl) rfl rfl ?_
      refine wa (.bool false) rfl rfl rfl ?_
      refine wo_nil ?_
      exact wk_skip_nil ⟨rfl, rfl, (Lu rfl (Lu rfl (Lu rfl (Lu rfl (Lu rfl (Lu rfl (Lu rfl (Lu rfl (Lu rfl Lr))))))))), (agC (congrArg Value.bool (show false = ((decide ((0 : Int) < (s.length : Int))) && (((s.getD 0 0).toNat : Int) == 45)) by simp only [↓g2, BT])) agN)⟩
  · skip
    rintro g1 H rfl
    refine wk_skip_seq ?_
    refine wk_seq ?_
    refine wk_seq ?_
    refine wk_region ?_
    refine wm (.bool ((decide ((0 : Int) < (s.length : Int))) && (((s.getD 0 0).toNat : Int) == 45))) rfl rfl rfl ?_
    refine wo_nil ?_
    refine wk_skip_seq ?_
    refine wk_cond (v := ((decide ((0 : Int) < (s.length : Int))) && (((s.getD 0 0).toNat : Int) == 45))) rfl rfl (fun c4b => ?_) (fun c4b => ?_)
    · have c4 := c4b
      try simp only [BS] at c4
      have pb := c4
      refine wk_region ?_
      refine wm (.string ⟨⟨s⟩⟩) rfl rfl rfl ?_
      refine wo_val (v := (.string ⟨⟨s.drop 1⟩⟩)) (ap_slSd (i := 1) rfl rfl (optN (by decide)) (by omega)) rfl rfl ?_
      refine wa (.string ⟨⟨s.drop 1⟩⟩) rfl rfl rfl ?_
      refine wo_nil ?_
      refine wk_skip_seq ?_
      refine wk_seq ?_
      refine wk_seq ?_
      refine wk_rcut 21 41 [] [(41, (.bool (((decide (((s.drop 1).length : Int) < 1)) || (decide ((19 : Int) < ((s.drop 1).length : Int)))) || (((((s.drop 1).getD 0 0).toNat : Int) == 48) && ((decide ((1 : Int) < ((s.drop 1).length : Int))) || ((decide ((0 : Int) < (s.length : Int))) && (((s.getD 0 0).toNat : Int) == 45)))))))] (fun H' => H' = H) ?_ ?_
      · skip
        refine wk_region ?_
        refine wm (.string ⟨⟨s.drop 1⟩⟩) rfl rfl rfl ?_
        refine wo_val (v := (.int .i64 ((s.drop 1).length : Int))) (ap_lenS rfl rfl) rfl rfl ?_
        refine wo_val (v := (.bool (decide (((s.drop 1).length : Int) < 1)))) (ap_cmp rfl rfl rfl rfl) rfl rfl ?_
        refine wm (.bool (decide (((s.drop 1).length : Int) < 1))) rfl rfl rfl ?_
        refine wo_gsF (v := (decide (((s.drop 1).length : Int) < 1))) rfl rfl (fun g6 => ?_) (fun g6 => ?_)
        · have pg6 := g6
          try simp only [BS] at pg6
          refine wm (.string ⟨⟨s.drop 1⟩⟩) rfl rfl rfl ?_
          refine wo_gt rfl g6 ?_
          refine wo_val (v := (.int .i64 ((s.drop 1).length : Int))) (ap_lenS rfl rfl) rfl rfl ?_
          refine wo_gt rfl g6 ?_
          refine wo_val (v := (.bool (decide ((19 : Int) < ((s.drop 1).length : Int))))) (ap_cmp rfl rfl rfl rfl) rfl rfl ?_
          refine wo_val (v := (.bool (decide ((19 : Int) < ((s.drop 1).length : Int))))) (ap_pickF rfl g6 rfl) rfl rfl ?_
          refine wm (.bool (decide ((19 : Int) < ((s.drop 1).length : Int)))) rfl rfl rfl ?_
          refine wo_gsF (v := (decide ((19 : Int) < ((s.drop 1).length : Int)))) rfl rfl (fun g7 => ?_) (fun g7 => ?_)
          · have pg7 := g7
            try simp only [BS] at pg7
            refine wm (.string ⟨⟨s.drop 1⟩⟩) rfl rfl rfl ?_
            refine wo_gt rfl g7 ?_
            have u8_8 := u8_lt ((s.drop 1).getD 0 0)
            refine wo_val (v := (.int .u8 (((s.drop 1).getD 0 0).toNat : Int))) (ap_idxS (j := 0) rfl rfl rfl (by decide) (getD_at (by omega))) rfl rfl ?_
            refine wo_gt rfl g7 ?_
            refine wo_val (v := (.bool ((((s.drop 1).getD 0 0).toNat : Int) == 48))) (ap_cmp rfl rfl rfl rfl) rfl rfl ?_
            refine wo_gt rfl g7 ?_
            refine wm (.bool ((((s.drop 1).getD 0 0).toNat : Int) == 48)) rfl rfl rfl ?_
            refine wo_gsT (v := ((((s.drop 1).getD 0 0).toNat : Int) == 48)) rfl rfl (fun g9 => ?_) (fun g9 => ?_)
            · have pg9 := g9
              try simp only [BS] at pg9
              refine wm (.string ⟨⟨s.drop 1⟩⟩) rfl rfl rfl ?_
              refine wo_gt rfl g9 ?_
              refine wo_val (v := (.int .i64 ((s.drop 1).length : Int))) (ap_lenS rfl rfl) rfl rfl ?_
              refine wo_gt rfl g9 ?_
              refine wo_val (v := (.bool (decide ((1 : Int) < ((s.drop 1).length : Int))))) (ap_cmp rfl rfl rfl rfl) rfl rfl ?_
              refine wo_gt rfl g9 ?_
              refine wm (.bool (decide ((1 : Int) < ((s.drop 1).length : Int)))) rfl rfl rfl ?_
              refine wo_gsF (v := (decide ((1 : Int) < ((s.drop 1).length : Int)))) rfl rfl (fun g10 => ?_) (fun g10 => ?_)
              · have pg10 := g10
                try simp only [BS] at pg10
                refine wm (.bool ((decide ((0 : Int) < (s.length : Int))) && (((s.getD 0 0).toNat : Int) == 45))) rfl rfl rfl ?_
                refine wo_gt rfl g9 ?_
                refine wo_val (v := (.bool ((decide ((0 : Int) < (s.length : Int))) && (((s.getD 0 0).toNat : Int) == 45)))) (ap_pickF rfl g10 rfl) rfl rfl ?_
                refine wo_gt rfl g7 ?_
                refine wo_val (v := (.bool ((decide ((0 : Int) < (s.length : Int))) && (((s.getD 0 0).toNat : Int) == 45)))) (ap_pickT rfl g9 rfl) rfl rfl ?_
                refine wo_val (v := (.bool ((decide ((0 : Int) < (s.length : Int))) && (((s.getD 0 0).toNat : Int) == 45)))) (ap_pickF rfl g7 rfl) rfl rfl ?_
                refine wo_nil ?_
                exact wk_skip_nil ⟨rfl, rfl, (Lu rfl (Lu rfl (Lu rfl (Lu rfl (Lu rfl (Lu rfl (Lu rfl (Lu rfl (Lu rfl (Lu rfl (Lu rfl (Lu rfl (Lu rfl (Lu rfl (Lu rfl (Lu rfl (Lu rfl (Lu rfl (Lu rfl (Lu rfl (Lu rfl Lr))))))))))))))))))))), (agC (congrArg Value.bool (show ((decide ((0 : Int) < (s.length : Int))) && (((s.getD 0 0).toNat : Int) == 45)) = (((decide (((s.drop 1).length : Int) < 1)) || (decide ((19 : Int) < ((s.drop 1).length : Int)))) || (((((s.drop 1).getD 0 0).toNat : Int) == 48) && ((decide ((1 : Int) < ((s.drop 1).length : Int))) || ((decide ((0 : Int) < (s.length : Int))) && (((s.getD 0 0).toNat : Int) == 45))))) by simp only [↓g6, ↓g7, ↓g9, ↓g10, BT])) agN)⟩
              · have pg10 := g10
                try simp only [BS] at pg10
                refine wo_gt rfl g9 ?_
                refine wo_val (v := (.bool true)) (ap_pickT rfl g10 rfl) rfl rfl ?_
                refine wo_gt rfl g7 ?_
                refine wo_val (v := (.bool true)) (ap_pickT rfl g9 rfl) rfl rfl ?_
                refine wo_val (v := (.bool true)) (ap_pickF rfl g7 rfl) rfl rfl ?_
                refine wo_nil ?_
                exact wk_skip_nil ⟨rfl, rfl, (Lu rfl (Lu rfl (Lu rfl (Lu rfl (Lu rfl (Lu rfl (Lu rfl (Lu rfl (Lu rfl (Lu rfl (Lu rfl (Lu rfl (Lu rfl (Lu rfl (Lu rfl (Lu rfl (Lu rfl (Lu rfl (Lu rfl (Lu rfl (Lu rfl Lr))))))))))))))))))))), (agC (congrArg Value.bool (show true = (((decide (((s.drop 1).length : Int) < 1)) || (decide ((19 : Int) < ((s.drop 1).length : Int)))) || (((((s.drop 1).getD 0 0).toNat : Int) == 48) && ((decide ((1 : Int) < ((s.drop 1).length : Int))) || ((decide ((0 : Int) < (s.length : Int))) && (((s.getD 0 0).toNat : Int) == 45))))) by simp only [↓g6, ↓g7, ↓g9, ↓g10, BT])) agN)⟩
            · have pg9 := g9
              try simp only [BS] at pg9
              refine wo_gf1 rfl g9 rfl ?_
              refine wo_gf1 rfl g9 rfl ?_
              refine wo_gf1 rfl g9 rfl ?_
              refine wo_gn rfl rfl ?_
              refine wo_gf1 rfl g9 rfl ?_
              refine wo_gt rfl g7 ?_
              refine wo_val (v := (.bool false)) (ap_pickF rfl g9 rfl) rfl rfl ?_
              refine wo_val (v := (.bool false)) (ap_pickF rfl g7 rfl) rfl rfl ?_
              refine wo_nil ?_
              exact wk_skip_nil ⟨rfl, rfl, (Lu rfl (Lu rfl (Lu rfl (Lu rfl (Lu rfl (Lu rfl (Lu rfl (Lu rfl (Lu rfl (Lu rfl (Lu rfl (Lu rfl (Lu rfl (Lu rfl (Lu rfl (Lu rfl (Lu rfl (Lu rfl (Lu rfl (Lu rfl (Lu rfl Lr))))))))))))))))))))), (agC (congrArg Value.bool (show false = (((decide (((s.drop 1).length : Int) < 1)) || (decide ((19 : Int) < ((s.drop 1).length : Int)))) || (((((s.drop 1).getD 0 0).toNat : Int) == 48) && ((decide ((1 : Int) < ((s.drop 1).length : Int))) || ((decide ((0 : Int) < (s.length : Int))) && (((s.getD 0 0).toNat : Int) == 45))))) by simp only [↓g6, ↓g7, ↓g9, BT])) agN)⟩
          · have pg7 := g7
            try simp only [BS] at pg7
            refine wo_gf0 rfl g7 rfl ?_
            refine wo_gf0 rfl g7 rfl ?_
            refine wo_gf0 rfl g7 rfl ?_
            refine wo_gn rfl rfl ?_
            refine wo_gn rfl rfl ?_
            refine wo_gn rfl rfl ?_
            refine wo_gn rfl rfl ?_
            refine wo_gn rfl rfl ?_
            refine wo_gn rfl rfl ?_
            refine wo_gf0 rfl g7 rfl ?_
            refine wo_val (v := (.bool true)) (ap_pickT rfl g7 rfl) rfl rfl ?_
            refine wo_nil ?_
            exact wk_skip_nil ⟨rfl, rfl, (Lu rfl (Lu rfl (Lu rfl (Lu rfl (Lu rfl (Lu rfl (Lu rfl (Lu rfl (Lu rfl (Lu rfl (Lu rfl (Lu rfl (Lu rfl (Lu rfl (Lu rfl (Lu rfl (Lu rfl (Lu rfl (Lu rfl (Lu rfl (Lu rfl Lr))))))))))))))))))))), (agC (congrArg Value.bool (show true = (((decide (((s.drop 1).length : Int) < 1)) || (decide ((19 : Int) < ((s.drop 1).length : Int)))) || (((((s.drop 1).getD 0 0).toNat : Int) == 48) && ((decide ((1 : Int) < ((s.drop 1).length : Int))) || ((decide ((0 : Int) < (s.length : Int))) && (((s.getD 0 0).toNat : Int) == 45))))) by simp only [↓g6, ↓g7, BT])) agN)⟩
        · have pg6 := g6
          try simp only [BS] at pg6
          refine wo_gf0 rfl g6 rfl ?_
          refine wo_gf0 rfl g6 rfl ?_
          refine wo_val (v := (.bool true)) (ap_pickT rfl g6 rfl) rfl rfl ?_
          refine wm (.bool true) rfl rfl rfl ?_
          refine wo_gf0 rfl rfl rfl ?_
          refine wo_gf0 rfl rfl rfl ?_
          refine wo_gf0 rfl rfl rfl ?_
          refine wo_gf0 rfl rfl rfl ?_
          refine wo_gn rfl rfl ?_
          refine wo_gn rfl rfl ?_
          refine wo_gn rfl rfl ?_
          refine wo_gn rfl rfl ?_
          refine wo_gn rfl rfl ?_
          refine wo_gn rfl rfl ?_
          refine wo_gf0 rfl rfl rfl ?_
          refine wo_val (v := (.bool true)) (ap_pickT rfl rfl rfl) rfl rfl ?_
          refine wo_nil ?_
          exact wk_skip_nil ⟨rfl, rfl, (Lu rfl (Lu rfl (Lu rfl (Lu rfl (Lu rfl (Lu rfl (Lu rfl (Lu rfl (Lu rfl (Lu rfl (Lu rfl (Lu rfl (Lu rfl (Lu rfl (Lu rfl (Lu rfl (Lu rfl (Lu rfl (Lu rfl (Lu rfl (Lu rfl Lr))))))))))))))))))))), (agC (congrArg Value.bool (show true = (((decide (((s.drop 1).length : Int) < 1)) || (decide ((19 : Int) < ((s.drop 1).length : Int)))) || (((((s.drop 1).getD 0 0).toNat : Int) == 48) && ((decide ((1 : Int) < ((s.drop 1).length : Int))) || ((decide ((0 : Int) < (s.length : Int))) && (((s.getD 0 0).toNat : Int) == 45))))) by simp only [↓g6, BT])) agN)⟩
      · skip
        rintro g5 H rfl
        refine wk_skip_seq ?_
        refine wk_cond (v := (((decide (((s.drop 1).length : Int) < 1)) || (decide ((19 : Int) < ((s.drop 1).length : Int)))) || (((((s.drop 1).getD 0 0).toNat : Int) == 48) && ((decide ((1 : Int) < ((s.drop 1).length : Int))) || ((decide ((0 : Int) < (s.length : Int))) && (((s.getD 0 0).toNat : Int) == 45)))))) rfl rfl (fun c11b => ?_) (fun c11b => ?_)
        · have c11 := c11b
          try simp only [BS] at c11
          have pc := c11
          refine wk_seq ?_
          refine wk_region ?_
          refine wa (.int .i64 0) rfl rfl rfl ?_
          refine wa (.bool false) rfl rfl rfl ?_
          refine wo_nil ?_
          refine wk_skip_seq ?_
          refine wk_ret ⟨.inr rfl, _, rfl, 0, false, rfl, rfl, (by have e := pb1 pb pc; rw [e]; (try rfl)), (by have e := pb1 pb pc; rw [e]; (try rfl))⟩
        · have c11 := c11b
          try simp only [BS] at c11
          have pc := c11
          refine wk_skip_seq ?_
          refine wk_seq ?_
          refine wk_region ?_
          refine wa (.int .u64 0) rfl rfl rfl ?_
          refine wo_nil ?_
          refine wk_skip_seq ?_
          refine wk_seq ?_
          refine wk_seq ?_
          refine wk_region ?_
          refine wa (.int .i64 0) rfl rfl rfl ?_
          refine wo_nil ?_
          refine wk_skip_seq ?_
          refine wk_block ?_
          refine wk_loop_inv (fun (mm : Nat) f H' => ∃ (i : Nat) (m : Nat), H' = H ∧ agrees f [(4, (.string ⟨⟨s.drop 1⟩⟩)), (5, (.bool ((decide ((0 : Int) < (s.length : Int))) && (((s.getD 0 0).toNat : Int) == 45)))), (6, (.int .u64 (m : Int))), (7, (.int .i64 (i : Int)))] ∧ mm = (s.drop 1).length - i ∧ (i ≤ (s.drop 1).length) ∧ (m = val ((s.drop 1).take i)) ∧ (((s.drop 1).take i).all isDig = true) ∧ (m < 10 ^ i) ∧ ((s.drop 1).length ≤ 19)) _ ⟨0, 0, rfl, (agC rfl (agC rfl (agC rfl (agC rfl agN)))), rfl, (by first | assumption | omega | (simp at *; omega)), (by first | rfl | (rw [val_take (by omega), h2])), (by first | rfl | (rw [all_take (by omega), h3, Bool.true_and, dig_iff]; omega)), (by first | decide | (rw [Nat.pow_succ]; omega)), (by first | assumption | omega | (simp at *; omega))⟩ ?_
          rintro mm12 f12 H ⟨i, m, rfl, hf12, rfl, h1, h2, h3, h4, h5⟩ ih12
          refine wk_canon _ hf12 (fun gg12 => ?_)
          clear hf12
          refine wk_seq ?_
          refine wk_seq ?_
          refine wk_region ?_
          refine wm (.int .i64 (i : Int)) rfl rfl rfl ?_
          refine wm (.string ⟨⟨s.drop 1⟩⟩) rfl rfl rfl ?_
          refine wo_val (v := (.int .i64 ((s.drop 1).length : Int))) (ap_lenS rfl rfl) rfl rfl ?_
          refine wo_val (v := (.bool (decide ((i : Int) < ((s.drop 1).length : Int))))) (ap_cmp rfl rfl rfl rfl) rfl rfl ?_
          refine wo_nil ?_
          refine wk_skip_seq ?_
          refine wk_cond (v := (decide ((i : Int) < ((s.drop 1).length : Int)))) rfl rfl (fun c13b => ?_) (fun c13b => ?_)
          · have c13 := c13b
            try simp only [BS] at c13
            have hp := pow_le (show i ≤ 18 by omega)
            have pi := c13
            refine wk_skip_seq ?_
            refine wk_seq ?_
            refine wk_block ?_
            refine wk_seq ?_
            refine wk_seq ?_
            refine wk_rcut 48 57 [] [(57, (.bool ((decide ((((s.drop 1).getD i 0).toNat : Int) < 48)) || (decide ((57 : Int) < (((s.drop 1).getD i 0).toNat : Int))))))] (fun H' => H' = H) ?_ ?_
            · skip
              refine wk_region ?_
              refine wm (.string ⟨⟨s.drop 1⟩⟩) rfl rfl rfl ?_
              refine wm (.int .i64 (i : Int)) rfl rfl rfl ?_
              have u8_15 := u8_lt ((s.drop 1).getD i 0)
              refine wo_val (v := (.int .u8 (((s.drop 1).getD i 0).toNat : Int))) (ap_idxS (j := (i : Int)) rfl rfl rfl (by omega) (getD_at (by omega))) rfl rfl ?_
              refine wo_val (v := (.bool (decide ((((s.drop 1).getD i 0).toNat : Int) < 48)))) (ap_cmp rfl rfl rfl rfl) rfl rfl ?_
              refine wm (.bool (decide ((((s.drop 1).getD i 0).toNat : Int) < 48))) rfl rfl rfl ?_
              refine wo_gsF (v := (decide ((((s.drop 1).getD i 0).toNat : Int) < 48))) rfl rfl (fun g16 => ?_) (fun g16 => ?_)
              · have pg16 := g16
                try simp only [BS] at pg16
                refine wm (.string ⟨⟨s.drop 1⟩⟩) rfl rfl rfl ?_
                refine wo_gt rfl g16 ?_
                refine wm (.int .i64 (i : Int)) rfl rfl rfl ?_
                refine wo_gt rfl g16 ?_
                have u8_17 := u8_lt ((s.drop 1).getD i 0)
                refine wo_val (v := (.int .u8 (((s.drop 1).getD i 0).toNat : Int))) (ap_idxS (j := (i : Int)) rfl rfl rfl (by omega) (getD_at (by omega))) rfl rfl ?_
                refine wo_gt rfl g16 ?_
                refine wo_val (v := (.bool (decide ((57 : Int) < (((s.drop 1).getD i 0).toNat : Int))))) (ap_cmp rfl rfl rfl rfl) rfl rfl ?_
                refine wo_val (v := (.bool (decide ((57 : Int) < (((s.drop 1).getD i 0).toNat : Int))))) (ap_pickF rfl g16 rfl) rfl rfl ?_
                refine wo_nil ?_
                exact wk_skip_nil ⟨rfl, rfl, (Lu rfl (Lu rfl (Lu rfl (Lu rfl (Lu rfl (Lu rfl (Lu rfl (Lu rfl (Lu rfl (Lu rfl Lr)))))))))), (agC (congrArg Value.bool (show (decide ((57 : Int) < (((s.drop 1).getD i 0).toNat : Int))) = ((decide ((((s.drop 1).getD i 0).toNat : Int) < 48)) || (decide ((57 : Int) < (((s.drop 1).getD i 0).toNat : Int)))) by simp only [↓g16, BT])) agN)⟩
              · have pg16 := g16
                try simp only [BS] at pg16
                refine wo_gf0 rfl g16 rfl ?_
                refine wo_gf0 rfl g16 rfl ?_
                refine wo_gf0 rfl g16 rfl ?_
                refine wo_val (v := (.bool true)) (ap_pickT rfl g16 rfl) rfl rfl ?_
                refine wo_nil ?_
                exact wk_skip_nil ⟨rfl, rfl, (Lu rfl (Lu rfl (Lu rfl (Lu rfl (Lu rfl (Lu rfl (Lu rfl (Lu rfl (Lu rfl (Lu rfl Lr)))))))))), (agC (congrArg Value.bool (show true = ((decide ((((s.drop 1).getD i 0).toNat : Int) < 48)) || (decide ((57 : Int) < (((s.drop 1).getD i 0).toNat : Int)))) by simp only [↓g16, BT])) agN)⟩
            · skip
              rintro g14 H rfl
              refine wk_skip_seq ?_
              refine wk_cond (v := ((decide ((((s.drop 1).getD i 0).toNat : Int) < 48)) || (decide ((57 : Int) < (((s.drop 1).getD i 0).toNat : Int))))) rfl rfl (fun c18b => ?_) (fun c18b => ?_)
              · have c18 := c18b
                try simp only [BS] at c18
                have pd := c18
                refine wk_seq ?_
                refine wk_region ?_
                refine wa (.int .i64 0) rfl rfl rfl ?_
                refine wa (.bool false) rfl rfl rfl ?_
                refine wo_nil ?_
                refine wk_skip_seq ?_
                refine wk_ret ⟨.inr rfl, _, rfl, 0, false, rfl, rfl, (by have e := pb2 pb pi pd; rw [e]; (try rfl)), (by have e := pb2 pb pi pd; rw [e]; (try rfl))⟩
              · have c18 := c18b
                try simp only [BS] at c18
                refine wk_skip_seq ?_
                refine wk_region ?_
                refine wm (.int .u64 (m : Int)) rfl rfl rfl ?_
                refine wo_val (v := (.int .u64 (10 * (m : Int)))) (ap_mul rfl rfl (w_u64 (n := 10 * (m : Int)) (by omega))) rfl rfl ?_
                refine wm (.string ⟨⟨s.drop 1⟩⟩) rfl rfl rfl ?_
                refine wm (.int .i64 (i : Int)) rfl rfl rfl ?_
                have u8_19 := u8_lt ((s.drop 1).getD i 0)
                refine wo_val (v := (.int .u8 (((s.drop 1).getD i 0).toNat : Int))) (ap_idxS (j := (i : Int)) rfl rfl rfl (by omega) (getD_at (by omega))) rfl rfl ?_
                refine wo_val (v := (.int .u8 (((((s.drop 1).getD i 0).toNat) - 48 : Nat) : Int))) (ap_sub rfl rfl (natsub (a := (((s.drop 1).getD i 0).toNat)) (b := 48) (by omega) (w_u8 (by omega)))) rfl rfl ?_
                refine wo_val (v := (.int .u64 (((((s.drop 1).getD i 0).toNat) - 48 : Nat) : Int))) (ap_cv rfl rfl rfl (w_u64 (n := (((((s.drop 1).getD i 0).toNat) - 48 : Nat) : Int)) (by omega))) rfl rfl ?_
                refine wo_val (v := (.int .u64 ((10 * (m : Int)) + (((((s.drop 1).getD i 0).toNat) - 48 : Nat) : Int)))) (ap_add rfl rfl (w_u64 (n := (10 * (m : Int)) + (((((s.drop 1).getD i 0).toNat) - 48 : Nat) : Int)) (by omega))) rfl rfl ?_
                refine wa (.int .u64 ((10 * (m : Int)) + (((((s.drop 1).getD i 0).toNat) - 48 : Nat) : Int))) rfl rfl rfl ?_
                refine wo_nil ?_
                refine wk_skip_block ?_
                refine wk_skip_seq ?_
                refine wk_region ?_
                refine wm (.int .i64 (i : Int)) rfl rfl rfl ?_
                refine wo_val (v := (.int .i64 ((i : Int) + 1))) (ap_add rfl rfl (w_i64 (n := (i : Int) + 1) (by omega))) rfl rfl ?_
                refine wa (.int .i64 ((i : Int) + 1)) rfl rfl rfl ?_
                refine wo_nil ?_
                refine wk_skip_seq ?_
                refine ih12 _ _ _ ?_ ⟨i + 1, (10 * m) + ((((s.drop 1).getD i 0).toNat) - 48), rfl, (agC rfl (agC rfl (agC rfl (agC rfl agN)))), rfl, (by first | assumption | omega | (simp at *; omega)), (by first | rfl | (rw [val_take (by omega), h2])), (by first | rfl | (rw [all_take (by omega), h3, Bool.true_and, dig_iff]; omega)), (by first | decide | (rw [Nat.pow_succ]; omega)), (by first | assumption | omega | (simp at *; omega))⟩
                omega
          · have c13 := c13b
            try simp only [BS] at c13
            have pi := c13
            refine wk_exit_seq ?_
            refine wk_exit_seq ?_
            refine wk_exit_block ?_
            refine wk_skip_seq ?_
            refine wk_seq ?_
            refine wk_region ?_
            refine wa (.int .u64 9223372036854775807) rfl rfl rfl ?_
            refine wo_nil ?_
            refine wk_skip_seq ?_
            refine wk_seq ?_
            refine wk_seq ?_
            refine wk_region ?_
            refine wm (.bool ((decide ((0 : Int) < (s.length : Int))) && (((s.getD 0 0).toNat : Int) == 45))) rfl rfl rfl ?_
            refine wo_nil ?_
            refine wk_skip_seq ?_
            refine wk_true (v := ((decide ((0 : Int) < (s.length : Int))) && (((s.getD 0 0).toNat : Int) == 45))) rfl c4b rfl ?_
            refine wk_region ?_
            refine wm (.int .u64 9223372036854775807) rfl rfl rfl ?_
            refine wo_val (v := (.int .u64 9223372036854775808)) (ap_add rfl rfl rfl) rfl rfl ?_
            refine wa (.int .u64 9223372036854775808) rfl rfl rfl ?_
            refine wo_nil ?_
            refine wk_skip_seq ?_
            refine wk_seq ?_
            refine wk_seq ?_
            refine wk_region ?_
            refine wm (.int .u64 (m : Int)) rfl rfl rfl ?_
            refine wm (.int .u64 9223372036854775808) rfl rfl rfl ?_
            refine wo_val (v := (.bool (decide ((9223372036854775808 : Int) < (m : Int))))) (ap_cmp rfl rfl rfl rfl) rfl rfl ?_
            refine wo_nil ?_
            refine wk_skip_seq ?_
            refine wk_cond (v := (decide ((9223372036854775808 : Int) < (m : Int)))) rfl rfl (fun c20b => ?_) (fun c20b => ?_)
            · have c20 := c20b
              try simp only [BS] at c20
              have pm := c20
              refine wk_seq ?_
              refine wk_region ?_
              refine wa (.int .i64 0) rfl rfl rfl ?_
              refine wa (.bool false) rfl rfl rfl ?_
              refine wo_nil ?_
              refine wk_skip_seq ?_
              refine wk_ret ⟨.inr rfl, _, rfl, 0, false, rfl, rfl, (by have e := pb3 pb pc (fun h => h pb.1 pb.2) h1 pi h2 h3; rw [e]; (try rfl); split <;> first | rfl | (exfalso; omega) | exact wr1 (by omega) | exact wr2 (by omega)), (by have e := pb3 pb pc (fun h => h pb.1 pb.2) h1 pi h2 h3; rw [e]; (try rfl); split <;> first | rfl | (exfalso; omega) | exact wr1 (by omega) | exact wr2 (by omega))⟩
            · have c20 := c20b
              try simp only [BS] at c20
              have pm := c20
              refine wk_skip_seq ?_
              refine wk_seq ?_
              refine wk_seq ?_
              refine wk_region ?_
              refine wm (.bool ((decide ((0 : Int) < (s.length : Int))) && (((s.getD 0 0).toNat : Int) == 45))) rfl rfl rfl ?_
              refine wo_nil ?_
              refine wk_skip_seq ?_
              refine wk_true (v := ((decide ((0 : Int) < (s.length : Int))) && (((s.getD 0 0).toNat : Int) == 45))) rfl c4b rfl ?_
              refine wk_seq ?_
              refine wk_region ?_
              refine wm (.int .u64 (m : Int)) rfl rfl rfl ?_
              refine wo_val (v := (.int .u64 (IntKind.u64.wrap (0 - (m : Int))))) (ap_ng rfl rfl) rfl rfl ?_
              refine wo_val (v := (.int .i64 (IntKind.i64.wrap (IntKind.u64.wrap (0 - (m : Int)))))) (ap_cv rfl rfl rfl rfl) rfl rfl ?_
              refine wa (.int .i64 (IntKind.i64.wrap (IntKind.u64.wrap (0 - (m : Int))))) rfl rfl rfl ?_
              refine wa (.bool true) rfl rfl rfl ?_
              refine wo_nil ?_
              refine wk_skip_seq ?_
              refine wk_ret ⟨.inr rfl, _, rfl, IntKind.i64.wrap (IntKind.u64.wrap (0 - (m : Int))), true, rfl, rfl, (by have e := pb3 pb pc (fun h => h pb.1 pb.2) h1 pi h2 h3; rw [e]; (try rfl); split <;> first | rfl | (exfalso; omega) | exact wr1 (by omega) | exact wr2 (by omega)), (by have e := pb3 pb pc (fun h => h pb.1 pb.2) h1 pi h2 h3; rw [e]; (try rfl); split <;> first | rfl | (exfalso; omega) | exact wr1 (by omega) | exact wr2 (by omega))⟩
    · have c4 := c4b
      try simp only [BS] at c4
      have pb := c4
      refine wk_skip_seq ?_
      refine wk_seq ?_
      refine wk_seq ?_
      refine wk_rcut 21 41 [] [(41, (.bool (((decide ((s.length : Int) < 1)) || (decide ((19 : Int) < (s.length : Int)))) || ((((s.getD 0 0).toNat : Int) == 48) && ((decide ((1 : Int) < (s.length : Int))) || ((decide ((0 : Int) < (s.length : Int))) && (((s.getD 0 0).toNat : Int) == 45)))))))] (fun H' => H' = H) ?_ ?_
      · skip
        refine wk_region ?_
        refine wm (.string ⟨⟨s⟩⟩) rfl rfl rfl ?_
        refine wo_val (v := (.int .i64 (s.length : Int))) (ap_lenS rfl rfl) rfl rfl ?_
        refine wo_val (v := (.bool (decide ((s.length : Int) < 1)))) (ap_cmp rfl rfl rfl rfl) rfl rfl ?_
        refine wm (.bool (decide ((s.length : Int) < 1))) rfl rfl rfl ?_
        refine wo_gsF (v := (decide ((s.length : Int) < 1))) rfl rfl (fun g22 => ?_) (fun g22 => ?_)
        · have pg22 := g22
          try simp only [BS] at pg22
          refine wm (.string ⟨⟨s⟩⟩) rfl rfl rfl ?_
          refine wo_gt rfl g22 ?_
          refine wo_val (v := (.int .i64 (s.length : Int))) (ap_lenS rfl rfl) rfl rfl ?_
          refine wo_gt rfl g22 ?_
          refine wo_val (v := (.bool (decide ((19 : Int) < (s.length : Int))))) (ap_cmp rfl rfl rfl rfl) rfl rfl ?_
          refine wo_val (v := (.bool (decide ((19 : Int) < (s.length : Int))))) (ap_pickF rfl g22 rfl) rfl rfl ?_
          refine wm (.bool (decide ((19 : Int) < (s.length : Int)))) rfl rfl rfl ?_
          refine wo_gsF (v := (decide ((19 : Int) < (s.length : Int)))) rfl rfl (fun g23 => ?_) (fun g23 => ?_)
          · have pg23 := g23
            try simp only [BS] at pg23
            refine wm (.string ⟨⟨s⟩⟩) rfl rfl rfl ?_
            refine wo_gt rfl g23 ?_
            have u8_24 := u8_lt (s.getD 0 0)
            refine wo_val (v := (.int .u8 ((s.getD 0 0).toNat : Int))) (ap_idxS (j := 0) rfl rfl rfl (by decide) (getD_at (by omega))) rfl rfl ?_
            refine wo_gt rfl g23 ?_
            refine wo_val (v := (.bool (((s.getD 0 0).toNat : Int) == 48))) (ap_cmp rfl rfl rfl rfl) rfl rfl ?_
            refine wo_gt rfl g23 ?_
            refine wm (.bool (((s.getD 0 0).toNat : Int) == 48)) rfl rfl rfl ?_
            refine wo_gsT (v := (((s.getD 0 0).toNat : Int) == 48)) rfl rfl (fun g25 => ?_) (fun g25 => ?_)
            · have pg25 := g25
              try simp only [BS] at pg25
              refine wm (.string ⟨⟨s⟩⟩) rfl rfl rfl ?_
              refine wo_gt rfl g25 ?_
              refine wo_val (v := (.int .i64 (s.length : Int))) (ap_lenS rfl rfl) rfl rfl ?_
              refine wo_gt rfl g25 ?_
              refine wo_val (v := (.bool (decide ((1 : Int) < (s.length : Int))))) (ap_cmp rfl rfl rfl rfl) rfl rfl ?_
              refine wo_gt rfl g25 ?_
              refine wm (.bool (decide ((1 : Int) < (s.length : Int)))) rfl rfl rfl ?_
              refine wo_gsF (v := (decide ((1 : Int) < (s.length : Int)))) rfl rfl (fun g26 => ?_) (fun g26 => ?_)
              · have pg26 := g26
                try simp only [BS] at pg26
                refine wm (.bool ((decide ((0 : Int) < (s.length : Int))) && (((s.getD 0 0).toNat : Int) == 45))) rfl rfl rfl ?_
                refine wo_gt rfl g25 ?_
                refine wo_val (v := (.bool ((decide ((0 : Int) < (s.length : Int))) && (((s.getD 0 0).toNat : Int) == 45)))) (ap_pickF rfl g26 rfl) rfl rfl ?_
                refine wo_gt rfl g23 ?_
                refine wo_val (v := (.bool ((decide ((0 : Int) < (s.length : Int))) && (((s.getD 0 0).toNat : Int) == 45)))) (ap_pickT rfl g25 rfl) rfl rfl ?_
                refine wo_val (v := (.bool ((decide ((0 : Int) < (s.length : Int))) && (((s.getD 0 0).toNat : Int) == 45)))) (ap_pickF rfl g23 rfl) rfl rfl ?_
                refine wo_nil ?_
                exact wk_skip_nil ⟨rfl, rfl, (Lu rfl (Lu rfl (Lu rfl (Lu rfl (Lu rfl (Lu rfl (Lu rfl (Lu rfl (Lu rfl (Lu rfl (Lu rfl (Lu rfl (Lu rfl (Lu rfl (Lu rfl (Lu rfl (Lu rfl (Lu rfl (Lu rfl (Lu rfl (Lu rfl Lr))))))))))))))))))))), (agC (congrArg Value.bool (show ((decide ((0 : Int) < (s.length : Int))) && (((s.getD 0 0).toNat : Int) == 45)) = (((decide ((s.length : Int) < 1)) || (decide ((19 : Int) < (s.length : Int)))) || ((((s.getD 0 0).toNat : Int) == 48) && ((decide ((1 : Int) < (s.length : Int))) || ((decide ((0 : Int) < (s.length : Int))) && (((s.getD 0 0).toNat : Int) == 45))))) by simp only [↓g22, ↓g23, ↓g25, ↓g26, BT])) agN)⟩
              · have pg26 := g26
                try simp only [BS] at pg26
                refine wo_gt rfl g25 ?_
                refine wo_val (v := (.bool true)) (ap_pickT rfl g26 rfl) rfl rfl ?_
                refine wo_gt rfl g23 ?_
                refine wo_val (v := (.bool true)) (ap_pickT rfl g25 rfl) rfl rfl ?_
                refine wo_val (v := (.bool true)) (ap_pickF rfl g23 rfl) rfl rfl ?_
                refine wo_nil ?_
                exact wk_skip_nil ⟨rfl, rfl, (Lu rfl (Lu rfl (Lu rfl (Lu rfl (Lu rfl (Lu rfl (Lu rfl (Lu rfl (Lu rfl (Lu rfl (Lu rfl (Lu rfl (Lu rfl (Lu rfl (Lu rfl (Lu rfl (Lu rfl (Lu rfl (Lu rfl (Lu rfl (Lu rfl Lr))))))))))))))))))))), (agC (congrArg Value.bool (show true = (((decide ((s.length : Int) < 1)) || (decide ((19 : Int) < (s.length : Int)))) || ((((s.getD 0 0).toNat : Int) == 48) && ((decide ((1 : Int) < (s.length : Int))) || ((decide ((0 : Int) < (s.length : Int))) && (((s.getD 0 0).toNat : Int) == 45))))) by simp only [↓g22, ↓g23, ↓g25, ↓g26, BT])) agN)⟩
            · have pg25 := g25
              try simp only [BS] at pg25
              refine wo_gf1 rfl g25 rfl ?_
              refine wo_gf1 rfl g25 rfl ?_
              refine wo_gf1 rfl g25 rfl ?_
              refine wo_gn rfl rfl ?_
              refine wo_gf1 rfl g25 rfl ?_
              refine wo_gt rfl g23 ?_
              refine wo_val (v := (.bool false)) (ap_pickF rfl g25 rfl) rfl rfl ?_
              refine wo_val (v := (.bool false)) (ap_pickF rfl g23 rfl) rfl rfl ?_
              refine wo_nil ?_
              exact wk_skip_nil ⟨rfl, rfl, (Lu rfl (Lu rfl (Lu rfl (Lu rfl (Lu rfl (Lu rfl (Lu rfl (Lu rfl (Lu rfl (Lu rfl (Lu rfl (Lu rfl (Lu rfl (Lu rfl (Lu rfl (Lu rfl (Lu rfl (Lu rfl (Lu rfl (Lu rfl (Lu rfl Lr))))))))))))))))))))), (agC (congrArg Value.bool (show false = (((decide ((s.length : Int) < 1)) || (decide ((19 : Int) < (s.length : Int)))) || ((((s.getD 0 0).toNat : Int) == 48) && ((decide ((1 : Int) < (s.length : Int))) || ((decide ((0 : Int) < (s.length : Int))) && (((s.getD 0 0).toNat : Int) == 45))))) by simp only [↓g22, ↓g23, ↓g25, BT])) agN)⟩
          · have pg23 := g23
            try simp only [BS] at pg23
            refine wo_gf0 rfl g23 rfl ?_
            refine wo_gf0 rfl g23 rfl ?_
            refine wo_gf0 rfl g23 rfl ?_
            refine wo_gn rfl rfl ?_
            refine wo_gn rfl rfl ?_
            refine wo_gn rfl rfl ?_
            refine wo_gn rfl rfl ?_
            refine wo_gn rfl rfl ?_
            refine wo_gn rfl rfl ?_
            refine wo_gf0 rfl g23 rfl ?_
            refine wo_val (v := (.bool true)) (ap_pickT rfl g23 rfl) rfl rfl ?_
            refine wo_nil ?_
            exact wk_skip_nil ⟨rfl, rfl, (Lu rfl (Lu rfl (Lu rfl (Lu rfl (Lu rfl (Lu rfl (Lu rfl (Lu rfl (Lu rfl (Lu rfl (Lu rfl (Lu rfl (Lu rfl (Lu rfl (Lu rfl (Lu rfl (Lu rfl (Lu rfl (Lu rfl (Lu rfl (Lu rfl Lr))))))))))))))))))))), (agC (congrArg Value.bool (show true = (((decide ((s.length : Int) < 1)) || (decide ((19 : Int) < (s.length : Int)))) || ((((s.getD 0 0).toNat : Int) == 48) && ((decide ((1 : Int) < (s.length : Int))) || ((decide ((0 : Int) < (s.length : Int))) && (((s.getD 0 0).toNat : Int) == 45))))) by simp only [↓g22, ↓g23, BT])) agN)⟩
        · have pg22 := g22
          try simp only [BS] at pg22
          refine wo_gf0 rfl g22 rfl ?_
          refine wo_gf0 rfl g22 rfl ?_
          refine wo_val (v := (.bool true)) (ap_pickT rfl g22 rfl) rfl rfl ?_
          refine wm (.bool true) rfl rfl rfl ?_
          refine wo_gf0 rfl rfl rfl ?_
          refine wo_gf0 rfl rfl rfl ?_
          refine wo_gf0 rfl rfl rfl ?_
          refine wo_gf0 rfl rfl rfl ?_
          refine wo_gn rfl rfl ?_
          refine wo_gn rfl rfl ?_
          refine wo_gn rfl rfl ?_
          refine wo_gn rfl rfl ?_
          refine wo_gn rfl rfl ?_
          refine wo_gn rfl rfl ?_
          refine wo_gf0 rfl rfl rfl ?_
          refine wo_val (v := (.bool true)) (ap_pickT rfl rfl rfl) rfl rfl ?_
          refine wo_nil ?_
          exact wk_skip_nil ⟨rfl, rfl, (Lu rfl (Lu rfl (Lu rfl (Lu rfl (Lu rfl (Lu rfl (Lu rfl (Lu rfl (Lu rfl (Lu rfl (Lu rfl (Lu rfl (Lu rfl (Lu rfl (Lu rfl (Lu rfl (Lu rfl (Lu rfl (Lu rfl (Lu rfl (Lu rfl Lr))))))))))))))))))))), (agC (congrArg Value.bool (show true = (((decide ((s.length : Int) < 1)) || (decide ((19 : Int) < (s.length : Int)))) || ((((s.getD 0 0).toNat : Int) == 48) && ((decide ((1 : Int) < (s.length : Int))) || ((decide ((0 : Int) < (s.length : Int))) && (((s.getD 0 0).toNat : Int) == 45))))) by simp only [↓g22, BT])) agN)⟩
      · skip
        rintro g21 H rfl
        refine wk_skip_seq ?_
        refine wk_cond (v := (((decide ((s.length : Int) < 1)) || (decide ((19 : Int) < (s.length : Int)))) || ((((s.getD 0 0).toNat : Int) == 48) && ((decide ((1 : Int) < (s.length : Int))) || ((decide ((0 : Int) < (s.length : Int))) && (((s.getD 0 0).toNat : Int) == 45)))))) rfl rfl (fun c27b => ?_) (fun c27b => ?_)
        · have c27 := c27b
          try simp only [BS] at c27
          have pc := c27
          refine wk_seq ?_
          refine wk_region ?_
          refine wa (.int .i64 0) rfl rfl rfl ?_
          refine wa (.bool false) rfl rfl rfl ?_
          refine wo_nil ?_
          refine wk_skip_seq ?_
          refine wk_ret ⟨.inr rfl, _, rfl, 0, false, rfl, rfl, (by have e := pp1 pb pc; rw [e]; (try rfl)), (by have e := pp1 pb pc; rw [e]; (try rfl))⟩
        · have c27 := c27b
          try simp only [BS] at c27
          have pc := c27
          refine wk_skip_seq ?_
          refine wk_seq ?_
          refine wk_region ?_
          refine wa (.int .u64 0) rfl rfl rfl ?_
          refine wo_nil ?_
          refine wk_skip_seq ?_
          refine wk_seq ?_
          refine wk_seq ?_
          refine wk_region ?_
          refine wa (.int .i64 0) rfl rfl rfl ?_
          refine wo_nil ?_
          refine wk_skip_seq ?_
          refine wk_block ?_
          refine wk_loop_inv (fun (mm : Nat) f H' => ∃ (i : Nat) (m : Nat), H' = H ∧ agrees f [(4, (.string ⟨⟨s⟩⟩)), (5, (.bool ((decide ((0 : Int) < (s.length : Int))) && (((s.getD 0 0).toNat : Int) == 45)))), (6, (.int .u64 (m : Int))), (7, (.int .i64 (i : Int)))] ∧ mm = s.length - i ∧ (i ≤ s.length) ∧ (m = val (s.take i)) ∧ ((s.take i).all isDig = true) ∧ (m < 10 ^ i) ∧ (s.length ≤ 19)) _ ⟨0, 0, rfl, (agC rfl (agC rfl (agC rfl (agC rfl agN)))), rfl, (by first | assumption | omega | (simp at *; omega)), (by first | rfl | (rw [val_take (by omega), h2])), (by first | rfl | (rw [all_take (by omega), h3, Bool.true_and, dig_iff]; omega)), (by first | decide | (rw [Nat.pow_succ]; omega)), (by first | assumption | omega | (simp at *; omega))⟩ ?_
          rintro mm28 f28 H ⟨i, m, rfl, hf28, rfl, h1, h2, h3, h4, h5⟩ ih28
          refine wk_canon _ hf28 (fun gg28 => ?_)
          clear hf28
          refine wk_seq ?_
          refine wk_seq ?_
          refine wk_region ?_
          refine wm (.int .i64 (i : Int)) rfl rfl rfl ?_
          refine wm (.string ⟨⟨s⟩⟩) rfl rfl rfl ?_
          refine wo_val (v := (.int .i64 (s.length : Int))) (ap_lenS rfl rfl) rfl rfl ?_
          refine wo_val (v := (.bool (decide ((i : Int) < (s.length : Int))))) (ap_cmp rfl rfl rfl rfl) rfl rfl ?_
          refine wo_nil ?_
          refine wk_skip_seq ?_
          refine wk_cond (v := (decide ((i : Int) < (s.length : Int)))) rfl rfl (fun c29b => ?_) (fun c29b => ?_)
          · have c29 := c29b
            try simp only [BS] at c29
            have hp := pow_le (show i ≤ 18 by omega)
            have pi := c29
            refine wk_skip_seq ?_
            refine wk_seq ?_
            refine wk_block ?_
            refine wk_seq ?_
            refine wk_seq ?_
            refine wk_rcut 48 57 [] [(57, (.bool ((decide (((s.getD i 0).toNat : Int) < 48)) || (decide ((57 : Int) < ((s.getD i 0).toNat : Int))))))] (fun H' => H' = H) ?_ ?_
            · skip
              refine wk_region ?_
              refine wm (.string ⟨⟨s⟩⟩) rfl rfl rfl ?_
              refine wm (.int .i64 (i : Int)) rfl rfl rfl ?_
              have u8_31 := u8_lt (s.getD i 0)
              refine wo_val (v := (.int .u8 ((s.getD i 0).toNat : Int))) (ap_idxS (j := (i : Int)) rfl rfl rfl (by omega) (getD_at (by omega))) rfl rfl ?_
              refine wo_val (v := (.bool (decide (((s.getD i 0).toNat : Int) < 48)))) (ap_cmp rfl rfl rfl rfl) rfl rfl ?_
              refine wm (.bool (decide (((s.getD i 0).toNat : Int) < 48))) rfl rfl rfl ?_
              refine wo_gsF (v := (decide (((s.getD i 0).toNat : Int) < 48))) rfl rfl (fun g32 => ?_) (fun g32 => ?_)
              · have pg32 := g32
                try simp only [BS] at pg32
                refine wm (.string ⟨⟨s⟩⟩) rfl rfl rfl ?_
                refine wo_gt rfl g32 ?_
                refine wm (.int .i64 (i : Int)) rfl rfl rfl ?_
                refine wo_gt rfl g32 ?_
                have u8_33 := u8_lt (s.getD i 0)
                refine wo_val (v := (.int .u8 ((s.getD i 0).toNat : Int))) (ap_idxS (j := (i : Int)) rfl rfl rfl (by omega) (getD_at (by omega))) rfl rfl ?_
                refine wo_gt rfl g32 ?_
                refine wo_val (v := (.bool (decide ((57 : Int) < ((s.getD i 0).toNat : Int))))) (ap_cmp rfl rfl rfl rfl) rfl rfl ?_
                refine wo_val (v := (.bool (decide ((57 : Int) < ((s.getD i 0).toNat : Int))))) (ap_pickF rfl g32 rfl) rfl rfl ?_
                refine wo_nil ?_
                exact wk_skip_nil ⟨rfl, rfl, (Lu rfl (Lu rfl (Lu rfl (Lu rfl (Lu rfl (Lu rfl (Lu rfl (Lu rfl (Lu rfl (Lu rfl Lr)))))))))), (agC (congrArg Value.bool (show (decide ((57 : Int) < ((s.getD i 0).toNat : Int))) = ((decide (((s.getD i 0).toNat : Int) < 48)) || (decide ((57 : Int) < ((s.getD i 0).toNat : Int)))) by simp only [↓g32, BT])) agN)⟩
              · have pg32 := g32
                try simp only [BS] at pg32
                refine wo_gf0 rfl g32 rfl ?_
                refine wo_gf0 rfl g32 rfl ?_
                refine wo_gf0 rfl g32 rfl ?_
                refine wo_val (v := (.bool true)) (ap_pickT rfl g32 rfl) rfl rfl ?_
                refine wo_nil ?_
                exact wk_skip_nil ⟨rfl, rfl, (Lu rfl (Lu rfl (Lu rfl (Lu rfl (Lu rfl (Lu rfl (Lu rfl (Lu rfl (Lu rfl (Lu rfl Lr)))))))))), (agC (congrArg Value.bool (show true = ((decide (((s.getD i 0).toNat : Int) < 48)) || (decide ((57 : Int) < ((s.getD i 0).toNat : Int)))) by simp only [↓g32, BT])) agN)⟩
            · skip
              rintro g30 H rfl
              refine wk_skip_seq ?_
              refine wk_cond (v := ((decide (((s.getD i 0).toNat : Int) < 48)) || (decide ((57 : Int) < ((s.getD i 0).toNat : Int))))) rfl rfl (fun c34b => ?_) (fun c34b => ?_)
              · have c34 := c34b
                try simp only [BS] at c34
                have pd := c34
                refine wk_seq ?_
                refine wk_region ?_
                refine wa (.int .i64 0) rfl rfl rfl ?_
                refine wa (.bool false) rfl rfl rfl ?_
                refine wo_nil ?_
                refine wk_skip_seq ?_
                refine wk_ret ⟨.inr rfl, _, rfl, 0, false, rfl, rfl, (by have e := pp2 pb pi pd; rw [e]; (try rfl)), (by have e := pp2 pb pi pd; rw [e]; (try rfl))⟩
              · have c34 := c34b
                try simp only [BS] at c34
                refine wk_skip_seq ?_
                refine wk_region ?_
                refine wm (.int .u64 (m : Int)) rfl rfl rfl ?_
                refine wo_val (v := (.int .u64 (10 * (m : Int)))) (ap_mul rfl rfl (w_u64 (n := 10 * (m : Int)) (by omega))) rfl rfl ?_
                refine wm (.string ⟨⟨s⟩⟩) rfl rfl rfl ?_
                refine wm (.int .i64 (i : Int)) rfl rfl rfl ?_
                have u8_35 := u8_lt (s.getD i 0)
                refine wo_val (v := (.int .u8 ((s.getD i 0).toNat : Int))) (ap_idxS (j := (i : Int)) rfl rfl rfl (by omega) (getD_at (by omega))) rfl rfl ?_
                refine wo_val (v := (.int .u8 ((((s.getD i 0).toNat) - 48 : Nat) : Int))) (ap_sub rfl rfl (natsub (a := ((s.getD i 0).toNat)) (b := 48) (by omega) (w_u8 (by omega)))) rfl rfl ?_
                refine wo_val (v := (.int .u64 ((((s.getD i 0).toNat) - 48 : Nat) : Int))) (ap_cv rfl rfl rfl (w_u64 (n := ((((s.getD i 0).toNat) - 48 : Nat) : Int)) (by omega))) rfl rfl ?_
                refine wo_val (v := (.int .u64 ((10 * (m : Int)) + ((((s.getD i 0).toNat) - 48 : Nat) : Int)))) (ap_add rfl rfl (w_u64 (n := (10 * (m : Int)) + ((((s.getD i 0).toNat) - 48 : Nat) : Int)) (by omega))) rfl rfl ?_
                refine wa (.int .u64 ((10 * (m : Int)) + ((((s.getD i 0).toNat) - 48 : Nat) : Int))) rfl rfl rfl ?_
                refine wo_nil ?_
                refine wk_skip_block ?_
                refine wk_skip_seq ?_
                refine wk_region ?_
                refine wm (.int .i64 (i : Int)) rfl rfl rfl ?_
                refine wo_val (v := (.int .i64 ((i : Int) + 1))) (ap_add rfl rfl (w_i64 (n := (i : Int) + 1) (by omega))) rfl rfl ?_
                refine wa (.int .i64 ((i : Int) + 1)) rfl rfl rfl ?_
                refine wo_nil ?_
                refine wk_skip_seq ?_
                refine ih28 _ _ _ ?_ ⟨i + 1, (10 * m) + (((s.getD i 0).toNat) - 48), rfl, (agC rfl (agC rfl (agC rfl (agC rfl agN)))), rfl, (by first | assumption | omega | (simp at *; omega)), (by first | rfl | (rw [val_take (by omega), h2])), (by first | rfl | (rw [all_take (by omega), h3, Bool.true_and, dig_iff]; omega)), (by first | decide | (rw [Nat.pow_succ]; omega)), (by first | assumption | omega | (simp at *; omega))⟩
                omega
          · have c29 := c29b
            try simp only [BS] at c29
            have pi := c29
            refine wk_exit_seq ?_
            refine wk_exit_seq ?_
            refine wk_exit_block ?_
            refine wk_skip_seq ?_
            refine wk_seq ?_
            refine wk_region ?_
            refine wa (.int .u64 9223372036854775807) rfl rfl rfl ?_
            refine wo_nil ?_
            refine wk_skip_seq ?_
            refine wk_seq ?_
            refine wk_seq ?_
            refine wk_region ?_
            refine wm (.bool ((decide ((0 : Int) < (s.length : Int))) && (((s.getD 0 0).toNat : Int) == 45))) rfl rfl rfl ?_
            refine wo_nil ?_
            refine wk_skip_seq ?_
            refine wk_false (v := ((decide ((0 : Int) < (s.length : Int))) && (((s.getD 0 0).toNat : Int) == 45))) rfl c4b rfl ?_
            refine wk_skip_seq ?_
            refine wk_seq ?_
            refine wk_seq ?_
            refine wk_region ?_
            refine wm (.int .u64 (m : Int)) rfl rfl rfl ?_
            refine wm (.int .u64 9223372036854775807) rfl rfl rfl ?_
            refine wo_val (v := (.bool (decide ((9223372036854775807 : Int) < (m : Int))))) (ap_cmp rfl rfl rfl rfl) rfl rfl ?_
            refine wo_nil ?_
            refine wk_skip_seq ?_
            refine wk_cond (v := (decide ((9223372036854775807 : Int) < (m : Int)))) rfl rfl (fun c36b => ?_) (fun c36b => ?_)
            · have c36 := c36b
              try simp only [BS] at c36
              have pm := c36
              refine wk_seq ?_
              refine wk_region ?_
              refine wa (.int .i64 0) rfl rfl rfl ?_
              refine wa (.bool false) rfl rfl rfl ?_
              refine wo_nil ?_
              refine wk_skip_seq ?_
              refine wk_ret ⟨.inr rfl, _, rfl, 0, false, rfl, rfl, (by have e := pp3 pb pc h1 pi h2 h3; rw [e]; (try rfl); split <;> first | rfl | (exfalso; omega) | exact wr1 (by omega) | exact wr2 (by omega)), (by have e := pp3 pb pc h1 pi h2 h3; rw [e]; (try rfl); split <;> first | rfl | (exfalso; omega) | exact wr1 (by omega) | exact wr2 (by omega))⟩
            · have c36 := c36b
              try simp only [BS] at c36
              have pm := c36
              refine wk_skip_seq ?_
              refine wk_seq ?_
              refine wk_seq ?_
              refine wk_region ?_
              refine wm (.bool ((decide ((0 : Int) < (s.length : Int))) && (((s.getD 0 0).toNat : Int) == 45))) rfl rfl rfl ?_
              refine wo_nil ?_
              refine wk_skip_seq ?_
              refine wk_false (v := ((decide ((0 : Int) < (s.length : Int))) && (((s.getD 0 0).toNat : Int) == 45))) rfl c4b rfl ?_
              refine wk_skip_seq ?_
              refine wk_seq ?_
              refine wk_region ?_
              refine wm (.int .u64 (m : Int)) rfl rfl rfl ?_
              refine wo_val (v := (.int .i64 (IntKind.i64.wrap (m : Int)))) (ap_cv rfl rfl rfl rfl) rfl rfl ?_
              refine wa (.int .i64 (IntKind.i64.wrap (m : Int))) rfl rfl rfl ?_
              refine wa (.bool true) rfl rfl rfl ?_
              refine wo_nil ?_
              refine wk_skip_seq ?_
              refine wk_ret ⟨.inr rfl, _, rfl, IntKind.i64.wrap (m : Int), true, rfl, rfl, (by have e := pp3 pb pc h1 pi h2 h3; rw [e]; (try rfl); split <;> first | rfl | (exfalso; omega) | exact wr1 (by omega) | exact wr2 (by omega)), (by have e := pp3 pb pc h1 pi h2 h3; rw [e]; (try rfl); split <;> first | rfl | (exfalso; omega) | exact wr1 (by omega) | exact wr2 (by omega))⟩

theorem num_bad {s : List UInt8} {i m : Nat} (hi : (i : Int) < (s.length : Int)) (c : ((((s.getD i 0).toNat : Int) < 48 ∨ 57 < ((s.getD i 0).toNat : Int)) ∨ (i : Int) = 1 ∧ ((s.getD 0 0).toNat : Int) = 48) ∨ 18 < (i : Int)) : posS s m = none := by
  rcases c with (c | ⟨c, c'⟩) | c
  · exact ps_bad (i := i) (by omega) c
  · rw [ps_zero (c48.1 c'), if_neg (by omega)]
  · exact ps_len (by omega)
theorem num_fin {s : List UInt8} {i m most : Nat} (h1 : i ≤ s.length) (ci : ¬ (i : Int) < (s.length : Int)) (h2 : m = val (s.take i)) (h3 : (s.take i).all isDig = true) (h4 : i ≤ 19) (h5 : 2 ≤ i → ((s.getD 0 0).toNat : Int) ≠ 48) (hs : s ≠ []) : posS s most = if m ≤ most then some m else none := by
  obtain ⟨e1, e2⟩ := fin_len h1 ci h2 h3
  have hl : 1 ≤ s.length := by
    cases s with
    | nil => exact absurd rfl hs
    | cons a l => simp
  rw [ps_ok hl (by omega) e2 (fun e => by
    rcases Nat.lt_or_ge i 2 with h | h
    · omega
    · exact absurd (c48.2 e) (h5 h)), ← e1]
theorem num_nil {most : Nat} : posS [] most = none := by unfold posS; rw [if_neg]; rintro ⟨h, _⟩; cases h

theorem fmt_c_aux (ex : FuncId) : ∀ (fuel : Nat) (n : Int) {F : Fz} {H : Heap} {R : List Fp} (hs : HS (.of H []) F H [] R) (hn : 0 ≤ n ∧ n < 18446744073709551616), n.toNat < fuel → C Try.prog 0 (KX ex) 26 [(.int .u64 n)] H fun v H' => ∃ (r : List UInt8) (F' : Fz), Fz.le F F' ∧ HS (.of H []) F' H' [] R ∧ v = .string ⟨⟨r⟩⟩ ∧ r = dec n.toNat := by
  intro fuel; induction fuel with
  | zero => intros; omega
  | succ fuel ih =>
  intro n F H R hs hn hfuel
  obtain ⟨m0, rfl⟩ := Int.eq_ofNat_of_zero_le hn.1
  refine c_enter Try.func26 rfl rfl ?_
  refine wk_seq ?_
  refine wk_region ?_
  refine wa (.string ⟨⟨[]⟩⟩) rfl rfl rfl ?_
  refine wo_nil ?_
  refine wk_skip_seq ?_
  refine wk_seq ?_
  refine wk_seq ?_
  refine wk_region ?_
  refine wm (.int .u64 (m0 : Int)) rfl rfl rfl ?_
  refine wo_val (v := (.bool (decide ((m0 : Int) < 10)))) (ap_cmp rfl rfl rfl rfl) rfl rfl ?_
  refine wo_nil ?_
  refine wk_skip_seq ?_
  refine wk_cond (v := (decide ((m0 : Int) < 10))) rfl rfl (fun c1b => ?_) (fun c1b => ?_)
  · have c1 := c1b
    try simp only [BS] at c1
    refine wk_seq ?_
    refine wk_region ?_
    refine wm (.int .u64 (m0 : Int)) rfl rfl rfl ?_
    refine wo_val (v := (.int .u64 (48 + (m0 : Int)))) (ap_add rfl rfl (w_u64 (n := 48 + (m0 : Int)) (by omega))) rfl rfl ?_
    refine wo_val (v := (.int .u8 (48 + (m0 : Int)))) (ap_cv rfl rfl rfl (w_u8 (n := 48 + (m0 : Int)) (by omega))) rfl rfl ?_
    refine wo_rs (rs_lit (α := UInt8) (ps := [(0, (.int .u8 (48 + (m0 : Int))))]) (cells := [(.int .u8 (48 + (m0 : Int)))]) ([(UInt8.ofNat (48 + m0))] : List UInt8) hs rfl rfl rfl (by kernel_rfl) ⟨[(.int .u8 (48 + (m0 : Int)))], [], rfl, (u8r (n := 48 + m0) (by omega)), rfl⟩ rfl) rfl rfl ?_
    rintro _ H3 p2 ⟨a2, k2, rfl, ho2, hs3, _⟩
    have hs3 : HS (Base.of H []) F H3 [p2] R := hs3
    refine wo_val (v := (.string ⟨⟨([(UInt8.ofNat (48 + m0))] : List UInt8)⟩⟩)) (ap_cvB rfl rfl rfl rfl (OS.sv ho2 hs3 (i := 0) rfl)) rfl rfl ?_
    refine wa (.string ⟨⟨([(UInt8.ofNat (48 + m0))] : List UInt8)⟩⟩) rfl rfl rfl ?_
    refine wo_nil ?_
    refine wk_skip_seq ?_
    refine wk_ret ⟨.inr rfl, _, rfl, ([(UInt8.ofNat (48 + m0))] : List UInt8), _, (Fz.le_refl _), (HS.forget hs3), rfl, (by show [UInt8.ofNat (48 + m0)] = dec m0; rw [dec_small (by omega)]; rfl)⟩
  · have c1 := c1b
    try simp only [BS] at c1
    refine wk_skip_seq ?_
    refine wk_seq ?_
    refine wf_region rfl ?_
    refine fm (.int .u64 (m0 : Int)) rfl rfl rfl ?_
    refine wf_pure (v := (.int .u64 ((m0 / 10 : Nat) : Int))) (id := .v) (ap_div rfl rfl (by decide) (w_u64 (n := ((m0 / 10 : Nat) : Int)) (by omega))) rfl rfl (did_v rfl) (okD_v _) ?_
    refine wf_call (W := []) (ap_call rfl rfl rfl) rfl rfl rfl (ih ((m0 / 10 : Nat) : Int) (HS.call hs.log0) (by omega) (by omega)) (⟨.inl rfl, ⟨.inl rfl, trivial⟩⟩) ?_
    rintro _ H4 ⟨r4, F4, hF4, hs4, rfl, rfl⟩
    refine ⟨Wr.did hs4.log, fun lg4 hlg4 => ?_⟩
    replace hs4 := HS.back hs.log0 rfl hs4
    replace hs4 := HS.lg hs4 hs hlg4
    generalize ({ H4 with log := lg4 } : Heap) = H4g at hs4 ⊢
    have hs4 : HS (Base.of H []) F4 H4g [] R := hs4
    refine fm (.int .u64 (m0 : Int)) rfl rfl rfl ?_
    refine wf_pure (v := (.int .u64 ((m0 % 10 : Nat) : Int))) (id := .v) (ap_mod rfl rfl (by decide) rfl) rfl rfl (did_v rfl) (okD_v _) ?_
    refine wf_pure (v := (.int .u64 (48 + ((m0 % 10 : Nat) : Int)))) (id := .v) (ap_add rfl rfl (w_u64 (n := 48 + ((m0 % 10 : Nat) : Int)) (by omega))) rfl rfl (did_v rfl) (okD_v _) ?_
    refine wf_pure (v := (.int .u8 (48 + ((m0 % 10 : Nat) : Int)))) (id := .x []) (ap_cv rfl rfl rfl (w_u8 (n := 48 + ((m0 % 10 : Nat) : Int)) (by omega))) rfl rfl (did_x (W := []) rfl rfl fun b hb => absurd hb List.not_mem_nil) (⟨.inl rfl, ⟨.inl rfl, ⟨.inl rfl, ⟨.inr ⟨trivial, trivial⟩, ⟨.inr trivial, ⟨.inr trivial, trivial⟩⟩⟩⟩⟩⟩) ?_
    refine wf_rs (id := .a) (rs_lit (α := UInt8) (ps := [(0, (.int .u8 (48 + ((m0 % 10 : Nat) : Int))))]) (cells := [(.int .u8 (48 + ((m0 % 10 : Nat) : Int)))]) ([(UInt8.ofNat (48 + (m0 % 10)))] : List UInt8) hs4.log0 rfl rfl rfl (by kernel_rfl) ⟨[(.int .u8 (48 + ((m0 % 10 : Nat) : Int)))], [], rfl, (u8r (n := 48 + (m0 % 10)) (by omega)), rfl⟩ rfl) rfl rfl (fun _ _ _ _ => did_a rfl rfl rfl) (⟨.inl rfl, ⟨.inl rfl, ⟨.inl rfl, ⟨.inl rfl, ⟨.inr trivial, ⟨.inr trivial, ⟨.inr trivial, trivial⟩⟩⟩⟩⟩⟩⟩) ?_
    rintro _ H6 p5 ⟨a5, k5, rfl, ho5, hs6, _⟩ lg6 hlg6
    replace hs6 := HS.lg hs6 hs4 hlg6
    generalize ({ H6 with log := lg6 } : Heap) = H6g at hs6 ⊢
    have hs6 : HS (Base.of H []) F4 H6g [p5] R := hs6
    refine wf_pure (v := (.string ⟨⟨([(UInt8.ofNat (48 + (m0 % 10)))] : List UInt8)⟩⟩)) (id := .x []) (ap_cvB rfl rfl rfl rfl (OS.sv ho5 hs6.log0 (i := 0) rfl)) rfl rfl (did_x (W := []) rfl rfl fun b hb => absurd hb List.not_mem_nil) (⟨.inl rfl, ⟨.inl rfl, ⟨.inl rfl, ⟨.inl rfl, ⟨.inl rfl, ⟨.inr ⟨trivial, trivial⟩, ⟨.inr trivial, ⟨.inr trivial, trivial⟩⟩⟩⟩⟩⟩⟩⟩) ?_
    refine wf_pure (v := (.string ⟨⟨(dec ((m0 / 10 : Nat) : Int).toNat) ++ ([(UInt8.ofNat (48 + (m0 % 10)))] : List UInt8)⟩⟩)) (id := .v) (ap_addS rfl rfl (by exact Nat.le_trans (Nat.add_le_add (dec_le (by omega)) (Nat.le_refl _)) (by simp))) rfl rfl (did_v rfl) (okD_v _) ?_
    refine fa (.string ⟨⟨(dec ((m0 / 10 : Nat) : Int).toNat) ++ ([(UInt8.ofNat (48 + (m0 % 10)))] : List UInt8)⟩⟩) rfl rfl rfl ?_
    refine wf_nil ?_
    refine wk_skip_seq ?_
    refine wk_ret ⟨.inr rfl, _, rfl, (dec ((m0 / 10 : Nat) : Int).toNat) ++ ([(UInt8.ofNat (48 + (m0 % 10)))] : List UInt8), _, (hF4), (HS.forget hs6), rfl, (by show _ = dec m0; rw [dec_big (n := m0) (by omega)]; rfl)⟩
theorem fmt_c (ex : FuncId) (n : Int) {F : Fz} {H : Heap} {R : List Fp} (hs : HS (.of H []) F H [] R) (hn : 0 ≤ n ∧ n < 18446744073709551616) : C Try.prog 0 (KX ex) 26 [(.int .u64 n)] H fun v H' => ∃ (r : List UInt8) (F' : Fz), Fz.le F F' ∧ HS (.of H []) F' H' [] R ∧ v = .string ⟨⟨r⟩⟩ ∧ r = dec n.toNat :=
  fmt_c_aux ex (n.toNat + 1) n hs hn (Nat.lt_succ_self _)

theorem rtext_c (ex : FuncId) (n : Int) {F : Fz} {H : Heap} {R : List Fp} (hs : HS (.of H []) F H [] R) (hn : in64 n) : C Try.prog 0 (KX ex) 19 [(.int .i64 n)] H fun v H' => ∃ (r : List UInt8) (F' : Fz), Fz.le F F' ∧ HS (.of H []) F' H' [] R ∧ v = .string ⟨⟨r⟩⟩ ∧ r = textS n := by
  refine c_enter Try.func19 rfl rfl ?_
  refine wk_seq ?_
  refine wk_region ?_
  refine wa (.string ⟨⟨[]⟩⟩) rfl rfl rfl ?_
  refine wo_nil ?_
  refine wk_skip_seq ?_
  refine wk_seq ?_
  refine wk_seq ?_
  refine wk_region ?_
  refine wm (.int .i64 n) rfl rfl rfl ?_
  refine wo_val (v := (.bool (decide (n < 0)))) (ap_cmp rfl rfl rfl rfl) rfl rfl ?_
  refine wo_nil ?_
  refine wk_skip_seq ?_
  refine wk_cond (v := (decide (n < 0))) rfl rfl (fun c1b => ?_) (fun c1b => ?_)
  · have c1 := c1b
    try simp only [BS] at c1
    refine wk_seq ?_
    refine wk_region ?_
    refine wm (.int .i64 n) rfl rfl rfl ?_
    refine wo_val (v := (.int .i64 (n + 1))) (ap_add rfl rfl (w_i64 (n := n + 1) (by omega))) rfl rfl ?_
    refine wo_val (v := (.int .i64 (0 - (n + 1)))) (ap_ng rfl (w_i64 (by omega))) rfl rfl ?_
    refine wo_val (v := (.int .u64 (0 - (n + 1)))) (ap_cv rfl rfl rfl (w_u64 (n := 0 - (n + 1)) (by omega))) rfl rfl ?_
    refine wo_val (v := (.int .u64 ((0 - (n + 1)) + 1))) (ap_add rfl rfl (w_u64 (n := (0 - (n + 1)) + 1) (by omega))) rfl rfl ?_
    refine wo_call (ap_call rfl rfl rfl) rfl rfl (fmt_c ex ((0 - (n + 1)) + 1) (HS.call hs) (by omega)) ?_
    rintro _ H2 ⟨r2, F2, hF2, hs2, rfl, rfl⟩
    replace hs2 := HS.back hs rfl hs2
    have hs2 : HS (Base.of H []) F2 H2 [] R := hs2
    refine wo_val (v := (.string ⟨⟨[45] ++ (dec ((0 - (n + 1)) + 1).toNat)⟩⟩)) (ap_addS rfl rfl (by exact tx0 (dec_le (by omega)))) rfl rfl ?_
    refine wa (.string ⟨⟨[45] ++ (dec ((0 - (n + 1)) + 1).toNat)⟩⟩) rfl rfl rfl ?_
    refine wo_nil ?_
    refine wk_skip_seq ?_
    refine wk_ret ⟨.inr rfl, _, rfl, [45] ++ (dec ((0 - (n + 1)) + 1).toNat), _, (hF2), (HS.forget hs2), rfl, (by rw [textS, if_pos (by omega), show (0 - (n + 1) + 1).toNat = n.natAbs by omega]; rfl)⟩
  · have c1 := c1b
    try simp only [BS] at c1
    refine wk_skip_seq ?_
    refine wk_seq ?_
    refine wk_region ?_
    refine wm (.int .i64 n) rfl rfl rfl ?_
    refine wo_val (v := (.int .u64 n)) (ap_cv rfl rfl rfl (w_u64 (n := n) (by omega))) rfl rfl ?_
    refine wo_call (ap_call rfl rfl rfl) rfl rfl (fmt_c ex n (HS.call hs) (by omega)) ?_
    rintro _ H3 ⟨r3, F3, hF3, hs3, rfl, rfl⟩
    replace hs3 := HS.back hs rfl hs3
    have hs3 : HS (Base.of H []) F3 H3 [] R := hs3
    refine wa (.string ⟨⟨dec n.toNat⟩⟩) rfl rfl rfl ?_
    refine wo_nil ?_
    refine wk_skip_seq ?_
    refine wk_ret ⟨.inr rfl, _, rfl, dec n.toNat, _, (hF3), (HS.forget hs3), rfl, (by rw [textS, if_neg (by omega)])⟩

theorem number_c (ex : FuncId) (s : List UInt8) (most : Nat) (H : Heap) (hmost : most < 18446744073709551616) : C Try.prog 0 (KX ex) 27 [(.string ⟨⟨s⟩⟩), (.int .u64 (most : Int))] H fun v H' => ∃ (r : Int) (ok : Bool), H' = H ∧ v = .tuple ⟨[.int .u64 r, .bool ok]⟩ ∧ r = (((posS s most).getD 0 : Nat) : Int) ∧ ok = (posS s most).isSome := by
  refine c_enter Try.func27 rfl rfl ?_
  refine wk_seq ?_
  refine wk_region ?_
  refine wa (.int .u64 0) rfl rfl rfl ?_
  refine wa (.bool false) rfl rfl rfl ?_
  refine wo_nil ?_
  refine wk_skip_seq ?_
  refine wk_seq ?_
  refine wk_region ?_
  refine wa (.int .u64 0) rfl rfl rfl ?_
  refine wo_nil ?_
  refine wk_skip_seq ?_
  refine wk_seq ?_
  refine wk_seq ?_
  refine wk_region ?_
  refine wa (.int .i64 0) rfl rfl rfl ?_
  refine wo_nil ?_
  refine wk_skip_seq ?_
  refine wk_block ?_
  refine wk_loop_inv (fun (mm : Nat) f H' => ∃ (i : Nat) (m : Nat), H' = H ∧ agrees f [(0, (.string ⟨⟨s⟩⟩)), (1, (.int .u64 (most : Int))), (6, (.int .u64 (m : Int))), (7, (.int .i64 (i : Int)))] ∧ mm = s.length - i ∧ (i ≤ s.length) ∧ (m = val (s.take i)) ∧ ((s.take i).all isDig = true) ∧ (m < 10 ^ i) ∧ (2 ≤ i → ((s.getD 0 0).toNat : Int) ≠ 48) ∧ (i ≤ 19)) _ ⟨0, 0, rfl, (agC rfl (agC rfl (agC rfl (agC rfl agN)))), rfl, (by first | assumption | omega | (simp at *; omega)), (by first | rfl | (rw [val_take (by omega), h2])), (by first | rfl | (rw [all_take (by omega), h3, Bool.true_and, dig_iff]; omega)), (by first | decide | (rw [Nat.pow_succ]; omega)), (by intro hh; first | omega | (rcases Nat.lt_or_ge i 2 with h | h; exact pc.1.2 (by omega); exact h5 h)), (by first | assumption | omega | (simp at *; omega))⟩ ?_
  rintro mm1 f1 H ⟨i, m, rfl, hf1, rfl, h1, h2, h3, h4, h5, h6⟩ ih1
  refine wk_canon _ hf1 (fun gg1 => ?_)
  clear hf1
  refine wk_seq ?_
  refine wk_seq ?_
  refine wk_region ?_
  refine wm (.int .i64 (i : Int)) rfl rfl rfl ?_
  refine wm (.string ⟨⟨s⟩⟩) rfl rfl rfl ?_
  refine wo_val (v := (.int .i64 (s.length : Int))) (ap_lenS rfl rfl) rfl rfl ?_
  refine wo_val (v := (.bool (decide ((i : Int) < (s.length : Int))))) (ap_cmp rfl rfl rfl rfl) rfl rfl ?_
  refine wo_nil ?_
  refine wk_skip_seq ?_
  refine wk_cond (v := (decide ((i : Int) < (s.length : Int)))) rfl rfl (fun c2b => ?_) (fun c2b => ?_)
  · have c2 := c2b
    try simp only [BS] at c2
    have pi := c2
    refine wk_skip_seq ?_
    refine wk_seq ?_
    refine wk_block ?_
    refine wk_seq ?_
    refine wk_seq ?_
    refine wk_rcut 14 36 [] [(36, (.bool ((((decide (((s.getD i 0).toNat : Int) < 48)) || (decide ((57 : Int) < ((s.getD i 0).toNat : Int)))) || (((i : Int) == 1) && (((s.getD 0 0).toNat : Int) == 48))) || (decide ((18 : Int) < (i : Int))))))] (fun H' => H' = H) ?_ ?_
    · skip
      refine wk_region ?_
      refine wm (.string ⟨⟨s⟩⟩) rfl rfl rfl ?_
      refine wm (.int .i64 (i : Int)) rfl rfl rfl ?_
      have u8_4 := u8_lt (s.getD i 0)
      refine wo_val (v := (.int .u8 ((s.getD i 0).toNat : Int))) (ap_idxS (j := (i : Int)) rfl rfl rfl (by omega) (getD_at (by omega))) rfl rfl ?_
      refine wo_val (v := (.bool (decide (((s.getD i 0).toNat : Int) < 48)))) (ap_cmp rfl rfl rfl rfl) rfl rfl ?_
      refine wm (.bool (decide (((s.getD i 0).toNat : Int) < 48))) rfl rfl rfl ?_
      refine wo_gsF (v := (decide (((s.getD i 0).toNat : Int) < 48))) rfl rfl (fun g5 => ?_) (fun g5 => ?_)
      · have pg5 := g5
        try simp only [BS] at pg5
        refine wm (.string ⟨⟨s⟩⟩) rfl rfl rfl ?_
        refine wo_gt rfl g5 ?_
        refine wm (.int .i64 (i : Int)) rfl rfl rfl ?_
        refine wo_gt rfl g5 ?_
        have u8_6 := u8_lt (s.getD i 0)
        refine wo_val (v := (.int .u8 ((s.getD i 0).toNat : Int))) (ap_idxS (j := (i : Int)) rfl rfl rfl (by omega) (getD_at (by omega))) rfl rfl ?_
        refine wo_gt rfl g5 ?_
        refine wo_val (v := (.bool (decide ((57 : Int) < ((s.getD i 0).toNat : Int))))) (ap_cmp rfl rfl rfl rfl) rfl rfl ?_
        refine wo_val (v := (.bool (decide ((57 : Int) < ((s.getD i 0).toNat : Int))))) (ap_pickF rfl g5 rfl) rfl rfl ?_
        refine wm (.bool (decide ((57 : Int) < ((s.getD i 0).toNat : Int)))) rfl rfl rfl ?_
        refine wo_gsF (v := (decide ((57 : Int) < ((s.getD i 0).toNat : Int)))) rfl rfl (fun g7 => ?_) (fun g7 => ?_)
        · have pg7 := g7
          try simp only [BS] at pg7
          refine wm (.int .i64 (i : Int)) rfl rfl rfl ?_
          refine wo_gt rfl g7 ?_
          refine wo_val (v := (.bool ((i : Int) == 1))) (ap_cmp rfl rfl rfl rfl) rfl rfl ?_
          refine wo_gt rfl g7 ?_
          refine wm (.bool ((i : Int) == 1)) rfl rfl rfl ?_
          refine wo_gsT (v := ((i : Int) == 1)) rfl rfl (fun g8 => ?_) (fun g8 => ?_)
          · have pg8 := g8
            try simp only [BS] at pg8
            refine wm (.string ⟨⟨s⟩⟩) rfl rfl rfl ?_
            refine wo_gt rfl g8 ?_
            have u8_9 := u8_lt (s.getD 0 0)
            refine wo_val (v := (.int .u8 ((s.getD 0 0).toNat : Int))) (ap_idxS (j := 0) rfl rfl rfl (by decide) (getD_at (by omega))) rfl rfl ?_
            refine wo_gt rfl g8 ?_
            refine wo_val (v := (.bool (((s.getD 0 0).toNat : Int) == 48))) (ap_cmp rfl rfl rfl rfl) rfl rfl ?_
            refine wo_gt rfl g7 ?_
            refine wo_val (v := (.bool (((s.getD 0 0).toNat : Int) == 48))) (ap_pickT rfl g8 rfl) rfl rfl ?_
            refine wo_val (v := (.bool (((s.getD 0 0).toNat : Int) == 48))) (ap_pickF rfl g7 rfl) rfl rfl ?_
            refine wm (.bool (((s.getD 0 0).toNat : Int) == 48)) rfl rfl rfl ?_
            refine wo_gsF (v := (((s.getD 0 0).toNat : Int) == 48)) rfl rfl (fun g10 => ?_) (fun g10 => ?_)
            · have pg10 := g10
              try simp only [BS] at pg10
              refine wm (.int .i64 (i : Int)) rfl rfl rfl ?_
              refine wo_gt rfl g10 ?_
              refine wo_val (v := (.bool (decide ((18 : Int) < (i : Int))))) (ap_cmp rfl rfl rfl rfl) rfl rfl ?_
              refine wo_val (v := (.bool (decide ((18 : Int) < (i : Int))))) (ap_pickF rfl g10 rfl) rfl rfl ?_
              refine wo_nil ?_
              exact wk_skip_nil ⟨rfl, rfl, (Lu rfl (Lu rfl (Lu rfl (Lu rfl (Lu rfl (Lu rfl (Lu rfl (Lu rfl (Lu rfl (Lu rfl (Lu rfl (Lu rfl (Lu rfl (Lu rfl (Lu rfl (Lu rfl (Lu rfl (Lu rfl (Lu rfl (Lu rfl (Lu rfl (Lu rfl (Lu rfl Lr))))))))))))))))))))))), (agC (congrArg Value.bool (show (decide ((18 : Int) < (i : Int))) = ((((decide (((s.getD i 0).toNat : Int) < 48)) || (decide ((57 : Int) < ((s.getD i 0).toNat : Int)))) || (((i : Int) == 1) && (((s.getD 0 0).toNat : Int) == 48))) || (decide ((18 : Int) < (i : Int)))) by simp only [↓g5, ↓g7, ↓g8, ↓g10, BT])) agN)⟩
            · have pg10 := g10
              try simp only [BS] at pg10
              refine wo_gf0 rfl g10 rfl ?_
              refine wo_val (v := (.bool true)) (ap_pickT rfl g10 rfl) rfl rfl ?_
              refine wo_nil ?_
              exact wk_skip_nil ⟨rfl, rfl, (Lu rfl (Lu rfl (Lu rfl (Lu rfl (Lu rfl (Lu rfl (Lu rfl (Lu rfl (Lu rfl (Lu rfl (Lu rfl (Lu rfl (Lu rfl (Lu rfl (Lu rfl (Lu rfl (Lu rfl (Lu rfl (Lu rfl (Lu rfl (Lu rfl (Lu rfl (Lu rfl Lr))))))))))))))))))))))), (agC (congrArg Value.bool (show true = ((((decide (((s.getD i 0).toNat : Int) < 48)) || (decide ((57 : Int) < ((s.getD i 0).toNat : Int)))) || (((i : Int) == 1) && (((s.getD 0 0).toNat : Int) == 48))) || (decide ((18 : Int) < (i : Int)))) by simp only [↓g5, ↓g7, ↓g8, ↓g10, BT])) agN)⟩
          · have pg8 := g8
            try simp only [BS] at pg8
            refine wo_gf1 rfl g8 rfl ?_
            refine wo_gf1 rfl g8 rfl ?_
            refine wo_gt rfl g7 ?_
            refine wo_val (v := (.bool false)) (ap_pickF rfl g8 rfl) rfl rfl ?_
            refine wo_val (v := (.bool false)) (ap_pickF rfl g7 rfl) rfl rfl ?_
            refine wm (.bool false) rfl rfl rfl ?_
            refine wo_gt rfl rfl ?_
            refine wm (.int .i64 (i : Int)) rfl rfl rfl ?_
            refine wo_gt rfl rfl ?_
            refine wo_val (v := (.bool (decide ((18 : Int) < (i : Int))))) (ap_cmp rfl rfl rfl rfl) rfl rfl ?_
            refine wo_val (v := (.bool (decide ((18 : Int) < (i : Int))))) (ap_pickF rfl rfl rfl) rfl rfl ?_
            refine wo_nil ?_
            exact wk_skip_nil ⟨rfl, rfl, (Lu rfl (Lu rfl (Lu rfl (Lu rfl (Lu rfl (Lu rfl (Lu rfl (Lu rfl (Lu rfl (Lu rfl (Lu rfl (Lu rfl (Lu rfl (Lu rfl (Lu rfl (Lu rfl (Lu rfl (Lu rfl (Lu rfl (Lu rfl (Lu rfl (Lu rfl (Lu rfl Lr))))))))))))))))))))))), (agC (congrArg Value.bool (show (decide ((18 : Int) < (i : Int))) = ((((decide (((s.getD i 0).toNat : Int) < 48)) || (decide ((57 : Int) < ((s.getD i 0).toNat : Int)))) || (((i : Int) == 1) && (((s.getD 0 0).toNat : Int) == 48))) || (decide ((18 : Int) < (i : Int)))) by simp only [↓g5, ↓g7, ↓g8, BT])) agN)⟩
        · have pg7 := g7
          try simp only [BS] at pg7
          refine wo_gf0 rfl g7 rfl ?_
          refine wo_gf0 rfl g7 rfl ?_
          refine wo_gn rfl rfl ?_
          refine wo_gn rfl rfl ?_
          refine wo_gn rfl rfl ?_
          refine wo_gf0 rfl g7 rfl ?_
          refine wo_val (v := (.bool true)) (ap_pickT rfl g7 rfl) rfl rfl ?_
          refine wm (.bool true) rfl rfl rfl ?_
          refine wo_gf0 rfl rfl rfl ?_
          refine wo_gf0 rfl rfl rfl ?_
          refine wo_val (v := (.bool true)) (ap_pickT rfl rfl rfl) rfl rfl ?_
          refine wo_nil ?_
          exact wk_skip_nil ⟨rfl, rfl, (Lu rfl (Lu rfl (Lu rfl (Lu rfl (Lu rfl (Lu rfl (Lu rfl (Lu rfl (Lu rfl (Lu rfl (Lu rfl (Lu rfl (Lu rfl (Lu rfl (Lu rfl (Lu rfl (Lu rfl (Lu rfl (Lu rfl (Lu rfl (Lu rfl (Lu rfl (Lu rfl Lr))))))))))))))))))))))), (agC (congrArg Value.bool (show true = ((((decide (((s.getD i 0).toNat : Int) < 48)) || (decide ((57 : Int) < ((s.getD i 0).toNat : Int)))) || (((i : Int) == 1) && (((s.getD 0 0).toNat : Int) == 48))) || (decide ((18 : Int) < (i : Int)))) by simp only [↓g5, ↓g7, BT])) agN)⟩
      · have pg5 := g5
        try simp only [BS] at pg5
        refine wo_gf0 rfl g5 rfl ?_
        refine wo_gf0 rfl g5 rfl ?_
        refine wo_gf0 rfl g5 rfl ?_
        refine wo_val (v := (.bool true)) (ap_pickT rfl g5 rfl) rfl rfl ?_
        refine wm (.bool true) rfl rfl rfl ?_
        refine wo_gf0 rfl rfl rfl ?_
        refine wo_gf0 rfl rfl rfl ?_
        refine wo_gf0 rfl rfl rfl ?_
        refine wo_gn rfl rfl ?_
        refine wo_gn rfl rfl ?_
        refine wo_gn rfl rfl ?_
        refine wo_gf0 rfl rfl rfl ?_
        refine wo_val (v := (.bool true)) (ap_pickT rfl rfl rfl) rfl rfl ?_
        refine wm (.bool true) rfl rfl rfl ?_
        refine wo_gf0 rfl rfl rfl ?_
        refine wo_gf0 rfl rfl rfl ?_
        refine wo_val (v := (.bool true)) (ap_pickT rfl rfl rfl) rfl rfl ?_
        refine wo_nil ?_
        exact wk_skip_nil ⟨rfl, rfl, (Lu rfl (Lu rfl (Lu rfl (Lu rfl (Lu rfl (Lu rfl (Lu rfl (Lu rfl (Lu rfl (Lu rfl (Lu rfl (Lu rfl (Lu rfl (Lu rfl (Lu rfl (Lu rfl (Lu rfl (Lu rfl (Lu rfl (Lu rfl (Lu rfl (Lu rfl (Lu rfl Lr))))))))))))))))))))))), (agC (congrArg Value.bool (show true = ((((decide (((s.getD i 0).toNat : Int) < 48)) || (decide ((57 : Int) < ((s.getD i 0).toNat : Int)))) || (((i : Int) == 1) && (((s.getD 0 0).toNat : Int) == 48))) || (decide ((18 : Int) < (i : Int)))) by simp only [↓g5, BT])) agN)⟩
    · skip
      rintro g3 H rfl
      refine wk_skip_seq ?_
      refine wk_cond (v := ((((decide (((s.getD i 0).toNat : Int) < 48)) || (decide ((57 : Int) < ((s.getD i 0).toNat : Int)))) || (((i : Int) == 1) && (((s.getD 0 0).toNat : Int) == 48))) || (decide ((18 : Int) < (i : Int))))) rfl rfl (fun c11b => ?_) (fun c11b => ?_)
      · have c11 := c11b
        try simp only [BS] at c11
        have pc := c11
        refine wk_seq ?_
        refine wk_region ?_
        refine wa (.int .u64 0) rfl rfl rfl ?_
        refine wa (.bool false) rfl rfl rfl ?_
        refine wo_nil ?_
        refine wk_skip_seq ?_
        refine wk_ret ⟨.inr rfl, _, rfl, 0, false, rfl, rfl, (by have e := num_bad (m := most) pi pc; rw [e]; (try rfl)), (by have e := num_bad (m := most) pi pc; rw [e]; (try rfl))⟩
      · have c11 := c11b
        try simp only [BS] at c11
        have pc := c11
        have hp := pow_le (show i ≤ 18 by omega)
        refine wk_skip_seq ?_
        refine wk_region ?_
        refine wm (.int .u64 (m : Int)) rfl rfl rfl ?_
        refine wo_val (v := (.int .u64 (10 * (m : Int)))) (ap_mul rfl rfl (w_u64 (n := 10 * (m : Int)) (by omega))) rfl rfl ?_
        refine wm (.string ⟨⟨s⟩⟩) rfl rfl rfl ?_
        refine wm (.int .i64 (i : Int)) rfl rfl rfl ?_
        have u8_12 := u8_lt (s.getD i 0)
        refine wo_val (v := (.int .u8 ((s.getD i 0).toNat : Int))) (ap_idxS (j := (i : Int)) rfl rfl rfl (by omega) (getD_at (by omega))) rfl rfl ?_
        refine wo_val (v := (.int .u8 ((((s.getD i 0).toNat) - 48 : Nat) : Int))) (ap_sub rfl rfl (natsub (a := ((s.getD i 0).toNat)) (b := 48) (by omega) (w_u8 (by omega)))) rfl rfl ?_
        refine wo_val (v := (.int .u64 ((((s.getD i 0).toNat) - 48 : Nat) : Int))) (ap_cv rfl rfl rfl (w_u64 (n := ((((s.getD i 0).toNat) - 48 : Nat) : Int)) (by omega))) rfl rfl ?_
        refine wo_val (v := (.int .u64 ((10 * (m : Int)) + ((((s.getD i 0).toNat) - 48 : Nat) : Int)))) (ap_add rfl rfl (w_u64 (n := (10 * (m : Int)) + ((((s.getD i 0).toNat) - 48 : Nat) : Int)) (by omega))) rfl rfl ?_
        refine wa (.int .u64 ((10 * (m : Int)) + ((((s.getD i 0).toNat) - 48 : Nat) : Int))) rfl rfl rfl ?_
        refine wo_nil ?_
        refine wk_skip_block ?_
        refine wk_skip_seq ?_
        refine wk_region ?_
        refine wm (.int .i64 (i : Int)) rfl rfl rfl ?_
        refine wo_val (v := (.int .i64 ((i : Int) + 1))) (ap_add rfl rfl (w_i64 (n := (i : Int) + 1) (by omega))) rfl rfl ?_
        refine wa (.int .i64 ((i : Int) + 1)) rfl rfl rfl ?_
        refine wo_nil ?_
        refine wk_skip_seq ?_
        refine ih1 _ _ _ ?_ ⟨i + 1, (10 * m) + (((s.getD i 0).toNat) - 48), rfl, (agC rfl (agC rfl (agC rfl (agC rfl agN)))), rfl, (by first | assumption | omega | (simp at *; omega)), (by first | rfl | (rw [val_take (by omega), h2])), (by first | rfl | (rw [all_take (by omega), h3, Bool.true_and, dig_iff]; omega)), (by first | decide | (rw [Nat.pow_succ]; omega)), (by intro hh; first | omega | (rcases Nat.lt_or_ge i 2 with h | h; exact pc.1.2 (by omega); exact h5 h)), (by first | assumption | omega | (simp at *; omega))⟩
        omega
  · have c2 := c2b
    try simp only [BS] at c2
    have pi := c2
    refine wk_exit_seq ?_
    refine wk_exit_seq ?_
    refine wk_exit_block ?_
    refine wk_skip_seq ?_
    refine wk_seq ?_
    refine wk_seq ?_
    refine wk_rcut 45 51 [] [(51, (.bool ((s == []) || (decide ((most : Int) < (m : Int))))))] (fun H' => H' = H) ?_ ?_
    · skip
      refine wk_region ?_
      refine wm (.string ⟨⟨s⟩⟩) rfl rfl rfl ?_
      refine wo_val (v := (.bool (s == []))) (ap_eqS rfl rfl) rfl rfl ?_
      refine wm (.bool (s == [])) rfl rfl rfl ?_
      refine wo_gsF (v := (s == [])) rfl rfl (fun g14 => ?_) (fun g14 => ?_)
      · have pg14 := g14
        try simp only [BS] at pg14
        refine wm (.int .u64 (m : Int)) rfl rfl rfl ?_
        refine wo_gt rfl g14 ?_
        refine wm (.int .u64 (most : Int)) rfl rfl rfl ?_
        refine wo_gt rfl g14 ?_
        refine wo_val (v := (.bool (decide ((most : Int) < (m : Int))))) (ap_cmp rfl rfl rfl rfl) rfl rfl ?_
        refine wo_val (v := (.bool (decide ((most : Int) < (m : Int))))) (ap_pickF rfl g14 rfl) rfl rfl ?_
        refine wo_nil ?_
        exact wk_skip_nil ⟨rfl, rfl, (Lu rfl (Lu rfl (Lu rfl (Lu rfl (Lu rfl (Lu rfl (Lu rfl Lr))))))), (agC (congrArg Value.bool (show (decide ((most : Int) < (m : Int))) = ((s == []) || (decide ((most : Int) < (m : Int)))) by simp only [↓g14, BT])) agN)⟩
      · have pg14 := g14
        try simp only [BS] at pg14
        refine wo_gf0 rfl g14 rfl ?_
        refine wo_gf0 rfl g14 rfl ?_
        refine wo_val (v := (.bool true)) (ap_pickT rfl g14 rfl) rfl rfl ?_
        refine wo_nil ?_
        exact wk_skip_nil ⟨rfl, rfl, (Lu rfl (Lu rfl (Lu rfl (Lu rfl (Lu rfl (Lu rfl (Lu rfl Lr))))))), (agC (congrArg Value.bool (show true = ((s == []) || (decide ((most : Int) < (m : Int)))) by simp only [↓g14, BT])) agN)⟩
    · skip
      rintro g13 H rfl
      refine wk_skip_seq ?_
      refine wk_cond (v := ((s == []) || (decide ((most : Int) < (m : Int))))) rfl rfl (fun c15b => ?_) (fun c15b => ?_)
      · have c15 := c15b
        try simp only [BS] at c15
        have pm := c15
        refine wk_seq ?_
        refine wk_region ?_
        refine wa (.int .u64 0) rfl rfl rfl ?_
        refine wa (.bool false) rfl rfl rfl ?_
        refine wo_nil ?_
        refine wk_skip_seq ?_
        refine wk_ret ⟨.inr rfl, _, rfl, 0, false, rfl, rfl, (by rcases pm with pm | pm; (subst pm; rw [num_nil]; rfl); (by_cases hs : s = []; (subst hs; rw [num_nil]; rfl)); have e := num_fin (most := most) h1 pi h2 h3 h6 h5 hs; rw [e]; (try rfl); split <;> first | rfl | (exfalso; omega)), (by rcases pm with pm | pm; (subst pm; rw [num_nil]; rfl); (by_cases hs : s = []; (subst hs; rw [num_nil]; rfl)); have e := num_fin (most := most) h1 pi h2 h3 h6 h5 hs; rw [e]; (try rfl); split <;> first | rfl | (exfalso; omega))⟩
      · have c15 := c15b
        try simp only [BS] at c15
        have pm := c15
        refine wk_skip_seq ?_
        refine wk_seq ?_
        refine wk_region ?_
        refine wm (.int .u64 (m : Int)) rfl rfl rfl ?_
        refine wa (.int .u64 (m : Int)) rfl rfl rfl ?_
        refine wa (.bool true) rfl rfl rfl ?_
        refine wo_nil ?_
        refine wk_skip_seq ?_
        refine wk_ret ⟨.inr rfl, _, rfl, (m : Int), true, rfl, rfl, (by have e := num_fin (most := most) h1 pi h2 h3 h6 h5 pm.1; rw [e]; (try rfl); split <;> first | rfl | (exfalso; omega)), (by have e := num_fin (most := most) h1 pi h2 h3 h6 h5 pm.1; rw [e]; (try rfl); split <;> first | rfl | (exfalso; omega))⟩

theorem rp1 {s : List UInt8} (c : s = [] ∨ ((s.getD 0 0).toNat : Int) ≠ 45) : parseS s = (posS s 9223372036854775807).map fun n => (n : Int) := by
  apply parse_p
  intro h
  rcases c with rfl | c
  · simp at h
  · exact c
theorem rp1' {o : Option Nat} : ((o.getD 0 : Nat) : Int) = (o.map fun n => (n : Int)).getD 0 ∧ o.isSome = (o.map fun n => (n : Int)).isSome := by cases o <;> exact ⟨rfl, rfl⟩
theorem pos_le {s : List UInt8} {m : Nat} : (posS s m).getD 0 ≤ m := by
  unfold posS
  split
  · rename_i h; exact h.2
  · exact Nat.zero_le _
theorem rp2 {s : List UInt8} (c : s ≠ [] ∧ ((s.getD 0 0).toNat : Int) = 45) : parseS s = sgn (posS (s.drop 1) 9223372036854775808) := by
  apply parse_b
  refine ⟨?_, c.2⟩
  cases s with
  | nil => exact absurd rfl c.1
  | cons a l => simp
theorem rp3 {o : Option Nat} (c : o.isSome = false ∨ ((o.getD 0 : Nat) : Int) = 0) : sgn o = none := by
  cases o with
  | none => rfl
  | some n =>
    rcases c with c | c
    · cases c
    · have : n = 0 := by simpa using c
      subst this; rfl
theorem rp4 {o : Option Nat} (c : o.isSome = true ∧ ((o.getD 0 : Nat) : Int) ≠ 0) : 0 - ((o.getD 0 : Nat) - 1 : Int) - 1 = (sgn o).getD 0 ∧ true = (sgn o).isSome := by
  cases o with
  | none => cases c.1
  | some n =>
    have h0 : n ≠ 0 := fun e => c.2 (by rw [e]; rfl)
    rw [sgn_of (by omega)]
    refine ⟨?_, rfl⟩
    show 0 - ((n : Int) - 1) - 1 = -(n : Int)
    omega

theorem rparse_c (ex : FuncId) (s : List UInt8) (H : Heap) : C Try.prog 0 (KX ex) 20 [(.string ⟨⟨s⟩⟩)] H fun v H' => ∃ (r : Int) (ok : Bool), H' = H ∧ v = .tuple ⟨[.int .i64 r, .bool ok]⟩ ∧ r = (parseS s).getD 0 ∧ ok = (parseS s).isSome := by
  refine c_enter Try.func20 rfl rfl ?_
  refine wk_seq ?_
  refine wk_region ?_
  refine wa (.int .i64 0) rfl rfl rfl ?_
  refine wa (.bool false) rfl rfl rfl ?_
  refine wo_nil ?_
  refine wk_skip_seq ?_
  refine wk_seq ?_
  refine wk_seq ?_
  refine wk_rcut 8 14 [] [(14, (.bool ((s == []) || (((s.getD 0 0).toNat : Int) != 45))))] (fun H' => H' = H) ?_ ?_
  · skip
    refine wk_region ?_
    refine wm (.string ⟨⟨s⟩⟩) rfl rfl rfl ?_
    refine wo_val (v := (.bool (s == []))) (ap_eqS rfl rfl) rfl rfl ?_
    refine wm (.bool (s == [])) rfl rfl rfl ?_
    refine wo_gsF (v := (s == [])) rfl rfl (fun g2 => ?_) (fun g2 => ?_)
    · have pg2 := g2
      try simp only [BS] at pg2
      refine wm (.string ⟨⟨s⟩⟩) rfl rfl rfl ?_
      refine wo_gt rfl g2 ?_
      have u8_3 := u8_lt (s.getD 0 0)
      refine wo_val (v := (.int .u8 ((s.getD 0 0).toNat : Int))) (ap_idxS (j := 0) rfl rfl rfl (by decide) (getD_at (by first | omega | (have := @pos_le s 9223372036854775807; omega) | (have := @pos_le (s.drop 1) 9223372036854775808; have := pc.2; omega) | (simp only [List.length_drop]; omega) | (have := List.length_pos_iff.2 (by assumption : s ≠ []); omega) | (obtain ⟨pb1, _⟩ := pb; have := List.length_pos_iff.2 pb1; omega) | (have := @pos_le s 9223372036854775807; constructor <;> omega)))) rfl rfl ?_
      refine wo_gt rfl g2 ?_
      refine wo_val (v := (.bool (((s.getD 0 0).toNat : Int) != 45))) (ap_cmp rfl rfl rfl rfl) rfl rfl ?_
      refine wo_val (v := (.bool (((s.getD 0 0).toNat : Int) != 45))) (ap_pickF rfl g2 rfl) rfl rfl ?_
      refine wo_nil ?_
      exact wk_skip_nil ⟨rfl, rfl, (Lu rfl (Lu rfl (Lu rfl (Lu rfl (Lu rfl (Lu rfl (Lu rfl Lr))))))), (agC (congrArg Value.bool (show (((s.getD 0 0).toNat : Int) != 45) = ((s == []) || (((s.getD 0 0).toNat : Int) != 45)) by simp only [↓g2, BT])) agN)⟩
    · have pg2 := g2
      try simp only [BS] at pg2
      refine wo_gf0 rfl g2 rfl ?_
      refine wo_gf0 rfl g2 rfl ?_
      refine wo_val (v := (.bool true)) (ap_pickT rfl g2 rfl) rfl rfl ?_
      refine wo_nil ?_
      exact wk_skip_nil ⟨rfl, rfl, (Lu rfl (Lu rfl (Lu rfl (Lu rfl (Lu rfl (Lu rfl (Lu rfl Lr))))))), (agC (congrArg Value.bool (show true = ((s == []) || (((s.getD 0 0).toNat : Int) != 45)) by simp only [↓g2, BT])) agN)⟩
  · skip
    rintro g1 H rfl
    refine wk_skip_seq ?_
    refine wk_cond (v := ((s == []) || (((s.getD 0 0).toNat : Int) != 45))) rfl rfl (fun c4b => ?_) (fun c4b => ?_)
    · have c4 := c4b
      try simp only [BS] at c4
      have pb := c4
      refine wk_seq ?_
      refine wk_region ?_
      refine wm (.string ⟨⟨s⟩⟩) rfl rfl rfl ?_
      refine wo_call (ap_call rfl rfl rfl) rfl rfl (number_c ex s 9223372036854775807 _ (by decide)) ?_
      rintro _ H ⟨r5, ok5, rfl, rfl, rfl, rfl⟩
      refine wm (.tuple ⟨[(.int .u64 (((posS s 9223372036854775807).getD 0 : Nat) : Int)), (.bool ((posS s 9223372036854775807).isSome))]⟩) rfl rfl rfl ?_
      refine wo_val (v := (.int .u64 (((posS s 9223372036854775807).getD 0 : Nat) : Int))) (ap_ex rfl rfl) rfl rfl ?_
      refine wo_val (v := (.bool ((posS s 9223372036854775807).isSome))) (ap_ex rfl rfl) rfl rfl ?_
      refine wa (.int .u64 (((posS s 9223372036854775807).getD 0 : Nat) : Int)) rfl rfl rfl ?_
      refine wa (.bool ((posS s 9223372036854775807).isSome)) rfl rfl rfl ?_
      refine wo_nil ?_
      refine wk_skip_seq ?_
      refine wk_seq ?_
      refine wk_region ?_
      refine wm (.int .u64 (((posS s 9223372036854775807).getD 0 : Nat) : Int)) rfl rfl rfl ?_
      refine wo_val (v := (.int .i64 (((posS s 9223372036854775807).getD 0 : Nat) : Int))) (ap_cv rfl rfl rfl (w_i64 (n := (((posS s 9223372036854775807).getD 0 : Nat) : Int)) (by first | omega | (have := @pos_le s 9223372036854775807; omega) | (have := @pos_le (s.drop 1) 9223372036854775808; have := pc.2; omega) | (simp only [List.length_drop]; omega) | (have := List.length_pos_iff.2 (by assumption : s ≠ []); omega) | (obtain ⟨pb1, _⟩ := pb; have := List.length_pos_iff.2 pb1; omega) | (have := @pos_le s 9223372036854775807; constructor <;> omega)))) rfl rfl ?_
      refine wm (.bool ((posS s 9223372036854775807).isSome)) rfl rfl rfl ?_
      refine wa (.int .i64 (((posS s 9223372036854775807).getD 0 : Nat) : Int)) rfl rfl rfl ?_
      refine wa (.bool ((posS s 9223372036854775807).isSome)) rfl rfl rfl ?_
      refine wo_nil ?_
      refine wk_skip_seq ?_
      refine wk_ret ⟨.inr rfl, _, rfl, (((posS s 9223372036854775807).getD 0 : Nat) : Int), (posS s 9223372036854775807).isSome, rfl, rfl, (by first | exact (rp1 pb ▸ rp1'.1) | exact (rp1 pb ▸ rp1'.2)), (by first | exact (rp1 pb ▸ rp1'.1) | exact (rp1 pb ▸ rp1'.2))⟩
    · have c4 := c4b
      try simp only [BS] at c4
      have pb := c4
      refine wk_skip_seq ?_
      refine wk_seq ?_
      refine wk_region ?_
      refine wm (.string ⟨⟨s⟩⟩) rfl rfl rfl ?_
      refine wo_val (v := (.string ⟨⟨s.drop 1⟩⟩)) (ap_slSd (i := 1) rfl rfl (optN (by decide)) (by first | omega | (have := @pos_le s 9223372036854775807; omega) | (have := @pos_le (s.drop 1) 9223372036854775808; have := pc.2; omega) | (simp only [List.length_drop]; omega) | (have := List.length_pos_iff.2 (by assumption : s ≠ []); omega) | (obtain ⟨pb1, _⟩ := pb; have := List.length_pos_iff.2 pb1; omega) | (have := @pos_le s 9223372036854775807; constructor <;> omega))) rfl rfl ?_
      refine wo_call (ap_call rfl rfl rfl) rfl rfl (number_c ex (s.drop 1) 9223372036854775808 _ (by decide)) ?_
      rintro _ H ⟨r6, ok6, rfl, rfl, rfl, rfl⟩
      refine wm (.tuple ⟨[(.int .u64 (((posS (s.drop 1) 9223372036854775808).getD 0 : Nat) : Int)), (.bool ((posS (s.drop 1) 9223372036854775808).isSome))]⟩) rfl rfl rfl ?_
      refine wo_val (v := (.int .u64 (((posS (s.drop 1) 9223372036854775808).getD 0 : Nat) : Int))) (ap_ex rfl rfl) rfl rfl ?_
      refine wo_val (v := (.bool ((posS (s.drop 1) 9223372036854775808).isSome))) (ap_ex rfl rfl) rfl rfl ?_
      refine wa (.int .u64 (((posS (s.drop 1) 9223372036854775808).getD 0 : Nat) : Int)) rfl rfl rfl ?_
      refine wa (.bool ((posS (s.drop 1) 9223372036854775808).isSome)) rfl rfl rfl ?_
      refine wo_nil ?_
      refine wk_skip_seq ?_
      refine wk_seq ?_
      refine wk_seq ?_
      refine wk_rcut 29 34 [] [(34, (.bool ((!((posS (s.drop 1) 9223372036854775808).isSome)) || ((((posS (s.drop 1) 9223372036854775808).getD 0 : Nat) : Int) == 0))))] (fun H' => H' = H) ?_ ?_
      · skip
        refine wk_region ?_
        refine wm (.bool ((posS (s.drop 1) 9223372036854775808).isSome)) rfl rfl rfl ?_
        refine wo_val (v := (.bool (!((posS (s.drop 1) 9223372036854775808).isSome)))) (ap_not rfl) rfl rfl ?_
        refine wm (.bool (!((posS (s.drop 1) 9223372036854775808).isSome))) rfl rfl rfl ?_
        refine wo_gsF (v := (!((posS (s.drop 1) 9223372036854775808).isSome))) rfl rfl (fun g8 => ?_) (fun g8 => ?_)
        · have pg8 := g8
          try simp only [BS] at pg8
          refine wm (.int .u64 (((posS (s.drop 1) 9223372036854775808).getD 0 : Nat) : Int)) rfl rfl rfl ?_
          refine wo_gt rfl g8 ?_
          refine wo_val (v := (.bool ((((posS (s.drop 1) 9223372036854775808).getD 0 : Nat) : Int) == 0))) (ap_cmp rfl rfl rfl rfl) rfl rfl ?_
          refine wo_val (v := (.bool ((((posS (s.drop 1) 9223372036854775808).getD 0 : Nat) : Int) == 0))) (ap_pickF rfl g8 rfl) rfl rfl ?_
          refine wo_nil ?_
          exact wk_skip_nil ⟨rfl, rfl, (Lu rfl (Lu rfl (Lu rfl (Lu rfl (Lu rfl (Lu rfl Lr)))))), (agC (congrArg Value.bool (show ((((posS (s.drop 1) 9223372036854775808).getD 0 : Nat) : Int) == 0) = ((!((posS (s.drop 1) 9223372036854775808).isSome)) || ((((posS (s.drop 1) 9223372036854775808).getD 0 : Nat) : Int) == 0)) by simp only [↓g8, BT])) agN)⟩
        · have pg8 := g8
          try simp only [BS] at pg8
          refine wo_gf0 rfl g8 rfl ?_
          refine wo_val (v := (.bool true)) (ap_pickT rfl g8 rfl) rfl rfl ?_
          refine wo_nil ?_
          exact wk_skip_nil ⟨rfl, rfl, (Lu rfl (Lu rfl (Lu rfl (Lu rfl (Lu rfl (Lu rfl Lr)))))), (agC (congrArg Value.bool (show true = ((!((posS (s.drop 1) 9223372036854775808).isSome)) || ((((posS (s.drop 1) 9223372036854775808).getD 0 : Nat) : Int) == 0)) by simp only [↓g8, BT])) agN)⟩
      · skip
        rintro g7 H rfl
        refine wk_skip_seq ?_
        refine wk_cond (v := ((!((posS (s.drop 1) 9223372036854775808).isSome)) || ((((posS (s.drop 1) 9223372036854775808).getD 0 : Nat) : Int) == 0))) rfl rfl (fun c9b => ?_) (fun c9b => ?_)
        · have c9 := c9b
          try simp only [BS] at c9
          have pc := c9
          refine wk_seq ?_
          refine wk_region ?_
          refine wa (.int .i64 0) rfl rfl rfl ?_
          refine wa (.bool false) rfl rfl rfl ?_
          refine wo_nil ?_
          refine wk_skip_seq ?_
          refine wk_ret ⟨.inr rfl, _, rfl, 0, false, rfl, rfl, (by rw [rp2 pb, rp3 pc]; rfl), (by rw [rp2 pb, rp3 pc]; rfl)⟩
        · have c9 := c9b
          try simp only [BS] at c9
          have pc := c9
          refine wk_skip_seq ?_
          refine wk_seq ?_
          refine wk_region ?_
          refine wm (.int .u64 (((posS (s.drop 1) 9223372036854775808).getD 0 : Nat) : Int)) rfl rfl rfl ?_
          refine wo_val (v := (.int .u64 ((((posS (s.drop 1) 9223372036854775808).getD 0 : Nat) : Int) - 1))) (ap_sub rfl rfl (w_u64 (n := (((posS (s.drop 1) 9223372036854775808).getD 0 : Nat) : Int) - 1) (by first | omega | (have := @pos_le s 9223372036854775807; omega) | (have := @pos_le (s.drop 1) 9223372036854775808; have := pc.2; omega) | (simp only [List.length_drop]; omega) | (have := List.length_pos_iff.2 (by assumption : s ≠ []); omega) | (obtain ⟨pb1, _⟩ := pb; have := List.length_pos_iff.2 pb1; omega) | (have := @pos_le s 9223372036854775807; constructor <;> omega)))) rfl rfl ?_
          refine wo_val (v := (.int .i64 ((((posS (s.drop 1) 9223372036854775808).getD 0 : Nat) : Int) - 1))) (ap_cv rfl rfl rfl (w_i64 (n := (((posS (s.drop 1) 9223372036854775808).getD 0 : Nat) : Int) - 1) (by first | omega | (have := @pos_le s 9223372036854775807; omega) | (have := @pos_le (s.drop 1) 9223372036854775808; have := pc.2; omega) | (simp only [List.length_drop]; omega) | (have := List.length_pos_iff.2 (by assumption : s ≠ []); omega) | (obtain ⟨pb1, _⟩ := pb; have := List.length_pos_iff.2 pb1; omega) | (have := @pos_le s 9223372036854775807; constructor <;> omega)))) rfl rfl ?_
          refine wo_val (v := (.int .i64 (0 - ((((posS (s.drop 1) 9223372036854775808).getD 0 : Nat) : Int) - 1)))) (ap_ng rfl (w_i64 (by first | omega | (have := @pos_le s 9223372036854775807; omega) | (have := @pos_le (s.drop 1) 9223372036854775808; have := pc.2; omega) | (simp only [List.length_drop]; omega) | (have := List.length_pos_iff.2 (by assumption : s ≠ []); omega) | (obtain ⟨pb1, _⟩ := pb; have := List.length_pos_iff.2 pb1; omega) | (have := @pos_le s 9223372036854775807; constructor <;> omega)))) rfl rfl ?_
          refine wo_val (v := (.int .i64 ((0 - ((((posS (s.drop 1) 9223372036854775808).getD 0 : Nat) : Int) - 1)) - 1))) (ap_sub rfl rfl (w_i64 (n := (0 - ((((posS (s.drop 1) 9223372036854775808).getD 0 : Nat) : Int) - 1)) - 1) (by first | omega | (have := @pos_le s 9223372036854775807; omega) | (have := @pos_le (s.drop 1) 9223372036854775808; have := pc.2; omega) | (simp only [List.length_drop]; omega) | (have := List.length_pos_iff.2 (by assumption : s ≠ []); omega) | (obtain ⟨pb1, _⟩ := pb; have := List.length_pos_iff.2 pb1; omega) | (have := @pos_le s 9223372036854775807; constructor <;> omega)))) rfl rfl ?_
          refine wa (.int .i64 ((0 - ((((posS (s.drop 1) 9223372036854775808).getD 0 : Nat) : Int) - 1)) - 1)) rfl rfl rfl ?_
          refine wa (.bool true) rfl rfl rfl ?_
          refine wo_nil ?_
          refine wk_skip_seq ?_
          refine wk_ret ⟨.inr rfl, _, rfl, (0 - ((((posS (s.drop 1) 9223372036854775808).getD 0 : Nat) : Int) - 1)) - 1, true, rfl, rfl, (by rw [rp2 pb]; first | exact (rp4 pc).1 | exact (rp4 pc).2), (by rw [rp2 pb]; first | exact (rp4 pc).1 | exact (rp4 pc).2)⟩
end Go.Proofs.Ytcakpkdeojhacab.w3
